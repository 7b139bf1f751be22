/- chip: a description that is right, of any raw numbers. No condition of ours. -/
import Derived.KernelRfl
import Derived.Test.YticjkhagldkejaaGreatDoorProg
import Derived.Test.YticjkhagldkejaaGreatDoorFirmSleepsK5
namespace Go.Proofs.YticjkhagldkejaaGreatDoor
set_option linter.all false
open Go.RowKit
section
theorem aAi (c n : Int) (w : World) (hc : -9223372036854775808 ≤ c ∧ c ≤ 9223372036854775807) (hn : 0 < n) :
  Calls Tryz.prog 17 #[.int .i64 c, .int .i64 n] w fun x w' => (∃ v, x = .returned v ∧ ∃ r : Int, v = .int .i64 r ∧ 0 ≤ r ∧ r < n) ∧ Below w.heap.size w w' := by
 refine XK.enter (vs := [.int .i64 c, .int .i64 n]) Tryz.func17 rfl Tryz.ntmps17 (by simp) ?_
 refine XK.seq ?_
 refine XK.region ?_
 refine aL rfl (by decide) ?_
 refine XK.aE ?_
 refine XK.cut (fun e R H => ∃ c : Int, 0 ≤ c ∧ e = [(0, .int .i64 c), (1, .int .i64 n)] ∧ R = [all w] ∧ H = []) ?_ ?_
 ·refine XK.seq ?_
  refine XK.region ?_
  refine aG rfl (by decide) ?_
  refine hJ rfl rfl (by decide) ?_
  refine XK.aE ?_
  refine XK.if_ rfl (fun h => ?_) (fun h => ?_)
  ·refine XK.go ?_
   refine aC3 rfl (bA (by omega)) (by decide) ?_
   refine XK.go ?_
   exact XK.aK [(0, .int .i64 (0 - (c + 1))), (1, .int .i64 n)] (XK.meet ⟨_, by omega, rfl, rfl, rfl⟩)
  ·refine XK.go ?_
   exact XK.aK [(0, .int .i64 c), (1, .int .i64 n)] (XK.meet ⟨_, by omega, rfl, rfl, rfl⟩)
 rintro _ _ _ ⟨c, hc0, rfl, rfl, rfl⟩
 refine XK.go ?_
 refine qC rfl rfl (by omega) (rem_in (by omega)) (by decide) ?_
 refine XK.go ?_
 exact XK.aI rfl rfl fun w' st => ⟨⟨_, rfl, _, rfl, Int.emod_nonneg _ (by omega), Int.emod_lt_of_pos _ hn⟩, st.below (by simp)⟩
set_option maxRecDepth 100000 in
set_option maxHeartbeats 4000000 in
theorem aHI (A : Option Addr) (n c : Nat) (zs : List Int) (w : World) (h0 : aH (all w) 1 A n (aO zs)) (hz : Xk zs) (hn : n = zs.length) (hn2 : n ≤ 9223372036854775807) :
    Calls Tryz.prog 14 #[.slice A n c] w fun x w' => (∃ v, x = .returned v ∧ ∃ cs s, v = .agg cs ∧ mW (dU (fresh w w')) s cs ∧ s.made) ∧ Below w.heap.size w w' := by
  refine XK.enter (vs := [.slice A n c]) Tryz.func14 rfl Tryz.ntmps14 (by simp) ?_
  refine XK.seq ?_
  refine XK.region ?_
  refine bZ (cs := [.slice none 0 0, .slice none 0 0, .slice none 0 0, .slice none 0 0]) (aM (by kernel_rfl)) (by decide) fun g1 => ?_
  refine XK.aE ?_
  refine XK.seq ?_
  refine XK.region ?_
  refine aL rfl (by decide) ?_
  refine XK.aE ?_
  refine XK.seq ?_
  refine XK.region ?_
  refine kD 8 (n := 120) (el := 3) (z := .int .i64 0) (by kernel_rfl) (by kernel_rfl) rfl rfl rfl (by omega) (by omega) (by decide) fun g2 => ?_
  refine aL rfl (by decide) ?_
  refine XK.aE ?_
  refine XK.cut (fun e R H => ∃ ds, tR ds ∧ e = [(4, .slice (some ⟨g2, 0, none⟩) 120 120), (2, .pointer (some ⟨g1, 0, none⟩))] ∧ R = [all w] ∧ H = [HP.aF g2 3 (aO ds), HP.aF g1 29 [.slice none 0 0, .slice none 0 0, .slice none 0 0, .slice none 0 0]]) ?_ ?_
  ·
    refine XK.seq ?_
    refine XK.region ?_
    refine aL rfl (by decide) ?_
    refine XK.aE ?_
    refine XK.aK [(5, .int .i64 0), (4, .slice (some ⟨g2, 0, none⟩) 120 120), (2, .pointer (some ⟨g1, 0, none⟩)), (0, .slice A n c)] ?_
    refine XK.block ?_
    refine XK.loop (fun m e R H => ∃ (k : Nat) (ds : List Int), tR ds ∧ k ≤ 120 ∧ m = 120 - k ∧ e = [(5, .int .i64 k), (4, .slice (some ⟨g2, 0, none⟩) 120 120), (2, .pointer (some ⟨g1, 0, none⟩)), (0, .slice A n c)] ∧ R = [all w] ∧ H = [HP.aF g2 3 (aO ds), HP.aF g1 29 [.slice none 0 0, .slice none 0 0, .slice none 0 0, .slice none 0 0]]) 120 ⟨0, List.replicate 120 0, tR.zero, by omega, rfl, rfl, rfl, by simp [aO]⟩ fun m e R H hI => ?_
    obtain ⟨k, ds, hd, hk, rfl, rfl, rfl, rfl⟩ := hI
    refine XK.seq ?_
    refine XK.seq ?_
    refine XK.region ?_
    refine aG rfl (by decide) ?_
    refine aG rfl (by decide) ?_
    refine fX (el := 3) (by kernel_rfl) rfl (by decide) ?_
    refine hJ rfl rfl (by decide) ?_
    refine aG rfl (by decide) ?_
    refine bT (t := 23) rfl (fun hg => ?_) (fun hg => ?_)
    ·
      refine aS rfl rfl ?_; refine aG rfl (by decide) ?_
      refine aS rfl rfl ?_; refine fX (el := 3) (by kernel_rfl) rfl (by decide) ?_
      refine aS rfl rfl ?_; refine Dk rfl rfl (by decide) ?_
      (first | refine cL rfl rfl (by decide) ?_ | refine cM rfl rfl (by decide) ?_)
      refine XK.aE ?_
      refine XK.if_ rfl (fun h => ?_) (fun h => ?_)
      ·
        refine XK.skip ?_
        refine XK.norm ?_
        refine XK.seq ?_
        refine XK.block ?_
        have hk2 : k < 120 := by omega
        have hn0 : 0 < n := by omega
        obtain ⟨b, off, rfl, fS, hc⟩ := h0.2 hn0
        have hkn : ((k % n : Nat) : Int) = (k : Int) % (n : Int) := Int.natCast_emod k n
        have Bw : k % n < n := Nat.mod_lt _ hn0
        have Cd : ((k / n : Nat) : Int) = (k : Int) / (n : Int) := Int.natCast_ediv k n
        have jX : k / n ≤ k := Nat.div_le_self _ _
        have hdb : 0 ≤ (k : Int) / (n : Int) ∧ (k : Int) / (n : Int) ≤ k := ⟨Int.ediv_nonneg (by omega) (by omega), by have h2 : ((k / n : Nat) : Int) ≤ (k : Int) := Int.ofNat_le.2 jX; rwa [Cd] at h2⟩
        have hrd : ∀ H, Rd w [all w] H b (off + k % n) (.int .i64 (zs[k % n]?.getD 0)) := fun H => Rd.ro (p := all w) (by simp) fS (by exact hc _ _ (Tg zs _ (by omega)))
        have sW := hz (k % n)
        have hyb := aCX (z := zs[k % n]?.getD 0) (d := 1 + (k : Int) / (n : Int)) (lo := -9223372036854775808) (hi := 9223372036854775807) (by omega) (by omega) (by omega) sW
        refine XK.draw 16 (by kernel_rfl) (by kernel_rfl) ?_
        refine XA.dA 0 rfl rfl rfl (cI rfl) ?_
        refine XA.dA 1 rfl rfl rfl (cI rfl) ?_
        refine XA.dA 2 rfl rfl rfl (cI rfl) ?_
        refine XA.dA 3 rfl rfl rfl (cI rfl) ?_
        refine XA.dA 4 rfl rfl rfl (cI rfl) ?_
        refine XA.dA 5 rfl rfl rfl (vH (el := 3) (by kernel_rfl) rfl) ?_
        refine XA.dA 6 rfl rfl rfl (pQ rfl rfl (by omega) (rem_in (by omega))) ?_
        refine XA.dA 7 rfl rfl rfl (oH (k % n) (off + k % n) (el := 3) (sz := 1) (by kernel_rfl) (by kernel_rfl) rfl rfl hkn.symm Bw (by omega)) ?_
        refine XA.dA 8 rfl rfl rfl (iQ (by kernel_rfl) rfl (hrd _)) ?_
        refine XA.dA 9 rfl rfl rfl (cI rfl) ?_
        refine XA.dA 10 rfl rfl rfl (cI rfl) ?_
        refine XA.dA 11 rfl rfl rfl (vH (el := 3) (by kernel_rfl) rfl) ?_
        refine XA.dA 12 rfl rfl rfl (Ku rfl rfl (by omega) (Bg (by omega) (by omega) (by omega))) ?_
        refine XA.dA 13 rfl rfl rfl (lN rfl rfl (bA (by omega))) ?_
        refine XA.dA 14 rfl rfl rfl (Ku rfl rfl (by omega) (bA hyb)) ?_
        refine XA.next 15 rfl (by kernel_rfl) ?_
        refine Mn (f := 17) (fi := []) (ca := []) (by kernel_rfl) rfl rfl (by decide) (fun v => ∃ r : Int, v = .int .i64 r ∧ 0 ≤ r ∧ r < 1000000) (fun w1 st => aAi _ _ w1 hyb (by omega)) fun v hv => ?_
        obtain ⟨r, rfl, Oq, dJ⟩ := hv
        refine XA.bk ?_
        refine XA.next 16 rfl (by kernel_rfl) ?_
        refine dH k k (el := 3) (sz := 1) (by kernel_rfl) (by kernel_rfl) rfl rfl rfl hk2 (by omega) (by decide) ?_
        refine XA.bt ?_
        refine XA.next 17 rfl (by kernel_rfl) ?_
        refine yT 0 rfl (by kernel_rfl) rfl rfl rfl (by simp [aO, hd.1]; omega) ?_
        refine XA.bt ?_
        refine XA.done (by kernel_rfl) ?_
        refine XK.norm ?_
        refine XK.region ?_
        refine aG rfl (by decide) ?_
        refine dO rfl rfl (bA (by omega)) (by decide) ?_
        refine aL rfl (by decide) ?_
        refine XK.aE ?_
        exact XK.aK [(5, .int .i64 (k + 1)), (4, .slice (some ⟨g2, 0, none⟩) 120 120), (2, .pointer (some ⟨g1, 0, none⟩)), (0, .slice (some ⟨b, off, none⟩) n c)] (XK.round (120 - (k + 1)) (by omega) ⟨k + 1, ds.set k r, hd.gH k Oq dJ, by omega, rfl, rfl, rfl, by simp [aO, List.map_set]⟩)
      ·
        refine XK.exit ?_
        refine XK.norm ?_
        exact XK.aK [(4, .slice (some ⟨g2, 0, none⟩) 120 120), (2, .pointer (some ⟨g1, 0, none⟩))] (XK.meet ⟨ds, hd, rfl, rfl, rfl⟩)
    ·
      refine aP rfl rfl rfl (by decide) ?_
      refine aP rfl rfl rfl (by decide) ?_
      refine aP rfl rfl rfl (by decide) ?_
      (first | refine cL rfl rfl (by decide) ?_ | refine cM rfl rfl (by decide) ?_)
      refine XK.aE ?_
      refine XK.cond rfl (fun h => by cases h) (fun _ => ?_)
      refine XK.exit ?_
      refine XK.norm ?_
      exact XK.aK [(4, .slice (some ⟨g2, 0, none⟩) 120 120), (2, .pointer (some ⟨g1, 0, none⟩))] (XK.meet ⟨ds, hd, rfl, rfl, rfl⟩)
  rintro _ _ _ ⟨ds, hd, rfl, rfl, rfl⟩
  have dd := hd.at_
  have b0 := hd.bd 0
  have b1 := hd.bd 1
  refine XK.seq ?_
  refine XK.region ?_
  refine aG rfl (by decide) ?_
  refine dH 0 0 (el := 3) (sz := 1) (by kernel_rfl) (by kernel_rfl) rfl rfl (by rfl) (by omega) (by omega) (by decide) ?_
  refine gA (by kernel_rfl) rfl (by first | exact Rd.eL (dd _ (by omega)) | exact Rd.ld) (by decide) ?_
  refine dO rfl rfl (bA (by omega)) (by decide) ?_
  refine rH (ds := .int .i64) (by kernel_rfl) (by kernel_rfl) rfl (wrap_u64 (by omega)) (by decide) ?_
  refine dB (zs := [.int .u8 0, .slice none 0 0, .int .u64 0, .int .i64 0, .int .i64 0, .int .i64 0]) (L := [(0, 1), (1, 1), (2, 1), (3, 1), (4, 1), (5, 1)]) (aM (by kernel_rfl)) (by kernel_rfl) rfl (by simp [aR, aU, Value.cells]; rfl) (by decide) ?_
  refine eP (el := 118) (sz := 6) (zs := [.int .u8 0, .slice none 0 0, .int .u64 0, .int .i64 0, .int .i64 0, .int .i64 0]) (by kernel_rfl) (aM (by kernel_rfl)) (by kernel_rfl) rfl (by decide) (by decide) rfl (by simp [aR, aU, Value.cells, List.range_succ, List.set]; rfl) (by decide) fun g3 => ?_
  refine dB (zs := [.slice none 0 0, .slice none 0 0, .slice none 0 0, .slice none 0 0]) (L := [(0, 1), (1, 1), (2, 1), (3, 1)]) (aM (by kernel_rfl)) (by kernel_rfl) rfl (by simp [aR, aU, Value.cells]; rfl) (by decide) ?_
  refine bZ (cs := [.slice none 0 0, .slice none 0 0, .slice none 0 0, .slice none 0 0]) (aM (by kernel_rfl)) (by decide) fun g4 => ?_
  refine eJ rfl rfl ?_; simp only [cC, Value.cells, List.set, List.take, List.drop, List.nil_append, List.append_nil, List.length_cons, List.length_nil, List.cons_append, Nat.reduceAdd]
  refine XK.aE ?_
  refine XK.seq ?_
  refine XK.region ?_
  refine aL rfl (by decide) ?_
  refine XK.aE ?_
  refine XK.seq ?_
  refine XK.region ?_
  refine aL rfl (by decide) ?_
  refine XK.aE ?_
  refine XK.cut (fun e R H => ∃ (cs : List dG) (A1 : Option Addr) (c1 : Nat) (q : Piece) (jL : List (List Value)), 1 ≤ cs.length ∧ cs.length ≤ 9 ∧ Fits dG.fit cs ∧ Rows (iX (dU q)) 6 cs jL ∧ lA w q ∧ e = [(6, .pointer (some ⟨g4, 0, none⟩)), (4, .slice (some ⟨g2, 0, none⟩) 120 120), (2, .pointer (some ⟨g1, 0, none⟩))] ∧ R = [q, all w] ∧ H = [HP.aF g4 29 [.slice A1 cs.length c1, .slice none 0 0, .slice none 0 0, .slice none 0 0], HP.own 118 6 (.slice A1 cs.length c1) cs.length jL.flatten, HP.aF g2 3 (aO ds), HP.aF g1 29 [.slice none 0 0, .slice none 0 0, .slice none 0 0, .slice none 0 0]]) ?_ ?_
  ·
    refine XK.seq ?_
    refine XK.region ?_
    refine aL rfl (by decide) ?_
    refine XK.aE ?_
    refine XK.Ls 1 6 1 rfl rfl (by omega) ?_
    refine XK.still [] [] [0, 1, 2, 3] (by simp) rfl (by decide) (by simp) fun q _ _ qQ => ?_
    have hq := qQ (by simp) (by simp)
    refine XK.aK [(8, .int .i64 0), (3, .int .i64 1), (7, .string ⟨#[112, 100, 103, 109, 103]⟩), (6, .pointer (some ⟨g4, 0, none⟩)), (4, .slice (some ⟨g2, 0, none⟩) 120 120), (2, .pointer (some ⟨g1, 0, none⟩))] ?_
    refine XK.block ?_
    refine XK.loop (fun m e R H => ∃ (k : Nat) (cs : List dG) (A1 : Option Addr) (c1 : Nat) (q : Piece) (jL : List (List Value)), (k : Int) ≤ dv ds 1 % 9 ∧ m = 9 - k ∧ cs.length = k + 1 ∧ Fits dG.fit cs ∧ Rows (iX (dU q)) 6 cs jL ∧ lA w q ∧ e = [(8, .int .i64 k), (3, .int .i64 1), (7, .string ⟨#[112, 100, 103, 109, 103]⟩), (6, .pointer (some ⟨g4, 0, none⟩)), (4, .slice (some ⟨g2, 0, none⟩) 120 120), (2, .pointer (some ⟨g1, 0, none⟩))] ∧ R = [q, all w] ∧ H = [HP.aF g4 29 [.slice A1 cs.length c1, .slice none 0 0, .slice none 0 0, .slice none 0 0], HP.own 118 6 (.slice A1 cs.length c1) cs.length jL.flatten, HP.aF g2 3 (aO ds), HP.aF g1 29 [.slice none 0 0, .slice none 0 0, .slice none 0 0, .slice none 0 0]]) 9 ⟨0, [⟨111, [], 1 + dv ds 0, 0, 0, 0⟩], some ⟨g3, 0, none⟩, 1, q, [[.int .u8 111, .slice none 0 0, .int .u64 (1 + dv ds 0), .int .i64 0, .int .i64 0, .int .i64 0]], by omega, rfl, rfl, (Fits.nil dG.fit).snoc ⟨by simp, .inl ⟨rfl, rfl, by dsimp only; omega, by dsimp only; omega, rfl, rfl, rfl⟩⟩, ⟨rfl, ⟨none, 0, 0, rfl, rfl, aH.nil _ _⟩, trivial⟩, hq, rfl, rfl, rfl⟩ fun m e R H hI => ?_
    obtain ⟨k, cs, A1, c1, q, jL, hk, rfl, eN, Et, uT, hq, rfl, rfl, rfl⟩ := hI
    refine XK.seq ?_
    refine XK.seq ?_
    refine XK.region ?_
    refine aG rfl (by decide) ?_
    refine aG rfl (by decide) ?_
    refine aG rfl (by decide) ?_
    refine dH 1 1 (el := 3) (sz := 1) (by kernel_rfl) (by kernel_rfl) rfl rfl (by omega) (by omega) (by omega) (by decide) ?_
    refine gA (by kernel_rfl) rfl (by first | exact Rd.eL (dd _ (by omega)) | exact Rd.ld) (by decide) ?_
    refine qC rfl rfl (by omega) (rem_in (by omega)) (by decide) ?_
    refine hJ rfl rfl (by decide) ?_
    refine XK.aE ?_
    refine XK.if_ rfl (fun h => ?_) (fun h => ?_)
    ·
      refine XK.skip ?_
      refine XK.norm ?_
      refine XK.seq ?_
      have hk2 : k < 9 := by omega
      have hcp : (0 : Int) < cs.length := by omega
      have b2 := hd.bd (10 + 3 * k)
      have b3 := hd.bd (11 + 3 * k)
      have b4 := hd.bd (12 + 3 * k)
      have f0 := xZ (dv ds (11 + 3 * k)) hcp
      have f1 := xZ (dv ds (12 + 3 * k)) hcp
      have m5 := xZ (dv ds (10 + 3 * k)) (n := 5) (by omega)
      obtain ⟨kb, hkb, aIy⟩ := aFi (q := (dv ds (10 + 3 * k) % 5).toNat) (by omega)
      refine XK.block ?_
      refine XK.seq ?_
      refine XK.region ?_
      refine aG rfl (by decide) ?_
      refine Qo rfl rfl (bA (by omega)) (by decide) ?_
      refine dO rfl rfl (bA (by omega)) (by decide) ?_
      refine aL rfl (by decide) ?_
      refine XK.aE ?_
      refine XK.cut (fun e R H => ∃ gC gF, e = [(10, .pointer (some ⟨gC, 0, none⟩)), (9, .int .i64 (10 + 3 * k)), (8, .int .i64 k), (3, .int .i64 1), (7, .string ⟨#[112, 100, 103, 109, 103]⟩), (6, .pointer (some ⟨g4, 0, none⟩)), (4, .slice (some ⟨g2, 0, none⟩) 120 120), (2, .pointer (some ⟨g1, 0, none⟩))] ∧ R = [q, all w] ∧ H = [HP.aF gC 118 [.int .u8 kb.toNat, .slice (some ⟨gF, 0, none⟩) 1 1, .int .u64 0, .int .i64 0, .int .i64 0, .int .i64 0], HP.aF gF 3 [.int .i64 (dv ds (11 + 3 * k) % cs.length)], HP.aF g4 29 [.slice A1 cs.length c1, .slice none 0 0, .slice none 0 0, .slice none 0 0], HP.own 118 6 (.slice A1 cs.length c1) cs.length jL.flatten, HP.aF g2 3 (aO ds), HP.aF g1 29 [.slice none 0 0, .slice none 0 0, .slice none 0 0, .slice none 0 0]]) ?_ ?_
      ·
        refine XK.draw 19 (by kernel_rfl) (by kernel_rfl) ?_
        refine XA.dA 0 rfl rfl rfl (cI rfl) ?_
        refine XA.dA 1 rfl rfl rfl (cI rfl) ?_
        refine XA.dA 2 rfl rfl rfl (cI rfl) ?_
        refine XA.dA 3 rfl rfl rfl (oH (10 + 3 * k) (10 + 3 * k) (el := 3) (sz := 1) (by kernel_rfl) (by kernel_rfl) rfl rfl (by omega) (by omega) (by omega)) ?_
        refine XA.dA 4 rfl rfl rfl (iQ (by kernel_rfl) rfl (by first | exact Rd.eL (dd _ (by omega)) | exact Rd.ld)) ?_
        refine XA.dA 5 rfl rfl rfl (pQ rfl rfl (by omega) (rem_in (by omega))) ?_
        refine XA.dA 6 rfl rfl rfl (aHn (dv ds (10 + 3 * k) % 5).toNat (by kernel_rfl) rfl rfl (by omega) hkb) ?_
        refine XA.dA 7 rfl rfl rfl (cI rfl) ?_
        refine XA.dA 8 rfl rfl rfl (cI rfl) ?_
        refine XA.dA 9 rfl rfl rfl (lN rfl rfl (bA (by omega))) ?_
        refine XA.dA 10 rfl rfl rfl (oH (11 + 3 * k) (11 + 3 * k) (el := 3) (sz := 1) (by kernel_rfl) (by kernel_rfl) rfl rfl (by omega) (by omega) (by omega)) ?_
        refine XA.dA 11 rfl rfl rfl (iQ (by kernel_rfl) rfl (by first | exact Rd.eL (dd _ (by omega)) | exact Rd.ld)) ?_
        refine XA.dA 12 rfl rfl rfl (jE (off := 0) (by kernel_rfl) rfl) ?_
        refine XA.dA 13 rfl rfl rfl (iQ (by kernel_rfl) rfl (by first | exact Rd.eL (dd _ (by omega)) | exact Rd.ld)) ?_
        refine XA.dA 14 rfl rfl rfl (vH (el := 118) (by kernel_rfl) rfl) ?_
        refine XA.dA 15 rfl rfl rfl (pQ rfl rfl (by omega) (rem_in (by omega))) ?_
        refine XA.either 16 18 rfl rfl (by kernel_rfl) ?_ ?_
        · refine eP (el := 3) (sz := 1) (zs := [.int .i64 0]) (by kernel_rfl) (aM (by kernel_rfl)) (by kernel_rfl) rfl (by decide) (by decide) rfl (by simp [aR, aU, Value.cells, List.range_succ, List.set]; rfl) (by decide) fun g5 => ?_
          refine XA.bk ?_
          refine XA.dA 17 rfl rfl rfl (gD (zs := [.int .u8 0, .slice none 0 0, .int .u64 0, .int .i64 0, .int .i64 0, .int .i64 0]) (L := [(0, 1), (1, 1), (2, 1), (3, 1), (4, 1), (5, 1)]) (aM (by kernel_rfl)) (by kernel_rfl) rfl (by simp [aR, aU, Value.cells]; rfl)) ?_
          refine XA.next 18 rfl (by kernel_rfl) ?_
          refine bZ (cs := [.int .u8 0, .slice none 0 0, .int .u64 0, .int .i64 0, .int .i64 0, .int .i64 0]) (aM (by kernel_rfl)) (by decide) fun g6 => ?_
          refine XA.bk ?_
          refine XA.next 19 rfl (by kernel_rfl) ?_
          refine eJ rfl rfl ?_; simp only [cC, Value.cells, List.set, List.take, List.drop, List.nil_append, List.append_nil, List.length_cons, List.length_nil, List.cons_append, Nat.reduceAdd]
          refine XA.bt ?_
          refine XA.done (by kernel_rfl) ?_
          refine XK.norm ?_
          exact XK.aK [(10, .pointer (some ⟨g6, 0, none⟩)), (9, .int .i64 (10 + 3 * k)), (8, .int .i64 k), (3, .int .i64 1), (7, .string ⟨#[112, 100, 103, 109, 103]⟩), (6, .pointer (some ⟨g4, 0, none⟩)), (4, .slice (some ⟨g2, 0, none⟩) 120 120), (2, .pointer (some ⟨g1, 0, none⟩))] (XK.meet ⟨_, _, rfl, rfl, rfl⟩)
        · refine bZ (cs := [.int .u8 0, .slice none 0 0, .int .u64 0, .int .i64 0, .int .i64 0, .int .i64 0]) (aM (by kernel_rfl)) (by decide) fun g6 => ?_
          refine XA.bk ?_
          refine XA.next 16 rfl (by kernel_rfl) ?_
          refine eP (el := 3) (sz := 1) (zs := [.int .i64 0]) (by kernel_rfl) (aM (by kernel_rfl)) (by kernel_rfl) rfl (by decide) (by decide) rfl (by simp [aR, aU, Value.cells, List.range_succ, List.set]; rfl) (by decide) fun g5 => ?_
          refine XA.bk ?_
          refine XA.dA 17 rfl rfl rfl (gD (zs := [.int .u8 0, .slice none 0 0, .int .u64 0, .int .i64 0, .int .i64 0, .int .i64 0]) (L := [(0, 1), (1, 1), (2, 1), (3, 1), (4, 1), (5, 1)]) (aM (by kernel_rfl)) (by kernel_rfl) rfl (by simp [aR, aU, Value.cells]; rfl)) ?_
          refine XA.next 19 rfl (by kernel_rfl) ?_
          refine eJ rfl rfl ?_; simp only [cC, Value.cells, List.set, List.take, List.drop, List.nil_append, List.append_nil, List.length_cons, List.length_nil, List.cons_append, Nat.reduceAdd]
          refine XA.bt ?_
          refine XA.done (by kernel_rfl) ?_
          refine XK.norm ?_
          exact XK.weak [1, 0, 2, 3, 4, 5] rfl (by decide) (fun _ h => h) (XK.aK [(10, .pointer (some ⟨g6, 0, none⟩)), (9, .int .i64 (10 + 3 * k)), (8, .int .i64 k), (3, .int .i64 1), (7, .string ⟨#[112, 100, 103, 109, 103]⟩), (6, .pointer (some ⟨g4, 0, none⟩)), (4, .slice (some ⟨g2, 0, none⟩) 120 120), (2, .pointer (some ⟨g1, 0, none⟩))] (XK.meet ⟨_, _, rfl, rfl, rfl⟩))
      rintro _ _ _ ⟨gC, gF, rfl, rfl, rfl⟩
      refine XK.Ls 1 1 1 rfl rfl (by omega) ?_
      refine XK.cut (fun e R H => ∃ (cl : dG) (Af : Option Addr) (cf gC : Nat), cl.fit cs.length ∧ e = [(10, .pointer (some ⟨gC, 0, none⟩)), (8, .int .i64 k), (3, .int .i64 1), (7, .string ⟨#[112, 100, 103, 109, 103]⟩), (6, .pointer (some ⟨g4, 0, none⟩)), (4, .slice (some ⟨g2, 0, none⟩) 120 120), (2, .pointer (some ⟨g1, 0, none⟩))] ∧ R = [q, all w] ∧ H = [HP.aF gC 118 [.int .u8 cl.kind, .slice Af cl.src.length cf, .int .u64 cl.rate, .int .i64 cl.mul, .int .i64 cl.div, .int .i64 cl.lock], HP.own 3 1 (.slice Af cl.src.length cf) cl.src.length (aO cl.src), HP.aF g4 29 [.slice A1 cs.length c1, .slice none 0 0, .slice none 0 0, .slice none 0 0], HP.own 118 6 (.slice A1 cs.length c1) cs.length jL.flatten, HP.aF g2 3 (aO ds), HP.aF g1 29 [.slice none 0 0, .slice none 0 0, .slice none 0 0, .slice none 0 0]]) ?_ ?_
      ·
        refine XK.seq ?_
        refine XK.region ?_
        refine bL (off := 0) (by kernel_rfl) rfl (by decide) ?_
        refine gA (by kernel_rfl) rfl (by first | exact Rd.eL (dd _ (by omega)) | exact Rd.ld) (by decide) ?_
        refine XK.aE ?_
        refine XK.block ?_
        refine XK.seq ?_
        refine XK.region ?_
        refine iS rfl rfl (by decide) ?_
        refine aL rfl (by decide) ?_
        refine XK.aE ?_
        refine XK.if_ rfl (fun h => ?_) (fun h => ?_)
        ·
          refine XK.seq ?_
          refine XK.region ?_
          refine aG rfl (by decide) ?_
          refine aG rfl (by decide) ?_
          refine dO rfl rfl (bA (by omega)) (by decide) ?_
          refine dH (12 + 3 * k) (12 + 3 * k) (el := 3) (sz := 1) (by kernel_rfl) (by kernel_rfl) rfl rfl (by omega) (by omega) (by omega) (by decide) ?_
          refine gA (by kernel_rfl) rfl (by first | exact Rd.eL (dd _ (by omega)) | exact Rd.ld) (by decide) ?_
          refine qC rfl rfl (by omega) (rem_in (by omega)) (by decide) ?_
          refine dO rfl rfl (bA (by omega)) (by decide) ?_
          refine bL (off := 3) (by kernel_rfl) rfl (by decide) ?_
          refine qA rfl rfl ?_; dsimp only [List.set]
          refine XK.aE ?_
          refine XK.seq ?_
          refine XK.region ?_
          refine aG rfl (by decide) ?_
          refine aG rfl (by decide) ?_
          refine dO rfl rfl (bA (by omega)) (by decide) ?_
          refine dH (12 + 3 * k) (12 + 3 * k) (el := 3) (sz := 1) (by kernel_rfl) (by kernel_rfl) rfl rfl (by omega) (by omega) (by omega) (by decide) ?_
          refine gA (by kernel_rfl) rfl (by first | exact Rd.eL (dd _ (by omega)) | exact Rd.ld) (by decide) ?_
          refine Gm rfl rfl (by omega) (Bg (by omega) (by omega) (by omega)) (by decide) ?_
          refine qC rfl rfl (by omega) (rem_in (by omega)) (by decide) ?_
          refine dO rfl rfl (bA (by omega)) (by decide) ?_
          refine bL (off := 4) (by kernel_rfl) rfl (by decide) ?_
          refine qA rfl rfl ?_; dsimp only [List.set]
          refine XK.aE ?_
          refine XK.region ?_
          refine aG rfl (by decide) ?_
          refine aG rfl (by decide) ?_
          refine dO rfl rfl (bA (by omega)) (by decide) ?_
          refine dH (12 + 3 * k) (12 + 3 * k) (el := 3) (sz := 1) (by kernel_rfl) (by kernel_rfl) rfl rfl (by omega) (by omega) (by omega) (by decide) ?_
          refine gA (by kernel_rfl) rfl (by first | exact Rd.eL (dd _ (by omega)) | exact Rd.ld) (by decide) ?_
          refine Gm rfl rfl (by omega) (Bg (by omega) (by omega) (by omega)) (by decide) ?_
          refine qC rfl rfl (by omega) (rem_in (by omega)) (by decide) ?_
          refine bL (off := 5) (by kernel_rfl) rfl (by decide) ?_
          refine qA rfl rfl ?_; dsimp only [List.set]
          refine XK.aE ?_
          exact XK.aK [(10, .pointer (some ⟨gC, 0, none⟩)), (8, .int .i64 k), (3, .int .i64 1), (7, .string ⟨#[112, 100, 103, 109, 103]⟩), (6, .pointer (some ⟨g4, 0, none⟩)), (4, .slice (some ⟨g2, 0, none⟩) 120 120), (2, .pointer (some ⟨g1, 0, none⟩))] (XK.meet ⟨⟨kb.toNat, [dv ds (11 + 3 * k) % cs.length], 0, 1 + dv ds (12 + 3 * k) % 8, 1 + dv ds (12 + 3 * k) / 8 % 4, dv ds (12 + 3 * k) / 32 % 4⟩, some ⟨gF, 0, none⟩, 1, gC, ⟨fun f hf => by simp at hf; subst hf; exact f0, .inr (.inl ⟨h, rfl, rfl, by dsimp only; omega, by dsimp only; omega, by dsimp only; omega, by dsimp only; omega, by dsimp only; omega, by dsimp only; omega⟩)⟩, rfl, rfl, rfl⟩)
        ·
          refine XK.seq ?_
          refine XK.region ?_
          refine iS rfl rfl (by decide) ?_
          refine aL rfl (by decide) ?_
          refine XK.aE ?_
          refine XK.if_ rfl (fun h => ?_) (fun h => ?_)
          ·
            refine XK.region ?_
            refine aG rfl (by decide) ?_
            refine aG rfl (by decide) ?_
            refine dO rfl rfl (bA (by omega)) (by decide) ?_
            refine dH (12 + 3 * k) (12 + 3 * k) (el := 3) (sz := 1) (by kernel_rfl) (by kernel_rfl) rfl rfl (by omega) (by omega) (by omega) (by decide) ?_
            refine gA (by kernel_rfl) rfl (by first | exact Rd.eL (dd _ (by omega)) | exact Rd.ld) (by decide) ?_
            refine qC rfl rfl (by omega) (rem_in (by omega)) (by decide) ?_
            refine dO rfl rfl (bA (by omega)) (by decide) ?_
            refine bL (off := 4) (by kernel_rfl) rfl (by decide) ?_
            refine qA rfl rfl ?_; dsimp only [List.set]
            refine XK.aE ?_
            exact XK.aK [(10, .pointer (some ⟨gC, 0, none⟩)), (8, .int .i64 k), (3, .int .i64 1), (7, .string ⟨#[112, 100, 103, 109, 103]⟩), (6, .pointer (some ⟨g4, 0, none⟩)), (4, .slice (some ⟨g2, 0, none⟩) 120 120), (2, .pointer (some ⟨g1, 0, none⟩))] (XK.meet ⟨⟨kb.toNat, [dv ds (11 + 3 * k) % cs.length], 0, 0, 1 + dv ds (12 + 3 * k) % 8, 0⟩, some ⟨gF, 0, none⟩, 1, gC, ⟨fun f hf => by simp at hf; subst hf; exact f0, .inr (.inr (.inl ⟨h, rfl, rfl, rfl, by dsimp only; omega, by dsimp only; omega, rfl⟩))⟩, rfl, rfl, rfl⟩)
          ·
            refine XK.seq ?_
            refine XK.region ?_
            refine iS rfl rfl (by decide) ?_
            refine aL rfl (by decide) ?_
            refine XK.aE ?_
            refine XK.if_ rfl (fun h => ?_) (fun h => ?_)
            ·
              refine XK.draw 12 (by kernel_rfl) (by kernel_rfl) ?_
              refine XA.dA 0 rfl rfl rfl (jE (off := 1) (by kernel_rfl) rfl) ?_
              refine XA.dA 1 rfl rfl rfl (iQ (by kernel_rfl) rfl (by first | exact Rd.eL (dd _ (by omega)) | exact Rd.ld)) ?_
              refine XA.dA 2 rfl rfl rfl (cI rfl) ?_
              refine XA.dA 3 rfl rfl rfl (cI rfl) ?_
              refine XA.dA 4 rfl rfl rfl (lN rfl rfl (bA (by omega))) ?_
              refine XA.dA 5 rfl rfl rfl (oH (12 + 3 * k) (12 + 3 * k) (el := 3) (sz := 1) (by kernel_rfl) (by kernel_rfl) rfl rfl (by omega) (by omega) (by omega)) ?_
              refine XA.dA 6 rfl rfl rfl (iQ (by kernel_rfl) rfl (by first | exact Rd.eL (dd _ (by omega)) | exact Rd.ld)) ?_
              refine XA.dA 7 rfl rfl rfl (jE (off := 0) (by kernel_rfl) rfl) ?_
              refine XA.dA 8 rfl rfl rfl (iQ (by kernel_rfl) rfl (by first | exact Rd.eL (dd _ (by omega)) | exact Rd.ld)) ?_
              refine XA.dA 9 rfl rfl rfl (vH (el := 118) (by kernel_rfl) rfl) ?_
              refine XA.dA 10 rfl rfl rfl (pQ rfl rfl (by omega) (rem_in (by omega))) ?_
              refine XA.next 11 rfl (by kernel_rfl) ?_
              refine eP (el := 3) (sz := 1) (zs := [.int .i64 0]) (by kernel_rfl) (aM (by kernel_rfl)) (by kernel_rfl) rfl (by decide) (by decide) rfl (by simp [aR, aU, Value.cells, List.range_succ, List.set]; rfl) (by decide) fun g7 => ?_
              refine XA.bk ?_
              refine XA.next 12 rfl (by kernel_rfl) ?_
              refine fI 2 1 8 1 (n' := 2) (el := 3) (by kernel_rfl) (by kernel_rfl) (by decide) rfl rfl rfl (kL 0 rfl rfl) (by simp [Value.oneCell']) rfl (by omega) (by omega) (by decide) fun Af cf => ?_
              refine XA.bt ?_
              refine XA.next 13 rfl (by kernel_rfl) ?_
              refine bL (off := 1) (by kernel_rfl) rfl (by decide) ?_
              refine XA.bt ?_
              refine XA.next 14 rfl (by kernel_rfl) ?_
              refine qA rfl rfl ?_; dsimp only [List.set]
              refine XA.bt ?_
              refine XA.done (by kernel_rfl) ?_
              refine XK.norm ?_
              exact XK.weak [1, 2, 3, 4, 5, 6] rfl (by decide) (fun _ h => h) (XK.aK [(10, .pointer (some ⟨gC, 0, none⟩)), (8, .int .i64 k), (3, .int .i64 1), (7, .string ⟨#[112, 100, 103, 109, 103]⟩), (6, .pointer (some ⟨g4, 0, none⟩)), (4, .slice (some ⟨g2, 0, none⟩) 120 120), (2, .pointer (some ⟨g1, 0, none⟩))] (XK.meet ⟨⟨kb.toNat, [dv ds (11 + 3 * k) % cs.length, dv ds (12 + 3 * k) % cs.length], 0, 0, 0, 0⟩, Af, cf, gC, ⟨fun f hf => by simp at hf; rcases hf with rfl | rfl; exact f0; exact f1, .inr (.inr (.inr (.inr ⟨h, rfl, rfl, rfl, rfl, rfl⟩)))⟩, rfl, rfl, rfl⟩))
            ·
              refine XK.skip ?_
              refine XK.norm ?_
              exact XK.aK [(10, .pointer (some ⟨gC, 0, none⟩)), (8, .int .i64 k), (3, .int .i64 1), (7, .string ⟨#[112, 100, 103, 109, 103]⟩), (6, .pointer (some ⟨g4, 0, none⟩)), (4, .slice (some ⟨g2, 0, none⟩) 120 120), (2, .pointer (some ⟨g1, 0, none⟩))] (XK.meet ⟨⟨kb.toNat, [dv ds (11 + 3 * k) % cs.length], 0, 0, 0, 0⟩, some ⟨gF, 0, none⟩, 1, gC, ⟨fun f hf => by simp at hf; subst hf; exact f0, .inr (.inr (.inr (.inl ⟨by dsimp only; omega, rfl, rfl, rfl, rfl, rfl⟩)))⟩, rfl, rfl, rfl⟩)
      rintro _ _ _ ⟨cl, Af, cf, gC, aFT, rfl, rfl, rfl⟩
      refine XK.region ?_
      refine bL (off := 0) (by kernel_rfl) rfl (by decide) ?_
      refine gA (by kernel_rfl) rfl (by first | exact Rd.eL (dd _ (by omega)) | exact Rd.ld) (by decide) ?_
      refine iK 6 rfl ?_
      refine eP (el := 118) (sz := 6) (zs := [.int .u8 0, .slice none 0 0, .int .u64 0, .int .i64 0, .int .i64 0, .int .i64 0]) (by kernel_rfl) (aM (by kernel_rfl)) (by kernel_rfl) rfl (by decide) (by decide) rfl (by simp [aR, aU, Value.cells, List.range_succ, List.set]; rfl) (by decide) fun g8 => ?_
      refine fI 4 6 64 1 (n' := cs.length + 1) (el := 118) (by kernel_rfl) (by kernel_rfl) (by decide) rfl rfl rfl (kL 0 rfl rfl) (by simp [Value.oneCell']) rfl (by omega) (by omega) (by decide) fun A1n c1n => ?_
      refine bL (off := 0) (by kernel_rfl) rfl (by decide) ?_
      refine qA rfl rfl ?_; dsimp only [List.set]
      refine XK.aE ?_
      refine XK.region ?_
      refine aG rfl (by decide) ?_
      refine dO rfl rfl (bA (by omega)) (by decide) ?_
      refine aL rfl (by decide) ?_
      refine XK.aE ?_
      refine XK.still [q] [2] [3, 4, 5, 6] (by simp) rfl (by decide) (by simp) fun q2 rR Jf qQ => ?_
      have hle := Jf q (by simp)
      have jW := qQ (by simp) (by simp; exact hq)
      have pJ := aH.own (rR 2 _ (by simp) rfl)
      exact XK.weak [0, 1, 2, 3] rfl (by decide) (by simp) (XK.aK [(8, .int .i64 (k + 1)), (3, .int .i64 1), (7, .string ⟨#[112, 100, 103, 109, 103]⟩), (6, .pointer (some ⟨g4, 0, none⟩)), (4, .slice (some ⟨g2, 0, none⟩) 120 120), (2, .pointer (some ⟨g1, 0, none⟩))] (XK.round (9 - (k + 1)) (by omega) ⟨k + 1, cs ++ [cl], A1n, c1n, q2, jL ++ [_], by omega, rfl, by simp [eN], Et.snoc aFT, (uT.mono (fun c r => iX.mono (gE hle))).snoc (r := [.int .u8 cl.kind, .slice Af cl.src.length cf, .int .u64 cl.rate, .int .i64 cl.mul, .int .i64 cl.div, .int .i64 cl.lock]) rfl ⟨Af, _, cf, rfl, rfl, pJ⟩, jW, rfl, rfl, by simp⟩))
    ·
      refine XK.exit ?_
      refine XK.norm ?_
      exact XK.aK [(6, .pointer (some ⟨g4, 0, none⟩)), (4, .slice (some ⟨g2, 0, none⟩) 120 120), (2, .pointer (some ⟨g1, 0, none⟩))] (XK.meet ⟨cs, A1, c1, q, jL, by omega, by omega, Et, uT, hq, rfl, rfl, rfl⟩)
  rintro _ _ _ ⟨cs, A1, c1, q, jL, Vb, hc9, Et, uT, hq, rfl, rfl, rfl⟩
  have dd := hd.at_
  have b2 := hd.bd 2
  have b3 := hd.bd 3
  have b4 := hd.bd 4
  refine XK.cut (fun e R H => ∃ (dm : List Dom) (A2 : Option Addr) (c2 : Nat) (lX : List (List Value)), 1 ≤ dm.length ∧ dm.length ≤ 4 ∧ Fits Dom.fit dm ∧ Rows tS 3 dm lX ∧ e = [(6, .pointer (some ⟨g4, 0, none⟩)), (4, .slice (some ⟨g2, 0, none⟩) 120 120), (2, .pointer (some ⟨g1, 0, none⟩))] ∧ R = [q, all w] ∧ H = [HP.aF g4 29 [.slice A1 cs.length c1, .slice A2 dm.length c2, .slice none 0 0, .slice none 0 0], HP.own 75 3 (.slice A2 dm.length c2) dm.length lX.flatten, HP.own 118 6 (.slice A1 cs.length c1) cs.length jL.flatten, HP.aF g2 3 (aO ds), HP.aF g1 29 [.slice none 0 0, .slice none 0 0, .slice none 0 0, .slice none 0 0]]) ?_ ?_
  ·
    refine XK.seq ?_
    refine XK.region ?_
    refine aL rfl (by decide) ?_
    refine XK.aE ?_
    refine XK.kN 75 3 ?_
    refine XK.weak [1, 0, 2, 3, 4] rfl (by decide) (fun _ h => h) ?_
    refine XK.aK [(11, .int .i64 0), (6, .pointer (some ⟨g4, 0, none⟩)), (4, .slice (some ⟨g2, 0, none⟩) 120 120), (2, .pointer (some ⟨g1, 0, none⟩))] ?_
    refine XK.block ?_
    refine XK.loop (fun m e R H => ∃ (dm : List Dom) (A2 : Option Addr) (c2 : Nat) (lX : List (List Value)), (dm.length : Int) ≤ 1 + dv ds 2 % 4 ∧ m = 5 - dm.length ∧ Fits Dom.fit dm ∧ Rows tS 3 dm lX ∧ e = [(11, .int .i64 dm.length), (6, .pointer (some ⟨g4, 0, none⟩)), (4, .slice (some ⟨g2, 0, none⟩) 120 120), (2, .pointer (some ⟨g1, 0, none⟩))] ∧ R = [q, all w] ∧ H = [HP.aF g4 29 [.slice A1 cs.length c1, .slice A2 dm.length c2, .slice none 0 0, .slice none 0 0], HP.own 75 3 (.slice A2 dm.length c2) dm.length lX.flatten, HP.own 118 6 (.slice A1 cs.length c1) cs.length jL.flatten, HP.aF g2 3 (aO ds), HP.aF g1 29 [.slice none 0 0, .slice none 0 0, .slice none 0 0, .slice none 0 0]]) 5 ⟨[], none, 0, [], by simp; omega, rfl, Fits.nil _, trivial, rfl, rfl, rfl⟩ fun m e R H hI => ?_
    obtain ⟨dm, A2, c2, lX, hk, rfl, hdf, Pd, rfl, rfl, rfl⟩ := hI
    refine XK.seq ?_
    refine XK.seq ?_
    refine XK.region ?_
    refine aG rfl (by decide) ?_
    refine aG rfl (by decide) ?_
    refine dH 2 2 (el := 3) (sz := 1) (by kernel_rfl) (by kernel_rfl) rfl rfl (by rfl) (by omega) (by omega) (by decide) ?_
    refine gA (by kernel_rfl) rfl (by first | exact Rd.eL (dd _ (by omega)) | exact Rd.ld) (by decide) ?_
    refine qC rfl rfl (by omega) (rem_in (by omega)) (by decide) ?_
    refine dO rfl rfl (bA (by omega)) (by decide) ?_
    refine hJ rfl rfl (by decide) ?_
    refine XK.aE ?_
    refine XK.if_ rfl (fun h => ?_) (fun h => ?_)
    ·
      refine XK.skip ?_
      refine XK.norm ?_
      refine XK.seq ?_
      refine XK.block ?_
      refine XK.seq ?_
      have hk2 : dm.length < 4 := by omega
      have p1 := hd.bd (40 + dm.length)
      have p2 := hd.bd (44 + dm.length)
      refine XK.draw 16 (by kernel_rfl) (by kernel_rfl) ?_
      refine XA.dA 0 rfl rfl rfl (cI rfl) ?_
      refine XA.dA 1 rfl rfl rfl (cI rfl) ?_
      refine XA.dA 2 rfl rfl rfl (lN rfl rfl (bA (by omega))) ?_
      refine XA.dA 3 rfl rfl rfl (oH (40 + dm.length) (40 + dm.length) (el := 3) (sz := 1) (by kernel_rfl) (by kernel_rfl) rfl rfl (by omega) (by omega) (by omega)) ?_
      refine XA.dA 4 rfl rfl rfl (iQ (by kernel_rfl) rfl (by first | exact Rd.eL (dd _ (by omega)) | exact Rd.ld)) ?_
      refine XA.dA 5 rfl rfl rfl (pQ rfl rfl (by omega) (rem_in (by omega))) ?_
      refine XA.dA 6 rfl rfl rfl (cI rfl) ?_
      refine XA.dA 7 rfl rfl rfl (cI rfl) ?_
      refine XA.dA 8 rfl rfl rfl (lN rfl rfl (bA (by omega))) ?_
      refine XA.dA 9 rfl rfl rfl (oH (40 + dm.length) (40 + dm.length) (el := 3) (sz := 1) (by kernel_rfl) (by kernel_rfl) rfl rfl (by omega) (by omega) (by omega)) ?_
      refine XA.dA 10 rfl rfl rfl (iQ (by kernel_rfl) rfl (by first | exact Rd.eL (dd _ (by omega)) | exact Rd.ld)) ?_
      refine XA.dA 11 rfl rfl rfl (Ku rfl rfl (by omega) (Bg (by omega) (by omega) (by omega))) ?_
      refine XA.dA 12 rfl rfl rfl (pQ rfl rfl (by omega) (rem_in (by omega))) ?_
      refine XA.dA 13 rfl rfl rfl (zX rfl rfl) ?_
      refine XA.dA 14 rfl rfl rfl (gD (zs := [.int .i64 0, .int .i64 0, .bool false]) (L := [(0, 1), (1, 1), (2, 1)]) (aM (by kernel_rfl)) (by kernel_rfl) rfl (by simp [aR, aU, Value.cells]; rfl)) ?_
      refine XA.next 15 rfl (by kernel_rfl) ?_
      refine bZ (cs := [.int .i64 0, .int .i64 0, .bool false]) (aM (by kernel_rfl)) (by decide) fun g9 => ?_
      refine XA.bk ?_
      refine XA.next 16 rfl (by kernel_rfl) ?_
      refine eJ rfl rfl ?_; simp only [cC, Value.cells, List.set, List.take, List.drop, List.nil_append, List.append_nil, List.length_cons, List.length_nil, List.cons_append, Nat.reduceAdd]
      refine XA.bt ?_
      refine XA.done (by kernel_rfl) ?_
      refine XK.norm ?_
      refine XK.cut (fun e R H => ∃ ab : Int, (ab = -1 ∨ (0 ≤ ab ∧ ab < dm.length)) ∧ e = [(12, .pointer (some ⟨g9, 0, none⟩)), (11, .int .i64 dm.length), (6, .pointer (some ⟨g4, 0, none⟩)), (4, .slice (some ⟨g2, 0, none⟩) 120 120), (2, .pointer (some ⟨g1, 0, none⟩))] ∧ R = [q, all w] ∧ H = [HP.aF g9 75 [.int .i64 ab, .int .i64 (dv ds (40 + dm.length) % 4), .bool (decide (dv ds (40 + dm.length) / 4 % 2 = 1))], HP.aF g4 29 [.slice A1 cs.length c1, .slice A2 dm.length c2, .slice none 0 0, .slice none 0 0], HP.own 75 3 (.slice A2 dm.length c2) dm.length lX.flatten, HP.own 118 6 (.slice A1 cs.length c1) cs.length jL.flatten, HP.aF g2 3 (aO ds), HP.aF g1 29 [.slice none 0 0, .slice none 0 0, .slice none 0 0, .slice none 0 0]]) ?_ ?_
      ·
        refine XK.seq ?_
        refine XK.region ?_
        refine aG rfl (by decide) ?_
        refine Dk rfl rfl (by decide) ?_
        refine aG rfl (by decide) ?_
        refine bT (t := 172) rfl (fun hg => ?_) (fun hg => ?_)
        ·
          refine aS rfl rfl ?_; refine aG rfl (by decide) ?_
          refine aS rfl rfl ?_; refine aG rfl (by decide) ?_
          refine aS rfl rfl ?_; refine dO rfl rfl (bA (by omega)) (by decide) ?_
          refine aS rfl rfl ?_; refine dH (44 + dm.length) (44 + dm.length) (el := 3) (sz := 1) (by kernel_rfl) (by kernel_rfl) rfl rfl (by omega) (by omega) (by omega) (by decide) ?_
          refine aS rfl rfl ?_; refine gA (by kernel_rfl) rfl (by first | exact Rd.eL (dd _ (by omega)) | exact Rd.ld) (by decide) ?_
          refine aS rfl rfl ?_; refine qC rfl rfl (by omega) (rem_in (by omega)) (by decide) ?_
          refine aS rfl rfl ?_; refine Dk rfl rfl (by decide) ?_
          (first | refine cL rfl rfl (by decide) ?_ | refine cM rfl rfl (by decide) ?_)
          refine XK.aE ?_
          refine XK.if_ rfl (fun h => ?_) (fun h => ?_)
          ·
            refine XK.region ?_
            refine aG rfl (by decide) ?_
            refine aG rfl (by decide) ?_
            refine dO rfl rfl (bA (by omega)) (by decide) ?_
            refine dH (44 + dm.length) (44 + dm.length) (el := 3) (sz := 1) (by kernel_rfl) (by kernel_rfl) rfl rfl (by omega) (by omega) (by omega) (by decide) ?_
            refine gA (by kernel_rfl) rfl (by first | exact Rd.eL (dd _ (by omega)) | exact Rd.ld) (by decide) ?_
            refine Gm rfl rfl (by omega) (Bg (by omega) (by omega) (by omega)) (by decide) ?_
            refine aG rfl (by decide) ?_
            refine qC rfl rfl (by omega) (rem_in (by omega)) (by decide) ?_
            refine bL (off := 0) (by kernel_rfl) rfl (by decide) ?_
            refine qA rfl rfl ?_; dsimp only [List.set]
            refine XK.aE ?_
            exact XK.aK [(12, .pointer (some ⟨g9, 0, none⟩)), (11, .int .i64 dm.length), (6, .pointer (some ⟨g4, 0, none⟩)), (4, .slice (some ⟨g2, 0, none⟩) 120 120), (2, .pointer (some ⟨g1, 0, none⟩))] (XK.meet ⟨dv ds (44 + dm.length) / 3 % dm.length, .inr (xZ _ hg), rfl, rfl, rfl⟩)
          ·
            refine XK.skip ?_
            refine XK.norm ?_
            exact XK.aK [(12, .pointer (some ⟨g9, 0, none⟩)), (11, .int .i64 dm.length), (6, .pointer (some ⟨g4, 0, none⟩)), (4, .slice (some ⟨g2, 0, none⟩) 120 120), (2, .pointer (some ⟨g1, 0, none⟩))] (XK.meet ⟨-1, .inl rfl, rfl, rfl, rfl⟩)
        ·
          refine aP rfl rfl rfl (by decide) ?_
          refine aP rfl rfl rfl (by decide) ?_
          refine aP rfl rfl rfl (by decide) ?_
          refine aP rfl rfl rfl (by decide) ?_
          refine aP rfl rfl rfl (by decide) ?_
          refine aP rfl rfl rfl (by decide) ?_
          refine aP rfl rfl rfl (by decide) ?_
          (first | refine cL rfl rfl (by decide) ?_ | refine cM rfl rfl (by decide) ?_)
          refine XK.aE ?_
          refine XK.cond rfl (fun h => by cases h) (fun _ => ?_)
          refine XK.skip ?_
          refine XK.norm ?_
          exact XK.aK [(12, .pointer (some ⟨g9, 0, none⟩)), (11, .int .i64 dm.length), (6, .pointer (some ⟨g4, 0, none⟩)), (4, .slice (some ⟨g2, 0, none⟩) 120 120), (2, .pointer (some ⟨g1, 0, none⟩))] (XK.meet ⟨-1, .inl rfl, rfl, rfl, rfl⟩)
      rintro _ _ _ ⟨ab, hab, rfl, rfl, rfl⟩
      refine XK.region ?_
      refine bL (off := 1) (by kernel_rfl) rfl (by decide) ?_
      refine gA (by kernel_rfl) rfl (by first | exact Rd.eL (dd _ (by omega)) | exact Rd.ld) (by decide) ?_
      refine iK 3 rfl ?_
      refine eP (el := 75) (sz := 3) (zs := [.int .i64 0, .int .i64 0, .bool false]) (by kernel_rfl) (aM (by kernel_rfl)) (by kernel_rfl) rfl (by decide) (by decide) rfl (by simp [aR, aU, Value.cells, List.range_succ, List.set]; rfl) (by decide) fun g10 => ?_
      refine fI 3 3 24 1 (n' := dm.length + 1) (el := 75) (by kernel_rfl) (by kernel_rfl) (by decide) rfl rfl rfl (kL 0 rfl rfl) (by simp [Value.oneCell']) rfl (by omega) (by omega) (by decide) fun A2n c2n => ?_
      refine bL (off := 1) (by kernel_rfl) rfl (by decide) ?_
      refine qA rfl rfl ?_; dsimp only [List.set]
      refine XK.aE ?_
      refine XK.region ?_
      refine aG rfl (by decide) ?_
      refine dO rfl rfl (bA (by omega)) (by decide) ?_
      refine aL rfl (by decide) ?_
      refine XK.aE ?_
      exact XK.weak [2, 3, 4, 5, 6] rfl (by decide) (fun _ h => h) (XK.aK [(11, .int .i64 (dm.length + 1)), (6, .pointer (some ⟨g4, 0, none⟩)), (4, .slice (some ⟨g2, 0, none⟩) 120 120), (2, .pointer (some ⟨g1, 0, none⟩))] (XK.round (5 - (dm.length + 1)) (by omega) ⟨dm ++ [⟨ab, dv ds (40 + dm.length) % 4, decide (dv ds (40 + dm.length) / 4 % 2 = 1)⟩], A2n, c2n, lX ++ [_], by simp; omega, by simp, hdf.snoc ⟨hab, by dsimp only; omega, by dsimp only; omega⟩, Pd.snoc (r := [.int .i64 ab, .int .i64 (dv ds (40 + dm.length) % 4), .bool (decide (dv ds (40 + dm.length) / 4 % 2 = 1))]) rfl rfl, by simp, rfl, by simp⟩))
    ·
      refine XK.exit ?_
      refine XK.norm ?_
      exact XK.aK [(6, .pointer (some ⟨g4, 0, none⟩)), (4, .slice (some ⟨g2, 0, none⟩) 120 120), (2, .pointer (some ⟨g1, 0, none⟩))] (XK.meet ⟨dm, A2, c2, lX, by omega, by omega, hdf, Pd, rfl, rfl, rfl⟩)
  rintro _ _ _ ⟨dm, A2, c2, lX, dR, hd4, hdf, Pd, rfl, rfl, rfl⟩
  refine XK.cut (fun e R H => ∃ (rs : List Int) (A3 : Option Addr) (c3 : Nat) (nS : List (List Value)), 1 ≤ rs.length ∧ rs.length ≤ 3 ∧ (∀ r ∈ rs, 0 ≤ r ∧ r ≤ 3) ∧ Rows tO 1 rs nS ∧ e = [(6, .pointer (some ⟨g4, 0, none⟩)), (4, .slice (some ⟨g2, 0, none⟩) 120 120), (2, .pointer (some ⟨g1, 0, none⟩))] ∧ R = [q, all w] ∧ H = [HP.aF g4 29 [.slice A1 cs.length c1, .slice A2 dm.length c2, .slice A3 rs.length c3, .slice none 0 0], HP.own 120 1 (.slice A3 rs.length c3) rs.length nS.flatten, HP.own 75 3 (.slice A2 dm.length c2) dm.length lX.flatten, HP.own 118 6 (.slice A1 cs.length c1) cs.length jL.flatten, HP.aF g2 3 (aO ds), HP.aF g1 29 [.slice none 0 0, .slice none 0 0, .slice none 0 0, .slice none 0 0]]) ?_ ?_
  ·
    refine XK.seq ?_
    refine XK.region ?_
    refine aL rfl (by decide) ?_
    refine XK.aE ?_
    refine XK.kN 120 1 ?_
    refine XK.weak [1, 0, 2, 3, 4, 5] rfl (by decide) (fun _ h => h) ?_
    refine XK.aK [(13, .int .i64 0), (6, .pointer (some ⟨g4, 0, none⟩)), (4, .slice (some ⟨g2, 0, none⟩) 120 120), (2, .pointer (some ⟨g1, 0, none⟩))] ?_
    refine XK.block ?_
    refine XK.loop (fun m e R H => ∃ (rs : List Int) (A3 : Option Addr) (c3 : Nat) (nS : List (List Value)), (rs.length : Int) ≤ 1 + dv ds 3 % 3 ∧ m = 4 - rs.length ∧ (∀ r ∈ rs, 0 ≤ r ∧ r ≤ 3) ∧ Rows tO 1 rs nS ∧ e = [(13, .int .i64 rs.length), (6, .pointer (some ⟨g4, 0, none⟩)), (4, .slice (some ⟨g2, 0, none⟩) 120 120), (2, .pointer (some ⟨g1, 0, none⟩))] ∧ R = [q, all w] ∧ H = [HP.aF g4 29 [.slice A1 cs.length c1, .slice A2 dm.length c2, .slice A3 rs.length c3, .slice none 0 0], HP.own 120 1 (.slice A3 rs.length c3) rs.length nS.flatten, HP.own 75 3 (.slice A2 dm.length c2) dm.length lX.flatten, HP.own 118 6 (.slice A1 cs.length c1) cs.length jL.flatten, HP.aF g2 3 (aO ds), HP.aF g1 29 [.slice none 0 0, .slice none 0 0, .slice none 0 0, .slice none 0 0]]) 4 ⟨[], none, 0, [], by simp; omega, rfl, by simp, trivial, rfl, rfl, rfl⟩ fun m e R H hI => ?_
    obtain ⟨rs, A3, c3, nS, hk, rfl, rQ, cJ, rfl, rfl, rfl⟩ := hI
    refine XK.seq ?_
    refine XK.seq ?_
    refine XK.region ?_
    refine aG rfl (by decide) ?_
    refine aG rfl (by decide) ?_
    refine dH 3 3 (el := 3) (sz := 1) (by kernel_rfl) (by kernel_rfl) rfl rfl (by rfl) (by omega) (by omega) (by decide) ?_
    refine gA (by kernel_rfl) rfl (by first | exact Rd.eL (dd _ (by omega)) | exact Rd.ld) (by decide) ?_
    refine qC rfl rfl (by omega) (rem_in (by omega)) (by decide) ?_
    refine dO rfl rfl (bA (by omega)) (by decide) ?_
    refine hJ rfl rfl (by decide) ?_
    refine XK.aE ?_
    refine XK.if_ rfl (fun h => ?_) (fun h => ?_)
    ·
      refine XK.skip ?_
      refine XK.norm ?_
      refine XK.seq ?_
      refine XK.block ?_
      have hk2 : rs.length < 3 := by omega
      have p1 := hd.bd (50 + rs.length)
      refine XK.draw 10 (by kernel_rfl) (by kernel_rfl) ?_
      refine XA.dA 0 rfl rfl rfl (jE (off := 2) (by kernel_rfl) rfl) ?_
      refine XA.dA 1 rfl rfl rfl (iQ (by kernel_rfl) rfl (by first | exact Rd.eL (dd _ (by omega)) | exact Rd.ld)) ?_
      refine XA.dA 2 rfl rfl rfl (cI rfl) ?_
      refine XA.dA 3 rfl rfl rfl (cI rfl) ?_
      refine XA.dA 4 rfl rfl rfl (lN rfl rfl (bA (by omega))) ?_
      refine XA.dA 5 rfl rfl rfl (oH (50 + rs.length) (50 + rs.length) (el := 3) (sz := 1) (by kernel_rfl) (by kernel_rfl) rfl rfl (by omega) (by omega) (by omega)) ?_
      refine XA.dA 6 rfl rfl rfl (iQ (by kernel_rfl) rfl (by first | exact Rd.eL (dd _ (by omega)) | exact Rd.ld)) ?_
      refine XA.dA 7 rfl rfl rfl (pQ rfl rfl (by omega) (rem_in (by omega))) ?_
      refine XA.dA 8 rfl rfl rfl (gD (zs := [.int .i64 0]) (L := [(0, 1)]) (aM (by kernel_rfl)) (by kernel_rfl) rfl (by simp [aR, aU, Value.cells]; rfl)) ?_
      refine XA.next 9 rfl (by kernel_rfl) ?_
      refine eP (el := 120) (sz := 1) (zs := [.int .i64 0]) (by kernel_rfl) (aM (by kernel_rfl)) (by kernel_rfl) rfl (by decide) (by decide) rfl (by simp [aR, aU, Value.cells, List.range_succ, List.set]; rfl) (by decide) fun g11 => ?_
      refine XA.bk ?_
      refine XA.next 10 rfl (by kernel_rfl) ?_
      refine fI 2 1 8 1 (n' := rs.length + 1) (el := 120) (by kernel_rfl) (by kernel_rfl) (by decide) rfl rfl rfl (kL 0 rfl rfl) (by simp [Value.oneCell']) rfl (by omega) (by omega) (by decide) fun A3n c3n => ?_
      refine XA.bt ?_
      refine XA.next 11 rfl (by kernel_rfl) ?_
      refine bL (off := 2) (by kernel_rfl) rfl (by decide) ?_
      refine XA.bt ?_
      refine XA.next 12 rfl (by kernel_rfl) ?_
      refine qA rfl rfl ?_; dsimp only [List.set]
      refine XA.bt ?_
      refine XA.done (by kernel_rfl) ?_
      refine XK.norm ?_
      refine XK.region ?_
      refine aG rfl (by decide) ?_
      refine dO rfl rfl (bA (by omega)) (by decide) ?_
      refine aL rfl (by decide) ?_
      refine XK.aE ?_
      exact XK.weak [1, 2, 3, 4, 5, 6] rfl (by decide) (fun _ h => h) (XK.aK [(13, .int .i64 (rs.length + 1)), (6, .pointer (some ⟨g4, 0, none⟩)), (4, .slice (some ⟨g2, 0, none⟩) 120 120), (2, .pointer (some ⟨g1, 0, none⟩))] (XK.round (4 - (rs.length + 1)) (by omega) ⟨rs ++ [dv ds (50 + rs.length) % 4], A3n, c3n, nS ++ [_], by simp; omega, by simp, by intro r hr; simp at hr; rcases hr with hr | hr; exact rQ r hr; omega, cJ.snoc (r := [.int .i64 (dv ds (50 + rs.length) % 4)]) rfl rfl, by simp, rfl, by simp⟩))
    ·
      refine XK.exit ?_
      refine XK.norm ?_
      exact XK.aK [(6, .pointer (some ⟨g4, 0, none⟩)), (4, .slice (some ⟨g2, 0, none⟩) 120 120), (2, .pointer (some ⟨g1, 0, none⟩))] (XK.meet ⟨rs, A3, c3, nS, by omega, by omega, rQ, cJ, rfl, rfl, rfl⟩)
  rintro _ _ _ ⟨rs, A3, c3, nS, dJ, sY, rQ, cJ, rfl, rfl, rfl⟩
  refine XK.cut (fun e R H => ∃ (vs : List bB) (A4 : Option Addr) (c4 : Nat) (q : Piece) (qK : List (List Value)), 1 ≤ vs.length ∧ vs.length ≤ 4 ∧ Rows (iX (dU q)) 6 cs jL ∧ Fits (bB.fit cs.length dm.length rs.length) vs ∧ Rows (jQ (dU q)) 6 vs qK ∧ lA w q ∧ e = [(6, .pointer (some ⟨g4, 0, none⟩)), (4, .slice (some ⟨g2, 0, none⟩) 120 120), (2, .pointer (some ⟨g1, 0, none⟩))] ∧ R = [q, all w] ∧ H = [HP.aF g4 29 [.slice A1 cs.length c1, .slice A2 dm.length c2, .slice A3 rs.length c3, .slice A4 vs.length c4], HP.own 78 6 (.slice A4 vs.length c4) vs.length qK.flatten, HP.own 120 1 (.slice A3 rs.length c3) rs.length nS.flatten, HP.own 75 3 (.slice A2 dm.length c2) dm.length lX.flatten, HP.own 118 6 (.slice A1 cs.length c1) cs.length jL.flatten, HP.aF g2 3 (aO ds), HP.aF g1 29 [.slice none 0 0, .slice none 0 0, .slice none 0 0, .slice none 0 0]]) ?_ ?_
  ·
    refine XK.seq ?_
    refine XK.region ?_
    refine aL rfl (by decide) ?_
    refine XK.aE ?_
    refine XK.kN 78 6 ?_
    refine XK.weak [1, 0, 2, 3, 4, 5, 6] rfl (by decide) (fun _ h => h) ?_
    refine XK.aK [(14, .int .i64 0), (6, .pointer (some ⟨g4, 0, none⟩)), (4, .slice (some ⟨g2, 0, none⟩) 120 120), (2, .pointer (some ⟨g1, 0, none⟩))] ?_
    refine XK.block ?_
    refine XK.loop (fun m e R H => ∃ (vs : List bB) (A4 : Option Addr) (c4 : Nat) (q : Piece) (qK : List (List Value)), (vs.length : Int) ≤ 1 + dv ds 4 % 4 ∧ m = 5 - vs.length ∧ Rows (iX (dU q)) 6 cs jL ∧ Fits (bB.fit cs.length dm.length rs.length) vs ∧ Rows (jQ (dU q)) 6 vs qK ∧ lA w q ∧ e = [(14, .int .i64 vs.length), (6, .pointer (some ⟨g4, 0, none⟩)), (4, .slice (some ⟨g2, 0, none⟩) 120 120), (2, .pointer (some ⟨g1, 0, none⟩))] ∧ R = [q, all w] ∧ H = [HP.aF g4 29 [.slice A1 cs.length c1, .slice A2 dm.length c2, .slice A3 rs.length c3, .slice A4 vs.length c4], HP.own 78 6 (.slice A4 vs.length c4) vs.length qK.flatten, HP.own 120 1 (.slice A3 rs.length c3) rs.length nS.flatten, HP.own 75 3 (.slice A2 dm.length c2) dm.length lX.flatten, HP.own 118 6 (.slice A1 cs.length c1) cs.length jL.flatten, HP.aF g2 3 (aO ds), HP.aF g1 29 [.slice none 0 0, .slice none 0 0, .slice none 0 0, .slice none 0 0]]) 5 ⟨[], none, 0, q, [], by simp; omega, rfl, uT, Fits.nil _, trivial, hq, rfl, rfl, rfl⟩ fun m e R H hI => ?_
    obtain ⟨vs, A4, c4, q, qK, hk, rfl, uT, Ol, Oj, hq, rfl, rfl, rfl⟩ := hI
    refine XK.seq ?_
    refine XK.seq ?_
    refine XK.region ?_
    refine aG rfl (by decide) ?_
    refine aG rfl (by decide) ?_
    refine dH 4 4 (el := 3) (sz := 1) (by kernel_rfl) (by kernel_rfl) rfl rfl (by rfl) (by omega) (by omega) (by decide) ?_
    refine gA (by kernel_rfl) rfl (by first | exact Rd.eL (dd _ (by omega)) | exact Rd.ld) (by decide) ?_
    refine qC rfl rfl (by omega) (rem_in (by omega)) (by decide) ?_
    refine dO rfl rfl (bA (by omega)) (by decide) ?_
    refine hJ rfl rfl (by decide) ?_
    refine XK.aE ?_
    refine XK.if_ rfl (fun h => ?_) (fun h => ?_)
    ·
      refine XK.skip ?_
      refine XK.norm ?_
      refine XK.seq ?_
      refine XK.block ?_
      refine XK.seq ?_
      have hk2 : vs.length < 4 := by omega
      have p0 := hd.bd (60 + 12 * vs.length)
      have p1 := hd.bd (61 + 12 * vs.length)
      have p2 := hd.bd (62 + 12 * vs.length)
      have p3 := hd.bd (63 + 12 * vs.length)
      have p4 := hd.bd (64 + 12 * vs.length)
      have p9 := hd.bd (69 + 12 * vs.length)
      have p10 := hd.bd (70 + 12 * vs.length)
      have p11 := hd.bd (71 + 12 * vs.length)
      have q0 := xZ (dv ds (60 + 12 * vs.length)) (n := (cs.length : Int)) (by omega)
      have q1 := xZ (dv ds (61 + 12 * vs.length)) (n := (dm.length : Int)) (by omega)
      have q2 := xZ (dv ds (62 + 12 * vs.length)) (n := (rs.length : Int)) (by omega)
      refine XK.region ?_
      refine aG rfl (by decide) ?_
      refine Qo rfl rfl (bA (by omega)) (by decide) ?_
      refine dO rfl rfl (bA (by omega)) (by decide) ?_
      refine aL rfl (by decide) ?_
      refine XK.aE ?_
      refine XK.seq ?_
      refine XK.draw 35 (by kernel_rfl) (by kernel_rfl) ?_
      refine XA.dA 0 rfl rfl rfl (cI rfl) ?_
      refine XA.dA 1 rfl rfl rfl (cI rfl) ?_
      refine XA.dA 2 rfl rfl rfl (oH (60 + 12 * vs.length) (60 + 12 * vs.length) (el := 3) (sz := 1) (by kernel_rfl) (by kernel_rfl) rfl rfl (by omega) (by omega) (by omega)) ?_
      refine XA.dA 3 rfl rfl rfl (iQ (by kernel_rfl) rfl (by first | exact Rd.eL (dd _ (by omega)) | exact Rd.ld)) ?_
      refine XA.dA 4 rfl rfl rfl (jE (off := 0) (by kernel_rfl) rfl) ?_
      refine XA.dA 5 rfl rfl rfl (iQ (by kernel_rfl) rfl (by first | exact Rd.eL (dd _ (by omega)) | exact Rd.ld)) ?_
      refine XA.dA 6 rfl rfl rfl (vH (el := 118) (by kernel_rfl) rfl) ?_
      refine XA.dA 7 rfl rfl rfl (pQ rfl rfl (by omega) (rem_in (by omega))) ?_
      refine XA.dA 8 rfl rfl rfl (cI rfl) ?_
      refine XA.dA 9 rfl rfl rfl (cI rfl) ?_
      refine XA.dA 10 rfl rfl rfl (lN rfl rfl (bA (by omega))) ?_
      refine XA.dA 11 rfl rfl rfl (oH (61 + 12 * vs.length) (61 + 12 * vs.length) (el := 3) (sz := 1) (by kernel_rfl) (by kernel_rfl) rfl rfl (by omega) (by omega) (by omega)) ?_
      refine XA.dA 12 rfl rfl rfl (iQ (by kernel_rfl) rfl (by first | exact Rd.eL (dd _ (by omega)) | exact Rd.ld)) ?_
      refine XA.dA 13 rfl rfl rfl (jE (off := 1) (by kernel_rfl) rfl) ?_
      refine XA.dA 14 rfl rfl rfl (iQ (by kernel_rfl) rfl (by first | exact Rd.eL (dd _ (by omega)) | exact Rd.ld)) ?_
      refine XA.dA 15 rfl rfl rfl (vH (el := 75) (by kernel_rfl) rfl) ?_
      refine XA.dA 16 rfl rfl rfl (pQ rfl rfl (by omega) (rem_in (by omega))) ?_
      refine XA.dA 17 rfl rfl rfl (cI rfl) ?_
      refine XA.dA 18 rfl rfl rfl (cI rfl) ?_
      refine XA.dA 19 rfl rfl rfl (lN rfl rfl (bA (by omega))) ?_
      refine XA.dA 20 rfl rfl rfl (oH (62 + 12 * vs.length) (62 + 12 * vs.length) (el := 3) (sz := 1) (by kernel_rfl) (by kernel_rfl) rfl rfl (by omega) (by omega) (by omega)) ?_
      refine XA.dA 21 rfl rfl rfl (iQ (by kernel_rfl) rfl (by first | exact Rd.eL (dd _ (by omega)) | exact Rd.ld)) ?_
      refine XA.dA 22 rfl rfl rfl (jE (off := 2) (by kernel_rfl) rfl) ?_
      refine XA.dA 23 rfl rfl rfl (iQ (by kernel_rfl) rfl (by first | exact Rd.eL (dd _ (by omega)) | exact Rd.ld)) ?_
      refine XA.dA 24 rfl rfl rfl (vH (el := 120) (by kernel_rfl) rfl) ?_
      refine XA.dA 25 rfl rfl rfl (pQ rfl rfl (by omega) (rem_in (by omega))) ?_
      refine XA.dA 26 rfl rfl rfl (cI rfl) ?_
      refine XA.dA 27 rfl rfl rfl (cI rfl) ?_
      refine XA.dA 28 rfl rfl rfl (lN rfl rfl (bA (by omega))) ?_
      refine XA.dA 29 rfl rfl rfl (oH (63 + 12 * vs.length) (63 + 12 * vs.length) (el := 3) (sz := 1) (by kernel_rfl) (by kernel_rfl) rfl rfl (by omega) (by omega) (by omega)) ?_
      refine XA.dA 30 rfl rfl rfl (iQ (by kernel_rfl) rfl (by first | exact Rd.eL (dd _ (by omega)) | exact Rd.ld)) ?_
      refine XA.dA 31 rfl rfl rfl (pQ rfl rfl (by omega) (rem_in (by omega))) ?_
      refine XA.dA 32 rfl rfl rfl (yD (ds := .int .i64) (by kernel_rfl) (by kernel_rfl) rfl (wrap_u32 (by omega))) ?_
      refine XA.dA 33 rfl rfl rfl (gD (zs := [.int .i64 0, .int .i64 0, .int .i64 0, .int .u32 0, .slice none 0 0, .slice none 0 0]) (L := [(0, 1), (1, 1), (2, 1), (3, 1), (4, 1), (5, 1)]) (aM (by kernel_rfl)) (by kernel_rfl) rfl (by simp [aR, aU, Value.cells]; rfl)) ?_
      refine XA.next 34 rfl (by kernel_rfl) ?_
      refine bZ (cs := [.int .i64 0, .int .i64 0, .int .i64 0, .int .u32 0, .slice none 0 0, .slice none 0 0]) (aM (by kernel_rfl)) (by decide) fun g12 => ?_
      refine XA.bk ?_
      refine XA.next 35 rfl (by kernel_rfl) ?_
      refine eJ rfl rfl ?_; simp only [cC, Value.cells, List.set, List.take, List.drop, List.nil_append, List.append_nil, List.length_cons, List.length_nil, List.cons_append, Nat.reduceAdd]
      refine XA.bt ?_
      refine XA.done (by kernel_rfl) ?_
      refine XK.norm ?_
      refine XK.cut (fun e R H => ∃ (rg : List Rg) (A5 : Option Addr) (c5 : Nat), rg.length ≤ 4 ∧ (∀ r ∈ rg, 0 ≤ r.reset ∧ r.reset ≤ 6) ∧ e = [(16, .pointer (some ⟨g12, 0, none⟩)), (15, .int .i64 (60 + 12 * vs.length)), (14, .int .i64 vs.length), (6, .pointer (some ⟨g4, 0, none⟩)), (4, .slice (some ⟨g2, 0, none⟩) 120 120), (2, .pointer (some ⟨g1, 0, none⟩))] ∧ R = [q, all w] ∧ H = [HP.aF g12 78 [.int .i64 (dv ds (60 + 12 * vs.length) % cs.length), .int .i64 (dv ds (61 + 12 * vs.length) % dm.length), .int .i64 (dv ds (62 + 12 * vs.length) % rs.length), .int .u32 (dv ds (63 + 12 * vs.length) % 3), .slice A5 rg.length c5, .slice none 0 0], HP.own 92 2 (.slice A5 rg.length c5) rg.length (rg.flatMap Rg.cells), HP.aF g4 29 [.slice A1 cs.length c1, .slice A2 dm.length c2, .slice A3 rs.length c3, .slice A4 vs.length c4], HP.own 78 6 (.slice A4 vs.length c4) vs.length qK.flatten, HP.own 120 1 (.slice A3 rs.length c3) rs.length nS.flatten, HP.own 75 3 (.slice A2 dm.length c2) dm.length lX.flatten, HP.own 118 6 (.slice A1 cs.length c1) cs.length jL.flatten, HP.aF g2 3 (aO ds), HP.aF g1 29 [.slice none 0 0, .slice none 0 0, .slice none 0 0, .slice none 0 0]]) ?_ ?_
      ·
        refine XK.seq ?_
        refine XK.region ?_
        refine aL rfl (by decide) ?_
        refine XK.aE ?_
        refine XK.kN 92 2 ?_
        refine XK.weak [1, 0, 2, 3, 4, 5, 6, 7, 8] rfl (by decide) (fun _ h => h) ?_
        refine XK.aK [(17, .int .i64 0), (16, .pointer (some ⟨g12, 0, none⟩)), (15, .int .i64 (60 + 12 * vs.length)), (14, .int .i64 vs.length), (6, .pointer (some ⟨g4, 0, none⟩)), (4, .slice (some ⟨g2, 0, none⟩) 120 120), (2, .pointer (some ⟨g1, 0, none⟩))] ?_
        refine XK.block ?_
        refine XK.loop (fun m e R H => ∃ (rg : List Rg) (A5 : Option Addr) (c5 : Nat), (rg.length : Int) ≤ dv ds (64 + 12 * vs.length) % 5 ∧ m = 5 - rg.length ∧ (∀ r ∈ rg, 0 ≤ r.reset ∧ r.reset ≤ 6) ∧ e = [(17, .int .i64 rg.length), (16, .pointer (some ⟨g12, 0, none⟩)), (15, .int .i64 (60 + 12 * vs.length)), (14, .int .i64 vs.length), (6, .pointer (some ⟨g4, 0, none⟩)), (4, .slice (some ⟨g2, 0, none⟩) 120 120), (2, .pointer (some ⟨g1, 0, none⟩))] ∧ R = [q, all w] ∧ H = [HP.aF g12 78 [.int .i64 (dv ds (60 + 12 * vs.length) % cs.length), .int .i64 (dv ds (61 + 12 * vs.length) % dm.length), .int .i64 (dv ds (62 + 12 * vs.length) % rs.length), .int .u32 (dv ds (63 + 12 * vs.length) % 3), .slice A5 rg.length c5, .slice none 0 0], HP.own 92 2 (.slice A5 rg.length c5) rg.length (rg.flatMap Rg.cells), HP.aF g4 29 [.slice A1 cs.length c1, .slice A2 dm.length c2, .slice A3 rs.length c3, .slice A4 vs.length c4], HP.own 78 6 (.slice A4 vs.length c4) vs.length qK.flatten, HP.own 120 1 (.slice A3 rs.length c3) rs.length nS.flatten, HP.own 75 3 (.slice A2 dm.length c2) dm.length lX.flatten, HP.own 118 6 (.slice A1 cs.length c1) cs.length jL.flatten, HP.aF g2 3 (aO ds), HP.aF g1 29 [.slice none 0 0, .slice none 0 0, .slice none 0 0, .slice none 0 0]]) 5 ⟨[], none, 0, by simp; omega, rfl, by simp, rfl, rfl, rfl⟩ fun m e R H hI => ?_
        obtain ⟨rg, A5, c5, hj, rfl, Pa, rfl, rfl, rfl⟩ := hI
        refine XK.seq ?_
        refine XK.seq ?_
        refine XK.region ?_
        refine aG rfl (by decide) ?_
        refine aG rfl (by decide) ?_
        refine aG rfl (by decide) ?_
        refine dO rfl rfl (bA (by omega)) (by decide) ?_
        refine dH (64 + 12 * vs.length) (64 + 12 * vs.length) (el := 3) (sz := 1) (by kernel_rfl) (by kernel_rfl) rfl rfl (by omega) (by omega) (by omega) (by decide) ?_
        refine gA (by kernel_rfl) rfl (by first | exact Rd.eL (dd _ (by omega)) | exact Rd.ld) (by decide) ?_
        refine qC rfl rfl (by omega) (rem_in (by omega)) (by decide) ?_
        refine hJ rfl rfl (by decide) ?_
        refine XK.aE ?_
        refine XK.if_ rfl (fun h => ?_) (fun h => ?_)
        ·
          refine XK.skip ?_
          refine XK.norm ?_
          refine XK.seq ?_
          refine XK.block ?_
          have hj2 : rg.length < 4 := by omega
          have r1 := hd.bd (65 + 12 * vs.length + rg.length)
          refine XK.draw 23 (by kernel_rfl) (by kernel_rfl) ?_
          refine XA.dA 0 rfl rfl rfl (jE (off := 4) (by kernel_rfl) rfl) ?_
          refine XA.dA 1 rfl rfl rfl (iQ (by kernel_rfl) rfl (by first | exact Rd.eL (dd _ (by omega)) | exact Rd.ld)) ?_
          refine XA.dA 2 rfl rfl rfl (cI rfl) ?_
          refine XA.dA 3 rfl rfl rfl (cI rfl) ?_
          refine XA.dA 4 rfl rfl rfl (lN rfl rfl (bA (by omega))) ?_
          refine XA.dA 5 rfl rfl rfl (cI rfl) ?_
          refine XA.dA 6 rfl rfl rfl (lN rfl rfl (bA (by omega))) ?_
          refine XA.dA 7 rfl rfl rfl (oH (65 + 12 * vs.length + rg.length) (65 + 12 * vs.length + rg.length) (el := 3) (sz := 1) (by kernel_rfl) (by kernel_rfl) rfl rfl (by omega) (by omega) (by omega)) ?_
          refine XA.dA 8 rfl rfl rfl (iQ (by kernel_rfl) rfl (by first | exact Rd.eL (dd _ (by omega)) | exact Rd.ld)) ?_
          refine XA.dA 9 rfl rfl rfl (pQ rfl rfl (by omega) (rem_in (by omega))) ?_
          refine XA.dA 10 rfl rfl rfl (yD (ds := .int .i64) (by kernel_rfl) (by kernel_rfl) rfl (wrap_u32 (by omega))) ?_
          refine XA.dA 11 rfl rfl rfl (cI rfl) ?_
          refine XA.dA 12 rfl rfl rfl (cI rfl) ?_
          refine XA.dA 13 rfl rfl rfl (lN rfl rfl (bA (by omega))) ?_
          refine XA.dA 14 rfl rfl rfl (cI rfl) ?_
          refine XA.dA 15 rfl rfl rfl (lN rfl rfl (bA (by omega))) ?_
          refine XA.dA 16 rfl rfl rfl (oH (65 + 12 * vs.length + rg.length) (65 + 12 * vs.length + rg.length) (el := 3) (sz := 1) (by kernel_rfl) (by kernel_rfl) rfl rfl (by omega) (by omega) (by omega)) ?_
          refine XA.dA 17 rfl rfl rfl (iQ (by kernel_rfl) rfl (by first | exact Rd.eL (dd _ (by omega)) | exact Rd.ld)) ?_
          refine XA.dA 18 rfl rfl rfl (Ku rfl rfl (by omega) (Bg (by omega) (by omega) (by omega))) ?_
          refine XA.dA 19 rfl rfl rfl (pQ rfl rfl (by omega) (rem_in (by omega))) ?_
          refine XA.dA 20 rfl rfl rfl (zX rfl rfl) ?_
          refine XA.dA 21 rfl rfl rfl (gD (zs := [.int .u32 0, .bool false]) (L := [(0, 1), (1, 1)]) (aM (by kernel_rfl)) (by kernel_rfl) rfl (by simp [aR, aU, Value.cells]; rfl)) ?_
          refine XA.next 22 rfl (by kernel_rfl) ?_
          refine eP (el := 92) (sz := 2) (zs := [.int .u32 0, .bool false]) (by kernel_rfl) (aM (by kernel_rfl)) (by kernel_rfl) rfl (by decide) (by decide) rfl (by simp [aR, aU, Value.cells, List.range_succ, List.set]; rfl) (by decide) fun g13 => ?_
          refine XA.bk ?_
          refine XA.next 23 rfl (by kernel_rfl) ?_
          refine fI 2 2 8 1 (n' := rg.length + 1) (el := 92) (by kernel_rfl) (by kernel_rfl) (by decide) rfl rfl rfl (kL 0 rfl rfl) (by simp [Value.oneCell']) rfl (by omega) (by omega) (by decide) fun A5n c5n => ?_
          refine XA.bt ?_
          refine XA.next 24 rfl (by kernel_rfl) ?_
          refine bL (off := 4) (by kernel_rfl) rfl (by decide) ?_
          refine XA.bt ?_
          refine XA.next 25 rfl (by kernel_rfl) ?_
          refine qA rfl rfl ?_; dsimp only [List.set]
          refine XA.bt ?_
          refine XA.done (by kernel_rfl) ?_
          refine XK.norm ?_
          refine XK.region ?_
          refine aG rfl (by decide) ?_
          refine dO rfl rfl (bA (by omega)) (by decide) ?_
          refine aL rfl (by decide) ?_
          refine XK.aE ?_
          exact XK.weak [1, 2, 3, 4, 5, 6, 7, 8, 9] rfl (by decide) (fun _ h => h) (XK.aK [(17, .int .i64 (rg.length + 1)), (16, .pointer (some ⟨g12, 0, none⟩)), (15, .int .i64 (60 + 12 * vs.length)), (14, .int .i64 vs.length), (6, .pointer (some ⟨g4, 0, none⟩)), (4, .slice (some ⟨g2, 0, none⟩) 120 120), (2, .pointer (some ⟨g1, 0, none⟩))] (XK.round (5 - (rg.length + 1)) (by omega) ⟨rg ++ [⟨dv ds (65 + 12 * vs.length + rg.length) % 7, decide (dv ds (65 + 12 * vs.length + rg.length) / 7 % 2 = 0)⟩], A5n, c5n, by simp; omega, by simp, by intro r hr; simp at hr; rcases hr with hr | hr; exact Pa r hr; subst hr; dsimp only; omega, by simp, rfl, by simp [Rg.cells]⟩))
        ·
          refine XK.exit ?_
          refine XK.norm ?_
          exact XK.aK [(16, .pointer (some ⟨g12, 0, none⟩)), (15, .int .i64 (60 + 12 * vs.length)), (14, .int .i64 vs.length), (6, .pointer (some ⟨g4, 0, none⟩)), (4, .slice (some ⟨g2, 0, none⟩) 120 120), (2, .pointer (some ⟨g1, 0, none⟩))] (XK.meet ⟨rg, A5, c5, by omega, Pa, rfl, rfl, rfl⟩)
      rintro _ _ _ ⟨rg, A5, c5, hg4, Pa, rfl, rfl, rfl⟩
      refine XK.kN 3 1 ?_
      refine XK.weak [1, 0, 2, 3, 4, 5, 6, 7, 8, 9] rfl (by decide) (fun _ h => h) ?_
      refine XK.cut (fun e R H => ∃ (nd : List Int) (A6 : Option Addr) (c6 : Nat), nd.length ≤ 1 ∧ (∀ f ∈ nd, 0 ≤ f ∧ f < vs.length) ∧ e = [(16, .pointer (some ⟨g12, 0, none⟩)), (15, .int .i64 (60 + 12 * vs.length)), (14, .int .i64 vs.length), (6, .pointer (some ⟨g4, 0, none⟩)), (4, .slice (some ⟨g2, 0, none⟩) 120 120), (2, .pointer (some ⟨g1, 0, none⟩))] ∧ R = [q, all w] ∧ H = [HP.aF g12 78 [.int .i64 (dv ds (60 + 12 * vs.length) % cs.length), .int .i64 (dv ds (61 + 12 * vs.length) % dm.length), .int .i64 (dv ds (62 + 12 * vs.length) % rs.length), .int .u32 (dv ds (63 + 12 * vs.length) % 3), .slice A5 rg.length c5, .slice A6 nd.length c6], HP.own 3 1 (.slice A6 nd.length c6) nd.length (aO nd), HP.own 92 2 (.slice A5 rg.length c5) rg.length (rg.flatMap Rg.cells), HP.aF g4 29 [.slice A1 cs.length c1, .slice A2 dm.length c2, .slice A3 rs.length c3, .slice A4 vs.length c4], HP.own 78 6 (.slice A4 vs.length c4) vs.length qK.flatten, HP.own 120 1 (.slice A3 rs.length c3) rs.length nS.flatten, HP.own 75 3 (.slice A2 dm.length c2) dm.length lX.flatten, HP.own 118 6 (.slice A1 cs.length c1) cs.length jL.flatten, HP.aF g2 3 (aO ds), HP.aF g1 29 [.slice none 0 0, .slice none 0 0, .slice none 0 0, .slice none 0 0]]) ?_ ?_
      ·
        refine XK.seq ?_
        refine XK.region ?_
        refine aG rfl (by decide) ?_
        refine Dk rfl rfl (by decide) ?_
        refine aG rfl (by decide) ?_
        refine bT (t := 300) rfl (fun hg => ?_) (fun hg => ?_)
        ·
          refine aS rfl rfl ?_; refine aG rfl (by decide) ?_
          refine aS rfl rfl ?_; refine aG rfl (by decide) ?_
          refine aS rfl rfl ?_; refine dO rfl rfl (bA (by omega)) (by decide) ?_
          refine aS rfl rfl ?_; refine dH (69 + 12 * vs.length) (69 + 12 * vs.length) (el := 3) (sz := 1) (by kernel_rfl) (by kernel_rfl) rfl rfl (by omega) (by omega) (by omega) (by decide) ?_
          refine aS rfl rfl ?_; refine gA (by kernel_rfl) rfl (by first | exact Rd.eL (dd _ (by omega)) | exact Rd.ld) (by decide) ?_
          refine aS rfl rfl ?_; refine qC rfl rfl (by omega) (rem_in (by omega)) (by decide) ?_
          refine aS rfl rfl ?_; refine iS rfl rfl (by decide) ?_
          (first | refine cL rfl rfl (by decide) ?_ | refine cM rfl rfl (by decide) ?_)
          refine XK.aE ?_
          refine XK.if_ rfl (fun h => ?_) (fun h => ?_)
          ·
            refine XK.draw 10 (by kernel_rfl) (by kernel_rfl) ?_
            refine XA.dA 0 rfl rfl rfl (jE (off := 5) (by kernel_rfl) rfl) ?_
            refine XA.dA 1 rfl rfl rfl (iQ (by kernel_rfl) rfl (by first | exact Rd.eL (dd _ (by omega)) | exact Rd.ld)) ?_
            refine XA.dA 2 rfl rfl rfl (cI rfl) ?_
            refine XA.dA 3 rfl rfl rfl (cI rfl) ?_
            refine XA.dA 4 rfl rfl rfl (lN rfl rfl (bA (by omega))) ?_
            refine XA.dA 5 rfl rfl rfl (oH (70 + 12 * vs.length) (70 + 12 * vs.length) (el := 3) (sz := 1) (by kernel_rfl) (by kernel_rfl) rfl rfl (by omega) (by omega) (by omega)) ?_
            refine XA.dA 6 rfl rfl rfl (iQ (by kernel_rfl) rfl (by first | exact Rd.eL (dd _ (by omega)) | exact Rd.ld)) ?_
            refine XA.dA 7 rfl rfl rfl (cI rfl) ?_
            refine XA.dA 8 rfl rfl rfl (pQ rfl rfl (by omega) (rem_in (by omega))) ?_
            refine XA.next 9 rfl (by kernel_rfl) ?_
            refine eP (el := 3) (sz := 1) (zs := [.int .i64 0]) (by kernel_rfl) (aM (by kernel_rfl)) (by kernel_rfl) rfl (by decide) (by decide) rfl (by simp [aR, aU, Value.cells, List.range_succ, List.set]; rfl) (by decide) fun g14 => ?_
            refine XA.bk ?_
            refine XA.next 10 rfl (by kernel_rfl) ?_
            refine fI 2 1 8 1 (n' := 1) (el := 3) (by kernel_rfl) (by kernel_rfl) (by decide) rfl rfl rfl (kL 0 rfl rfl) (by simp [Value.oneCell']) rfl (by omega) (by omega) (by decide) fun A6 c6 => ?_
            refine XA.bt ?_
            refine XA.next 11 rfl (by kernel_rfl) ?_
            refine bL (off := 5) (by kernel_rfl) rfl (by decide) ?_
            refine XA.bt ?_
            refine XA.next 12 rfl (by kernel_rfl) ?_
            refine qA rfl rfl ?_; dsimp only [List.set]
            refine XA.bt ?_
            refine XA.done (by kernel_rfl) ?_
            refine XK.norm ?_
            exact XK.weak [1, 2, 3, 4, 5, 6, 7, 8, 9, 10] rfl (by decide) (by simp) (XK.aK [(16, .pointer (some ⟨g12, 0, none⟩)), (15, .int .i64 (60 + 12 * vs.length)), (14, .int .i64 vs.length), (6, .pointer (some ⟨g4, 0, none⟩)), (4, .slice (some ⟨g2, 0, none⟩) 120 120), (2, .pointer (some ⟨g1, 0, none⟩))] (XK.meet ⟨[dv ds (70 + 12 * vs.length) % vs.length], A6, c6, by simp, by intro f hf; simp at hf; subst hf; exact xZ _ hg, rfl, rfl, rfl⟩))
          ·
            refine XK.skip ?_
            refine XK.norm ?_
            exact XK.aK [(16, .pointer (some ⟨g12, 0, none⟩)), (15, .int .i64 (60 + 12 * vs.length)), (14, .int .i64 vs.length), (6, .pointer (some ⟨g4, 0, none⟩)), (4, .slice (some ⟨g2, 0, none⟩) 120 120), (2, .pointer (some ⟨g1, 0, none⟩))] (XK.meet ⟨[], none, 0, by simp, by simp, rfl, rfl, rfl⟩)
        ·
          refine aP rfl rfl rfl (by decide) ?_
          refine aP rfl rfl rfl (by decide) ?_
          refine aP rfl rfl rfl (by decide) ?_
          refine aP rfl rfl rfl (by decide) ?_
          refine aP rfl rfl rfl (by decide) ?_
          refine aP rfl rfl rfl (by decide) ?_
          refine aP rfl rfl rfl (by decide) ?_
          (first | refine cL rfl rfl (by decide) ?_ | refine cM rfl rfl (by decide) ?_)
          refine XK.aE ?_
          refine XK.cond rfl (fun h => by cases h) (fun _ => ?_)
          refine XK.skip ?_
          refine XK.norm ?_
          exact XK.aK [(16, .pointer (some ⟨g12, 0, none⟩)), (15, .int .i64 (60 + 12 * vs.length)), (14, .int .i64 vs.length), (6, .pointer (some ⟨g4, 0, none⟩)), (4, .slice (some ⟨g2, 0, none⟩) 120 120), (2, .pointer (some ⟨g1, 0, none⟩))] (XK.meet ⟨[], none, 0, by simp, by simp, rfl, rfl, rfl⟩)
      rintro _ _ _ ⟨nd, A6, c6, rS, hnf, rfl, rfl, rfl⟩
      refine XK.cut (fun e R H => ∃ (nd : List Int) (A6 : Option Addr) (c6 : Nat), nd.length ≤ 2 ∧ (∀ f ∈ nd, 0 ≤ f ∧ f < vs.length) ∧ e = [(16, .pointer (some ⟨g12, 0, none⟩)), (15, .int .i64 (60 + 12 * vs.length)), (14, .int .i64 vs.length), (6, .pointer (some ⟨g4, 0, none⟩)), (4, .slice (some ⟨g2, 0, none⟩) 120 120), (2, .pointer (some ⟨g1, 0, none⟩))] ∧ R = [q, all w] ∧ H = [HP.aF g12 78 [.int .i64 (dv ds (60 + 12 * vs.length) % cs.length), .int .i64 (dv ds (61 + 12 * vs.length) % dm.length), .int .i64 (dv ds (62 + 12 * vs.length) % rs.length), .int .u32 (dv ds (63 + 12 * vs.length) % 3), .slice A5 rg.length c5, .slice A6 nd.length c6], HP.own 3 1 (.slice A6 nd.length c6) nd.length (aO nd), HP.own 92 2 (.slice A5 rg.length c5) rg.length (rg.flatMap Rg.cells), HP.aF g4 29 [.slice A1 cs.length c1, .slice A2 dm.length c2, .slice A3 rs.length c3, .slice A4 vs.length c4], HP.own 78 6 (.slice A4 vs.length c4) vs.length qK.flatten, HP.own 120 1 (.slice A3 rs.length c3) rs.length nS.flatten, HP.own 75 3 (.slice A2 dm.length c2) dm.length lX.flatten, HP.own 118 6 (.slice A1 cs.length c1) cs.length jL.flatten, HP.aF g2 3 (aO ds), HP.aF g1 29 [.slice none 0 0, .slice none 0 0, .slice none 0 0, .slice none 0 0]]) ?_ ?_
      ·
        refine XK.seq ?_
        refine XK.region ?_
        refine aG rfl (by decide) ?_
        refine Dk rfl rfl (by decide) ?_
        refine aG rfl (by decide) ?_
        refine bT (t := 323) rfl (fun hg => ?_) (fun hg => ?_)
        ·
          refine aS rfl rfl ?_; refine aG rfl (by decide) ?_
          refine aS rfl rfl ?_; refine aG rfl (by decide) ?_
          refine aS rfl rfl ?_; refine dO rfl rfl (bA (by omega)) (by decide) ?_
          refine aS rfl rfl ?_; refine dH (71 + 12 * vs.length) (71 + 12 * vs.length) (el := 3) (sz := 1) (by kernel_rfl) (by kernel_rfl) rfl rfl (by omega) (by omega) (by omega) (by decide) ?_
          refine aS rfl rfl ?_; refine gA (by kernel_rfl) rfl (by first | exact Rd.eL (dd _ (by omega)) | exact Rd.ld) (by decide) ?_
          refine aS rfl rfl ?_; refine qC rfl rfl (by omega) (rem_in (by omega)) (by decide) ?_
          refine aS rfl rfl ?_; refine iS rfl rfl (by decide) ?_
          (first | refine cL rfl rfl (by decide) ?_ | refine cM rfl rfl (by decide) ?_)
          refine XK.aE ?_
          refine XK.if_ rfl (fun h => ?_) (fun h => ?_)
          ·
            refine XK.draw 11 (by kernel_rfl) (by kernel_rfl) ?_
            refine XA.dA 0 rfl rfl rfl (jE (off := 5) (by kernel_rfl) rfl) ?_
            refine XA.dA 1 rfl rfl rfl (iQ (by kernel_rfl) rfl (by first | exact Rd.eL (dd _ (by omega)) | exact Rd.ld)) ?_
            refine XA.dA 2 rfl rfl rfl (cI rfl) ?_
            refine XA.dA 3 rfl rfl rfl (cI rfl) ?_
            refine XA.dA 4 rfl rfl rfl (lN rfl rfl (bA (by omega))) ?_
            refine XA.dA 5 rfl rfl rfl (oH (71 + 12 * vs.length) (71 + 12 * vs.length) (el := 3) (sz := 1) (by kernel_rfl) (by kernel_rfl) rfl rfl (by omega) (by omega) (by omega)) ?_
            refine XA.dA 6 rfl rfl rfl (iQ (by kernel_rfl) rfl (by first | exact Rd.eL (dd _ (by omega)) | exact Rd.ld)) ?_
            refine XA.dA 7 rfl rfl rfl (Ku rfl rfl (by omega) (Bg (by omega) (by omega) (by omega))) ?_
            refine XA.dA 8 rfl rfl rfl (cI rfl) ?_
            refine XA.dA 9 rfl rfl rfl (pQ rfl rfl (by omega) (rem_in (by omega))) ?_
            refine XA.next 10 rfl (by kernel_rfl) ?_
            refine eP (el := 3) (sz := 1) (zs := [.int .i64 0]) (by kernel_rfl) (aM (by kernel_rfl)) (by kernel_rfl) rfl (by decide) (by decide) rfl (by simp [aR, aU, Value.cells, List.range_succ, List.set]; rfl) (by decide) fun g15 => ?_
            refine XA.bk ?_
            refine XA.next 11 rfl (by kernel_rfl) ?_
            refine fI 2 1 8 1 (n' := nd.length + 1) (el := 3) (by kernel_rfl) (by kernel_rfl) (by decide) rfl rfl rfl (kL 0 rfl rfl) (by simp [Value.oneCell']) rfl (by omega) (by omega) (by decide) fun A6n c6n => ?_
            refine XA.bt ?_
            refine XA.next 12 rfl (by kernel_rfl) ?_
            refine bL (off := 5) (by kernel_rfl) rfl (by decide) ?_
            refine XA.bt ?_
            refine XA.next 13 rfl (by kernel_rfl) ?_
            refine qA rfl rfl ?_; dsimp only [List.set]
            refine XA.bt ?_
            refine XA.done (by kernel_rfl) ?_
            refine XK.norm ?_
            exact XK.weak [1, 2, 3, 4, 5, 6, 7, 8, 9, 10] rfl (by decide) (by simp) (XK.aK [(16, .pointer (some ⟨g12, 0, none⟩)), (15, .int .i64 (60 + 12 * vs.length)), (14, .int .i64 vs.length), (6, .pointer (some ⟨g4, 0, none⟩)), (4, .slice (some ⟨g2, 0, none⟩) 120 120), (2, .pointer (some ⟨g1, 0, none⟩))] (XK.meet ⟨nd ++ [dv ds (71 + 12 * vs.length) / 3 % vs.length], A6n, c6n, by simp; omega, by intro f hf; simp at hf; rcases hf with hf | hf; exact hnf f hf; subst hf; exact xZ _ (by omega), rfl, rfl, by simp [aO]⟩))
          ·
            refine XK.skip ?_
            refine XK.norm ?_
            exact XK.aK [(16, .pointer (some ⟨g12, 0, none⟩)), (15, .int .i64 (60 + 12 * vs.length)), (14, .int .i64 vs.length), (6, .pointer (some ⟨g4, 0, none⟩)), (4, .slice (some ⟨g2, 0, none⟩) 120 120), (2, .pointer (some ⟨g1, 0, none⟩))] (XK.meet ⟨nd, A6, c6, by omega, hnf, rfl, rfl, rfl⟩)
        ·
          refine aP rfl rfl rfl (by decide) ?_
          refine aP rfl rfl rfl (by decide) ?_
          refine aP rfl rfl rfl (by decide) ?_
          refine aP rfl rfl rfl (by decide) ?_
          refine aP rfl rfl rfl (by decide) ?_
          refine aP rfl rfl rfl (by decide) ?_
          refine aP rfl rfl rfl (by decide) ?_
          (first | refine cL rfl rfl (by decide) ?_ | refine cM rfl rfl (by decide) ?_)
          refine XK.aE ?_
          refine XK.cond rfl (fun h => by cases h) (fun _ => ?_)
          refine XK.skip ?_
          refine XK.norm ?_
          exact XK.aK [(16, .pointer (some ⟨g12, 0, none⟩)), (15, .int .i64 (60 + 12 * vs.length)), (14, .int .i64 vs.length), (6, .pointer (some ⟨g4, 0, none⟩)), (4, .slice (some ⟨g2, 0, none⟩) 120 120), (2, .pointer (some ⟨g1, 0, none⟩))] (XK.meet ⟨nd, A6, c6, by omega, hnf, rfl, rfl, rfl⟩)
      rintro _ _ _ ⟨nd, A6, c6, aF7, hnf, rfl, rfl, rfl⟩
      refine XK.region ?_
      refine bL (off := 3) (by kernel_rfl) rfl (by decide) ?_
      refine gA (by kernel_rfl) rfl (by first | exact Rd.eL (dd _ (by omega)) | exact Rd.ld) (by decide) ?_
      refine iK 6 rfl ?_
      refine eP (el := 78) (sz := 6) (zs := [.int .i64 0, .int .i64 0, .int .i64 0, .int .u32 0, .slice none 0 0, .slice none 0 0]) (by kernel_rfl) (aM (by kernel_rfl)) (by kernel_rfl) rfl (by decide) (by decide) rfl (by simp [aR, aU, Value.cells, List.range_succ, List.set]; rfl) (by decide) fun g16 => ?_
      refine fI 5 6 80 1 (n' := vs.length + 1) (el := 78) (by kernel_rfl) (by kernel_rfl) (by decide) rfl rfl rfl (kL 0 rfl rfl) (by simp [Value.oneCell']) rfl (by omega) (by omega) (by decide) fun A4n c4n => ?_
      refine bL (off := 3) (by kernel_rfl) rfl (by decide) ?_
      refine qA rfl rfl ?_; dsimp only [List.set]
      refine XK.aE ?_
      refine XK.region ?_
      refine aG rfl (by decide) ?_
      refine dO rfl rfl (bA (by omega)) (by decide) ?_
      refine aL rfl (by decide) ?_
      refine XK.aE ?_
      refine XK.still [q] [2, 3] [4, 5, 6, 7, 8, 9, 10] (by simp) rfl (by decide) (by simp) fun qn rR Jf qQ => ?_
      have hle := Jf q (by simp)
      have jW := qQ (by simp) (by simp; exact hq)
      have hs1 := aH.own (rR 3 _ (by simp) rfl)
      have fF := aH.own (rR 2 _ (by simp) rfl)
      exact XK.weak [0, 1, 2, 3, 4, 5, 6] rfl (by decide) (by simp) (XK.aK [(14, .int .i64 (vs.length + 1)), (6, .pointer (some ⟨g4, 0, none⟩)), (4, .slice (some ⟨g2, 0, none⟩) 120 120), (2, .pointer (some ⟨g1, 0, none⟩))] (XK.round (5 - (vs.length + 1)) (by omega) ⟨vs ++ [⟨dv ds (60 + 12 * vs.length) % cs.length, dv ds (61 + 12 * vs.length) % dm.length, dv ds (62 + 12 * vs.length) % rs.length, dv ds (63 + 12 * vs.length) % 3, rg, nd⟩], A4n, c4n, qn, qK ++ [_], by simp; omega, by simp, uT.mono (fun c r => iX.mono (gE hle)), Ol.snoc ⟨q0.1, q0.2, q1.1, q1.2, q2.1, q2.2, by dsimp only; omega, by dsimp only; omega, hg4, Pa, aF7, hnf⟩, (Oj.mono (fun c r => jQ.mono (gE hle))).snoc (r := [.int .i64 (dv ds (60 + 12 * vs.length) % cs.length), .int .i64 (dv ds (61 + 12 * vs.length) % dm.length), .int .i64 (dv ds (62 + 12 * vs.length) % rs.length), .int .u32 (dv ds (63 + 12 * vs.length) % 3), .slice A5 rg.length c5, .slice A6 nd.length c6]) rfl ⟨A5, _, c5, A6, _, c6, rfl, rfl, rfl, hs1, fF⟩, jW, by simp, rfl, by simp⟩))
    ·
      refine XK.exit ?_
      refine XK.norm ?_
      exact XK.aK [(6, .pointer (some ⟨g4, 0, none⟩)), (4, .slice (some ⟨g2, 0, none⟩) 120 120), (2, .pointer (some ⟨g1, 0, none⟩))] (XK.meet ⟨vs, A4, c4, q, qK, by omega, by omega, uT, Ol, Oj, hq, rfl, rfl, rfl⟩)
  rintro _ _ _ ⟨vs, A4, c4, q, qK, Ek, hv4, uT, Ol, Oj, hq, rfl, rfl, rfl⟩
  refine XK.seq ?_
  refine XK.region ?_
  refine iK 4 rfl ?_
  refine eJ rfl rfl ?_; simp only [cC, Value.cells, List.set, List.take, List.drop, List.nil_append, List.append_nil, List.length_cons, List.length_nil, List.cons_append, Nat.reduceAdd]
  refine XK.aE ?_
  refine XK.ret ?_
  refine XK.norm ?_
  refine XK.still [q] [1, 2, 3, 4] [6] (by simp) rfl (by decide) (by simp) fun qn rR Jf qQ => ?_
  have hle := Jf q (by simp)
  have jW := qQ (by simp) (by simp; exact hq)
  have mB := aH.own (rR 1 _ (by simp) rfl)
  have kY := aH.own (rR 2 _ (by simp) rfl)
  have fF := aH.own (rR 3 _ (by simp) rfl)
  have hs1 := aH.own (rR 4 _ (by simp) rfl)
  have hS : mW (dU qn) ⟨cs, dm, rs, vs⟩ #[.slice A1 cs.length c1, .slice A2 dm.length c2, .slice A3 rs.length c3, .slice A4 vs.length c4] :=
    ⟨A1, _, c1, A2, _, c2, A3, _, c3, A4, _, c4, rfl, ⟨jL, uT.mono (fun c r => iX.mono (gE hle)), rfl, hs1⟩, ⟨lX, Pd, rfl, fF⟩, ⟨nS, cJ, rfl, kY⟩, ⟨qK, Oj.mono (fun c r => jQ.mono (gE hle)), rfl, mB⟩⟩
  exact XK.Dt rfl (by kernel_rfl) rfl rfl (aD.whole 0 rfl) fun w1 st => ⟨⟨_, rfl, _, ⟨cs, dm, rs, vs⟩, rfl, hS.mono (gE (st.lK (by simp) jW)), ⟨Et, hdf, rQ, Ol, ⟨Vb, hc9⟩, ⟨dR, hd4⟩, ⟨dJ, sY⟩, ⟨Ek, hv4⟩⟩⟩, st.below (by simp)⟩
end
section
structure Au where
 a1 : Int
 a2 : Int
 a3 : Int
 a4 : Int
 a5 : Int
 a6 : Int
def Au.cells (a : Au) : List Value := [.int .i64 a.a1, .int .i64 a.a2, .int .i64 a.a3, .int .i64 a.a4, .int .i64 a.a5, .int .i64 a.a6]
def Ga (a : Int) : Prop := -9223372036854775808 ≤ a ∧ a ≤ 9223372036854775807
structure Au.ok (a : Au) : Prop where
 h1 : Ga a.a1
 h2 : Ga a.a2
 h3 : Ga a.a3
 h4 : Ga a.a4
 h5 : Ga a.a5
 h6 : Ga a.a6
theorem aH.ask {w : World} {A : Option Addr} {n : Nat} {qs : List Au} (h : aH (all w) 6 A n (qs.flatMap Au.cells)) {k : Nat} {a : Au} (hk : qs[k]? = some a) (hn : k < n) : ∃ b off, A = some ⟨b, off, none⟩ ∧ cZ w b (off + k * 6) a.cells := by
 obtain ⟨b, off, hA, hz, hc⟩ := aH.at_ h hn
 refine ⟨b, off, hA, hz, fun f u hu => hc f u ?_⟩
 have hf : f < 6 := by
  rcases Nat.lt_or_ge f a.cells.length with h | h
  ·exact h
  ·rw [List.getElem?_eq_none h] at hu; cases hu
 rw [Co Au.cells 6 qs (fun x _ => rfl) k f a hk hf, hu]
end
section
theorem aFY (n : Nat) (i : Nat) : hasB (List.replicate n false) i = false := by
 unfold hasB
 rw [List.getElem?_replicate]
 split <;> rfl
theorem Yo (s : aC) (k id : Int) : jR (dY s) k id = false := by
 unfold jR sV dY
 have h : ∀ n i, hasB (List.replicate n false) i = false := aFY
 split
 ·rw [h]; simp
 ·split
  ·rw [h]; simp
  ·split
   ·rw [h]; simp
   ·simp [hasB]
section
variable {s : aC} {r : Nat} {p m on off kn kf n : Int}
theorem Wn {x y : bE} {wt : List Int} {ag : Nat} {l : List Int} {k id : Int} (hr : dX s l = (0, k, id)) (hk : fL k) (zJ : k ≠ 0) (hw : jR (if ag = 0 then x else y) k id = false) :
  jZ s x y wt ag l = if k = 117 ∧ (s.domains[id.toNat]?).any (fun d => decide (d.above ≠ -1) && !lT x y 117 d.above) = true then (-3, 0, 0) else (0, k, id) := by
 unfold jZ
 rw [hr]
 dsimp only
 rw [hw, if_neg (by simp [zJ, hk]), if_pos hk]
theorem Wm {x y : bE} {wt : List Int} {ag : Nat} {l : List Int} {k id : Int} (hr : dX s l = (0, k, id)) (hw : jR (if ag = 0 then x else y) k id = decide (fL k)) : jZ s x y wt ag l = (0, 0, 0) := by
 unfold jZ
 rw [hr]
 dsimp only
 rw [if_pos (.inr (.inr hw))]
theorem aH0 {x y : bE} {wt : List Int} {ag : Nat} {l : List Int} {k id : Int} (hr : dX s l = (0, k, id)) (hk : ¬ fL k) (zJ : k ≠ 0) (hw : jR (if ag = 0 then x else y) k id = true) :
  jZ s x y wt ag l = if zZ s x y ag k id = true then (-3, 0, 0) else if Ad s wt k id = true then (-6, 0, 0) else (0, k, id) := by
 unfold jZ
 rw [hr]
 dsimp only
 rw [hw, if_neg (by simp [zJ, hk]), if_neg hk]
end
section
variable {s : aC} {r : Nat} {p m on off kn kf n : Int} {a b : Nat}
end
end
section
section
variable {s : aC}
theorem aBN (hm : s.made) : ∀ (k c : Nat), ∀ i ∈ kZ s k c, i ≤ c
 | 0, c, i, h => by simp [kZ] at h
 | k + 1, c, i, h => by
  unfold kZ at h
  cases hc : s.aB[c]? with
  | none => rw [hc] at h; simp at h
  | some x =>
   rw [hc] at h
   dsimp only at h
   cases hs : x.src with
   | nil => rw [hs] at h; simp at h; omega
   | cons f fs =>
    rw [hs] at h
    rcases List.mem_cons.1 h with rfl | h
    ·exact Nat.le_refl _
    ·have := aBN hm k _ i h
     have hf := ((hm.aB c x hc).1) f (by rw [hs]; simp)
     omega
theorem aBO (hm : s.made) {c i : Nat} (hi : i ∈ eI s c) : i ≤ c := aBN hm _ c i hi
end
theorem xT (l : List Bool) (i : Nat) : hasB l i = l[i]?.getD false := rfl
structure bE.cl (x : bE) (s : aC) : Prop where
 of : x.of s
 up : ∀ (i : Nat) d, hasB x.d i = true → s.domains[i]? = some d → 0 ≤ d.above → hasB x.d d.above.toNat = true
 ch : ∀ i j : Nat, hasB x.c i = true → j ∈ eI s i → Zb s j = true → hasB x.c j = true
 sw : ∀ i : Nat, hasB x.c i = true → Zb s i = true
theorem aFZ {l : List Bool} {i : Nat} (h : hasB l i = true) : i < l.length := by
 rw [xT] at h
 rcases Nat.lt_or_ge i l.length with h1 | h1
 ·exact h1
 ·rw [List.getElem?_eq_none h1] at h; cases h
theorem xA (x : bE) (k : Int) (i : Nat) : jR x k (i : Int) = hasB (sV k x) i := by
 unfold jR; simp
theorem Yn (s : aC) (x : bE) (k i : Int) : lT x (dY s) k i = jR x k i := by
 rw [lT, Yo, Bool.or_false]
section
variable {s : aC} {x : bE} {k i : Nat}
end
section
variable {s : aC} {x y : bE}
end
def apart (p q : sD) : Prop := ¬ (p.pr = q.pr ∧ p.id = q.id)
theorem pS.join {q : Piece} {x y : bE} {v1 v2 v3 v4 v5 v6 : Value} (h1 : pS q x (.agg #[v1, v2, v3])) (h2 : pS q y (.agg #[v4, v5, v6])) : jP q x y (.agg #[v1, v2, v3, v4, v5, v6]) := by
 obtain ⟨A1, k1, A2, k2, A3, k3, e1, a1, a2, a3⟩ := h1
 obtain ⟨B1, m1, B2, m2, B3, m3, e2, b1, b2, b3⟩ := h2
 simp only [Value.agg.injEq, Array.mk.injEq, List.cons.injEq] at e1 e2
 obtain ⟨rfl, rfl, rfl, _⟩ := e1
 obtain ⟨rfl, rfl, rfl, _⟩ := e2
 exact ⟨A1, k1, A2, k2, A3, k3, B1, m1, B2, m2, B3, m3, rfl, a1, a2, a3, b1, b2, b3⟩
theorem jP.split {q : Piece} {x y : bE} {v1 v2 v3 v4 v5 v6 : Value} (h : jP q x y (.agg #[v1, v2, v3, v4, v5, v6])) : pS q x (.agg #[v1, v2, v3]) ∧ pS q y (.agg #[v4, v5, v6]) := by
 obtain ⟨A1, k1, A2, k2, A3, k3, B1, m1, B2, m2, B3, m3, e, a1, a2, a3, b1, b2, b3⟩ := h
 simp only [Value.agg.injEq, Array.mk.injEq, List.cons.injEq] at e
 obtain ⟨rfl, rfl, rfl, rfl, rfl, rfl, _⟩ := e
 exact ⟨⟨A1, k1, A2, k2, A3, k3, rfl, a1, a2, a3⟩, ⟨B1, m1, B2, m2, B3, m3, rfl, b1, b2, b3⟩⟩
section
variable {w0 : World} {R : List Piece} {H : List HP}
theorem aD.three (i : Nat) {b : Nat} {t : TypeId} {v1 v2 v3 : Value} {cs : List Value} (hi : H[i]? = some (HP.aF b t (v1 :: v2 :: v3 :: cs))) : aD w0 R H b 0 [v1, v2, v3] := .of fun j v hv => by
 rw [Nat.zero_add]
 refine Rd.aF i hi ?_
 match j, hv with
 | 0, hv => exact hv
 | 1, hv => exact hv
 | 2, hv => exact hv
end
end
section
set_option maxHeartbeats 4000000
set_option maxRecDepth 20000
theorem sM {α : Type} {l : List α} {i : Nat} {x : α} (h : l[i]? = some x) : l.set i x = l := by
 refine List.ext_getElem? fun j => ?_
 rw [List.getElem?_set]
 by_cases he : i = j
 ·subst he; rw [if_pos rfl, if_pos (List.getElem?_eq_some_iff.1 h).1, h]
 ·rw [if_neg he]
def nU (s : aC) (st : List cT) (i : Nat) : List Value := (List.range s.aB.length).map fun j => .bool (decide (j < i) && runs s st j)
theorem aDJ (s : aC) (st : List cT) : List.replicate s.aB.length (Value.bool false) = nU s st 0 := by
 refine List.ext_getElem? fun j => ?_
 rw [nU, List.getElem?_replicate, List.getElem?_map]
 by_cases hl : j < s.aB.length
 ·rw [List.getElem?_range hl]; simp [hl]
 ·rw [List.getElem?_eq_none (l := List.range s.aB.length) (by simp; omega)]; simp [hl]
theorem aDK (s : aC) (st : List cT) (i : Nat) : (nU s st i).set i (.bool (runs s st i)) = nU s st (i + 1) := by
 refine List.ext_getElem? fun j => ?_
 simp only [nU, List.getElem?_set, List.getElem?_map, List.length_map, List.length_range]
 by_cases he : i = j
 ·subst he
  by_cases hl : i < s.aB.length
  ·rw [if_pos rfl, if_pos hl, List.getElem?_range hl]; simp
  ·rw [if_pos rfl, if_neg hl, List.getElem?_eq_none (by simp; omega)]; rfl
 ·rw [if_neg he]
  by_cases hl : j < s.aB.length
  ·rw [List.getElem?_range hl]
   have : decide (j < i) = decide (j < i + 1) := by simp; omega
   simp [this]
  ·rw [List.getElem?_eq_none (by simp; omega)]; rfl
theorem aDL {s : aC} {st : List cT} {j : Nat} (h : j < s.aB.length) : (nU s st s.aB.length)[j]? = some (.bool (runs s st j)) := by
 simp [nU, h]
def kX (s : aC) (st : List cT) (i : Nat) : List cT := (gP s st).take i ++ st.drop i
theorem aEK (s : aC) (st : List cT) : kX s st 0 = st := by simp [kX]
theorem aEO {s : aC} {st : List cT} (hok : lS s st) : kX s st s.aB.length = gP s st := by
 have hl := hok.len
 rw [kX, List.drop_eq_nil_of_le (by omega), List.append_nil, List.take_of_length_le (by simp [gP]; omega)]
theorem aEN {s : aC} {st : List cT} (hok : lS s st) {i : Nat} (hi : i < s.aB.length) : (kX s st i)[i]? = st[i]? := by
 have hl := hok.len
 have : ((gP s st).take i).length = i := by simp [gP]; omega
 rw [kX, List.getElem?_append_right (by omega), this, Nat.sub_self, List.getElem?_drop, Nat.add_zero]
theorem Su {s : aC} {st : List cT} (hok : lS s st) {i : Nat} (hi : i ≤ s.aB.length) : (kX s st i).length = s.aB.length := by
 have hl := hok.len
 simp [kX, gP]; omega
theorem aEL {s : aC} {st : List cT} (hok : lS s st) {i : Nat} {c : dG} {x : cT} (hc : s.aB[i]? = some c) (hx : st[i]? = some x) : (kX s st i).set i (oU s st c x) = kX s st (i + 1) := by
 have hl := hok.len
 have hi := (List.getElem?_eq_some_iff.1 hc).1
 have ht : (gP s st)[i]? = some (oU s st c x) := by rw [gP, List.getElem?_zipWith, hc, hx]
 have xM : (gP s st).length = s.aB.length := by simp [gP]; omega
 refine List.ext_getElem? fun j => ?_
 rw [List.getElem?_set]
 by_cases he : i = j
 ·subst he
  rw [if_pos rfl, if_pos (by rw [Su hok (by omega)]; exact hi), kX, List.getElem?_append_left (by rw [List.length_take]; omega), List.getElem?_take_of_lt (by omega), ht]
 ·rw [if_neg he, kX, kX]
  rcases Nat.lt_or_ge j i with hj | hj
  ·rw [List.getElem?_append_left (by rw [List.length_take]; omega), List.getElem?_append_left (by rw [List.length_take]; omega), List.getElem?_take_of_lt hj, List.getElem?_take_of_lt (by omega)]
  ·rw [List.getElem?_append_right (by rw [List.length_take]; omega), List.getElem?_append_right (by rw [List.length_take]; omega), List.getElem?_drop, List.getElem?_drop, List.length_take, List.length_take]
   congr 1
   omega
theorem aCQ {s : aC} {st : List cT} (hH : s.bO) (hok : lS s st) {i : Nat} {c : dG} {x : cT} (hc : s.aB[i]? = some c) (hx : x ∈ st) : 0 ≤ (oU s st c x).left ∧ (oU s st c x).left ≤ 3 := by
 have h1 := hok.left x hx
 have h2 := (hH.t.aB i c hc).2
 have h3 : 0 ≤ c.lock ∧ c.lock ≤ 3 := by omega
 unfold oU
 split
 ·split
  ·exact h3
  ·split
   ·dsimp only; omega
   ·exact h1
 ·exact h1
theorem Rh {s : aC} {st : List cT} (hH : s.bO) (hok : lS s st) : lS s (gP s st) := by
 have hl := hok.len
 refine ⟨by simp [gP]; omega, fun x hx => ?_⟩
 obtain ⟨j, hj⟩ := List.getElem?_of_mem hx
 rw [gP, List.getElem?_zipWith] at hj
 cases hc : s.aB[j]? with
 | none => rw [hc] at hj; cases hj
 | some c =>
  cases hy : st[j]? with
  | none => rw [hc, hy] at hj; cases hj
  | some y =>
   rw [hc, hy] at hj
   cases hj
   exact aCQ hH hok hc (List.mem_of_getElem? hy)
theorem aEM {s : aC} {st : List cT} (hH : s.bO) (hok : lS s st) {i : Nat} (hi : i ≤ s.aB.length) : lS s (kX s st i) := ⟨Su hok hi, fun x hx => by
 rcases List.mem_append.1 hx with h | h
 ·exact (Rh hH hok).left x (List.mem_of_mem_take h)
 ·exact hok.left x (List.mem_of_mem_drop h)⟩
theorem aH9 (L : TL) (s : aC) (st : List cT) (hH : s.bO) (hfl : L.fa.length = s.aB.length) (hok : lS s st) (w : World) (F : Nat → Prop) (hp : (jF L s st).sat F w) (hF : ∀ b, F b → b < w.heap.size) :
  Calls Tryz.prog 83 #[.pointer (some ⟨L.t, 0, none⟩)] w (fun y w' => y = .returned (.tuple #[]) ∧ ∃ F', (jF L s (gP s st)).sat F' w' ∧ bI w w' F F') := by
 have hnc := hH.t.nc
 have hl := hok.len
 refine XK.dD (p := jF L s st) (F := F) (vs := [.pointer (some ⟨L.t, 0, none⟩)]) Tryz.func83 rfl Tryz.ntmps83 (by simp) hp hF ?_
 have Ue : Rd w [⟨w, fun b => b < w.heap.size ∧ ¬ F b⟩] [jF L s st] L.t 0 (.slice L.A s.aB.length L.c) := Rd.tree 0 rfl hfl hok
 refine XK.go ?_
 refine kD (n := s.aB.length) 1 (el := 4) (z := .bool false) (by kernel_rfl) (by kernel_rfl) rfl rfl rfl (by omega) (by omega) (by decide) fun g1 => ?_
 have aIu : Rd w [⟨w, fun b => b < w.heap.size ∧ ¬ F b⟩] [HP.aF g1 4 (List.replicate s.aB.length (.bool false)), jF L s st] L.t 0 (.slice L.A s.aB.length L.c) := Rd.tree 1 rfl hfl hok
 refine XK.go ?_
 rw [aDJ s st]
 refine XK.aK [(19, .int .i64 0), (18, .int .i64 s.aB.length), (2, .slice (some ⟨g1, 0, none⟩) s.aB.length s.aB.length), (0, .pointer (some ⟨L.t, 0, none⟩))] ?_
 refine XK.loop (fun m e R H => ∃ i : Nat, i ≤ s.aB.length ∧ m = s.aB.length - i ∧ e = [(19, .int .i64 i), (18, .int .i64 s.aB.length), (2, .slice (some ⟨g1, 0, none⟩) s.aB.length s.aB.length), (0, .pointer (some ⟨L.t, 0, none⟩))] ∧ R = [⟨w, fun b => b < w.heap.size ∧ ¬ F b⟩] ∧ H = [HP.aF g1 4 (nU s st i), jF L s st]) s.aB.length ⟨0, by omega, rfl, rfl, rfl, rfl⟩ fun m e R H hI => ?_
 obtain ⟨i, hi, rfl, rfl, rfl, rfl⟩ := hI
 refine XK.go ?_
 refine XK.if_ rfl (fun hlt => ?_) (fun hge => ?_)
 ·have hlt : i < s.aB.length := by omega
  have nE : (nU s st i).length = s.aB.length := by simp [nU]
  refine XK.go ?_
  refine aZ (fun w1 t => Lp L s st hH i w1 (t.Re 1 rfl hfl hok)) ?_
  rw [show kU s st (i : Int) = runs s st i by simp [kU, cF, hlt]]
  refine kd (dat i i) ?_
  refine XK.go ?_
  rw [aDK]
  refine XK.aK [(19, .int .i64 (i + 1 : Nat)), (18, .int .i64 s.aB.length), (2, .slice (some ⟨g1, 0, none⟩) s.aB.length s.aB.length), (0, .pointer (some ⟨L.t, 0, none⟩))] ?_
  exact XK.round (s.aB.length - (i + 1)) (by omega) ⟨i + 1, hlt, rfl, rfl, rfl, rfl⟩
 ·obtain rfl : i = s.aB.length := by omega
  have aIt : Rd w [⟨w, fun b => b < w.heap.size ∧ ¬ F b⟩] [HP.aF g1 4 (nU s st s.aB.length), jF L s st] L.t 0 (.slice L.A s.aB.length L.c) := Rd.tree 1 rfl hfl hok
  refine XK.go ?_
  refine XK.aK [(34, .int .i64 0), (33, .int .i64 s.aB.length), (2, .slice (some ⟨g1, 0, none⟩) s.aB.length s.aB.length), (0, .pointer (some ⟨L.t, 0, none⟩))] ?_
  refine XK.loop (fun m e R H => ∃ i : Nat, i ≤ s.aB.length ∧ m = s.aB.length - i ∧ e = [(34, .int .i64 i), (33, .int .i64 s.aB.length), (2, .slice (some ⟨g1, 0, none⟩) s.aB.length s.aB.length), (0, .pointer (some ⟨L.t, 0, none⟩))] ∧ R = [⟨w, fun b => b < w.heap.size ∧ ¬ F b⟩] ∧ H = [HP.aF g1 4 (nU s st s.aB.length), jF L s (kX s st i)]) s.aB.length ⟨0, by omega, rfl, rfl, rfl, by rw [aEK]⟩ fun m e R H hI => ?_
  obtain ⟨i, hi, rfl, rfl, rfl, rfl⟩ := hI
  refine XK.go ?_
  refine XK.if_ rfl (fun hlt => ?_) (fun hge => ?_)
  ·have hlt : i < s.aB.length := by omega
   obtain ⟨c, hc⟩ := get_some hlt
   obtain ⟨a, ha⟩ := get_some (l := L.fa) (i := i) (by omega)
   obtain ⟨x, hx⟩ := get_some (l := st) (i := i) (by omega)
   have Jm := aEM hH hok hi
   have hml := Su hok hi
   have Bz : (kX s st i)[i]? = some x := by rw [aEN hok hlt]; exact hx
   obtain ⟨gY, fM⟩ := Si hfl Jm
   have Jq := hok.left x (List.mem_of_getElem? hx)
   have nE : (nU s st s.aB.length).length = s.aB.length := by simp [nU]
   have hpq : (fY s L.fa (kX s st i)).set i (mN c a (oU s st c x)) = fY s L.fa (kX s st (i + 1)) := by rw [aAq hc ha (by omega), aEL hok hc hx]
   refine XK.aAn 1 rfl (by omega) fun g cs hA h1 h2 h3 h4 => ?_
   dsimp only [List.set]
   rw [hA]
   have hs := xY h2 gY fM (Eb hc ha Bz)
   have hu := pT.refl cs (i * 11) 11
   have hrd : Rd w [⟨w, fun b => b < w.heap.size ∧ ¬ F b⟩] [HP.aF g 227 cs, HP.aF g1 4 (nU s st s.aB.length), HP.many [HP.aF L.t 225 [.slice (some ⟨g, 0, none⟩) s.aB.length L.c], HP.emp, HP.dV (nO s L.fa) (nO.le (s := s) (fa := L.fa))]] L.t 0 (.slice (some ⟨g, 0, none⟩) s.aB.length L.c) := Rd.aFq 2 0 rfl rfl rfl
   refine XK.go ?_
   refine kd (dat i (i * 11)) ?_
   obtain ⟨hsrc, hfit⟩ := hH.t.aB i c hc
   obtain ⟨kd, src, rate, mul, dv, lock⟩ := c
   obtain ⟨on, left⟩ := x
   dsimp only at hfit hsrc Jq
   dsimp only [mN] at hs
   have Jc : kd ≠ 112 ∨ on = false → fY s L.fa (kX s st i) = fY s L.fa (kX s st (i + 1)) := fun hh => by
    rw [← hpq]
    have : oU s st ⟨kd, src, rate, mul, dv, lock⟩ ⟨on, left⟩ = ⟨on, left⟩ := by
     unfold oU
     rw [if_neg]
     rintro ⟨h1, h2⟩
     rcases hh with hh | hh
     ·exact hh h1
     ·rw [hh] at h2; cases h2
    rw [this, sM (Eb hc ha Bz)]
   rcases hfit with ⟨rfl, _⟩ | ⟨rfl, pJ, _⟩ | ⟨rfl, _⟩ | ⟨rfl, _⟩ | ⟨rfl, _⟩
   ·rw [Jc (.inl (by decide))] at h2
    refine XK.go ?_
    refine XK.jD ?_
    refine XQ.end_ ?_
    refine XK.go ?_
    refine XK.tH 1 hA h1 h2 h3 h4 rfl ?_
    refine XK.aK [(34, .int .i64 (i + 1 : Nat)), (33, .int .i64 s.aB.length), (2, .slice (some ⟨g1, 0, none⟩) s.aB.length s.aB.length), (0, .pointer (some ⟨L.t, 0, none⟩))] ?_
    exact XK.round (s.aB.length - (i + 1)) (by omega) ⟨i + 1, hlt, rfl, rfl, rfl, rfl⟩
   ·cases on
    ·rw [Jc (.inr rfl)] at h2
     refine XK.go ?_
     refine XK.jD ?_
     refine XQ.end_ ?_
     refine XK.go ?_
     refine XK.tH 1 hA h1 h2 h3 h4 rfl ?_
     refine XK.aK [(34, .int .i64 (i + 1 : Nat)), (33, .int .i64 s.aB.length), (2, .slice (some ⟨g1, 0, none⟩) s.aB.length s.aB.length), (0, .pointer (some ⟨L.t, 0, none⟩))] ?_
     exact XK.round (s.aB.length - (i + 1)) (by omega) ⟨i + 1, hlt, rfl, rfl, rfl, rfl⟩
    ·obtain ⟨f, fs, hf⟩ : ∃ (f : Nat) (fs : List Int), src = (f : Int) :: fs := by
      cases hs0 : src with
      | nil => rw [hs0] at pJ; simp at pJ
      | cons f fs => exact ⟨f.toNat, fs, by have := (hsrc f (by rw [hs0]; simp)).1; rw [Int.toNat_of_nonneg this]⟩
     have Cb : f < i := by have := (hsrc f (by rw [hf]; simp)).2; omega
     subst hf
     have hrun := aDL (s := s) (st := st) (j := f) (by omega)
     have cJ : Rd w [⟨w, fun b => b < w.heap.size ∧ ¬ F b⟩] [HP.aF g 227 cs, HP.aF g1 4 (nU s st s.aB.length), HP.many [HP.aF L.t 225 [.slice (some ⟨g, 0, none⟩) s.aB.length L.c], HP.emp, HP.dV (nO s L.fa) (nO.le (s := s) (fa := L.fa))]] g1 f (.bool (runs s st f)) := Rd.aF 1 rfl hrun
     refine XK.go ?_
     refine aZ (fun w1 t => Fq L s (kX s st i) i f _ fs w1 (t.aCP 0 2 rfl rfl hA h2 hfl Jm) hc rfl) ?_
     refine XK.go ?_
     refine kd (dat f f) ?_
     have Bo : oU s st ⟨112, (f : Int) :: fs, rate, mul, dv, lock⟩ ⟨true, left⟩ = if runs s st f = false then ⟨true, lock⟩ else if 0 < left then ⟨true, left - 1⟩ else ⟨true, left⟩ := by
      simp [oU, Dq]
     rw [Bo] at hpq
     cases rQ : runs s st f
     ·rw [rQ] at cJ
      rw [if_pos rQ] at hpq
      have hs1 := hs.set 7 (.int .i64 lock) (by simp) (by omega)
      have pH := hu.set 7 (.int .i64 lock) (by decide)
      have fG := wM (r' := mN ⟨112, (f : Int) :: fs, rate, mul, dv, lock⟩ a ⟨true, lock⟩) h2 gY fM hlt (by omega) rfl hs1 pH
      rw [hpq] at fG
      refine XK.go ?_
      refine XK.tH 1 hA (by simpa using h1) fG h3 h4 rfl ?_
      refine XK.aK [(34, .int .i64 (i + 1 : Nat)), (33, .int .i64 s.aB.length), (2, .slice (some ⟨g1, 0, none⟩) s.aB.length s.aB.length), (0, .pointer (some ⟨L.t, 0, none⟩))] ?_
      exact XK.round (s.aB.length - (i + 1)) (by omega) ⟨i + 1, hlt, rfl, rfl, rfl, rfl⟩
     ·rw [rQ] at cJ
      rw [if_neg (by rw [rQ]; decide)] at hpq
      refine XK.go ?_
      refine XK.if_ rfl (fun hp => ?_) (fun hp => ?_)
      ·rw [if_pos hp] at hpq
       have hs1 := hs.set 7 (.int .i64 (left - 1)) (by simp) (by omega)
       have pH := hu.set 7 (.int .i64 (left - 1)) (by decide)
       have fG := wM (r' := mN ⟨112, (f : Int) :: fs, rate, mul, dv, lock⟩ a ⟨true, left - 1⟩) h2 gY fM hlt (by omega) rfl hs1 pH
       rw [hpq] at fG
       refine XK.go ?_
       refine XK.tH 1 hA (by simpa using h1) fG h3 h4 rfl ?_
       refine XK.aK [(34, .int .i64 (i + 1 : Nat)), (33, .int .i64 s.aB.length), (2, .slice (some ⟨g1, 0, none⟩) s.aB.length s.aB.length), (0, .pointer (some ⟨L.t, 0, none⟩))] ?_
       exact XK.round (s.aB.length - (i + 1)) (by omega) ⟨i + 1, hlt, rfl, rfl, rfl, rfl⟩
      ·rw [if_neg hp, sM (Eb hc ha Bz)] at hpq
       rw [hpq] at h2
       refine XK.go ?_
       refine XK.jD ?_
       refine XQ.end_ ?_
       refine XK.go ?_
       refine XK.tH 1 hA h1 h2 h3 h4 rfl ?_
       refine XK.aK [(34, .int .i64 (i + 1 : Nat)), (33, .int .i64 s.aB.length), (2, .slice (some ⟨g1, 0, none⟩) s.aB.length s.aB.length), (0, .pointer (some ⟨L.t, 0, none⟩))] ?_
       exact XK.round (s.aB.length - (i + 1)) (by omega) ⟨i + 1, hlt, rfl, rfl, rfl, rfl⟩
   ·rw [Jc (.inl (by decide))] at h2
    refine XK.go ?_
    refine XK.jD ?_
    refine XQ.end_ ?_
    refine XK.go ?_
    refine XK.tH 1 hA h1 h2 h3 h4 rfl ?_
    refine XK.aK [(34, .int .i64 (i + 1 : Nat)), (33, .int .i64 s.aB.length), (2, .slice (some ⟨g1, 0, none⟩) s.aB.length s.aB.length), (0, .pointer (some ⟨L.t, 0, none⟩))] ?_
    exact XK.round (s.aB.length - (i + 1)) (by omega) ⟨i + 1, hlt, rfl, rfl, rfl, rfl⟩
   ·rw [Jc (.inl (by decide))] at h2
    refine XK.go ?_
    refine XK.jD ?_
    refine XQ.end_ ?_
    refine XK.go ?_
    refine XK.tH 1 hA h1 h2 h3 h4 rfl ?_
    refine XK.aK [(34, .int .i64 (i + 1 : Nat)), (33, .int .i64 s.aB.length), (2, .slice (some ⟨g1, 0, none⟩) s.aB.length s.aB.length), (0, .pointer (some ⟨L.t, 0, none⟩))] ?_
    exact XK.round (s.aB.length - (i + 1)) (by omega) ⟨i + 1, hlt, rfl, rfl, rfl, rfl⟩
   ·rw [Jc (.inl (by decide))] at h2
    refine XK.go ?_
    refine XK.jD ?_
    refine XQ.end_ ?_
    refine XK.go ?_
    refine XK.tH 1 hA h1 h2 h3 h4 rfl ?_
    refine XK.aK [(34, .int .i64 (i + 1 : Nat)), (33, .int .i64 s.aB.length), (2, .slice (some ⟨g1, 0, none⟩) s.aB.length s.aB.length), (0, .pointer (some ⟨L.t, 0, none⟩))] ?_
    exact XK.round (s.aB.length - (i + 1)) (by omega) ⟨i + 1, hlt, rfl, rfl, rfl, rfl⟩
  ·obtain rfl : i = s.aB.length := by omega
   rw [aEO hok]
   refine XK.go ?_
   exact XK.kV (.inr rfl) rfl fun w1 t => ⟨rfl, t.turns hF (by simp) (i := 1) rfl⟩
end
section
set_option maxHeartbeats 4000000
set_option maxRecDepth 20000
section
variable {N : cN} {w0 w : World} {e : Env} {R : List Piece} {H : List HP} {K : Act → World → Prop} {L : RL} {s : aC} {st : List fV}
theorem XK.openLines (i : Nat) (hi : H[i]? = some (iH L s st)) (h : XK N w0 K e R (HP.map L.g (jV s st) :: HP.aF L.t 235 [.map (some L.g)] :: H.set i (HP.many [HP.emp, HP.emp]))) : XK N w0 K e R H := by
 have hlt := tA hi
 refine XK.take i 0 hi rfl ?_
 refine XK.take (i + 1) 1 (by rw [List.getElem?_cons_succ, List.getElem?_set_self hlt]) rfl ?_
 simpa [List.set_cons_succ, List.set_set] using h
theorem XK.Fo (i : Nat) (hi : H[i]? = some (HP.many [HP.emp, HP.emp])) (h : XK N w0 K e R (H.set i (iH L s st))) : XK N w0 K e R (HP.map L.g (jV s st) :: HP.aF L.t 235 [.map (some L.g)] :: H) := by
 have hlt := tA hi
 refine XK.aX (i + 1) 1 (by rw [List.getElem?_cons_succ]; exact hi) rfl ?_
 dsimp only [List.set]
 refine XK.aX i 0 (by rw [List.getElem?_set_self hlt]) rfl ?_
 simpa [List.set_set, iH] using h
end
theorem aD1 (L : RL) (s : aC) (st : List fV) (hok : wX s st) (i : Int) (w : World) (F : Nat → Prop) (hp : (iH L s st).sat F w) (hF : ∀ b, F b → b < w.heap.size) :
  Calls Tryz.prog 249 #[.pointer (some ⟨L.t, 0, none⟩), .int .i64 i] w (fun y w' => y = .returned (.int .i64 (nL s st i).1) ∧ ∃ F', (iH L s (nL s st i).2).sat F' w' ∧ bI w w' F F') := by
 have hl := hok.len
 cases hi : cF st.length i
 ·have hr : nL s st i = (4, st) := by simp [nL, hi]
  have hv : oG s st i = eY 0 ⟨0, false, false⟩ := by simp [oG, hi]
  rw [hr]
  refine XK.dD (p := iH L s st) (F := F) (vs := [.pointer (some ⟨L.t, 0, none⟩), .int .i64 i]) Tryz.func249 rfl Tryz.ntmps249 (by simp) hp hF ?_
  refine XK.go ?_
  refine aZ (fun w1 t => Hu L s st i w1 (t.Ef 0 rfl)) ?_
  rw [hi, hv]
  unfold eY
  refine XK.go ?_
  refine bZ (cs := [.int .i64 0, .int .i64 0, .bool false, .bool false]) (aM (by kernel_rfl)) (by decide) fun g1 => ?_
  refine XK.go ?_
  exact XK.aI rfl rfl fun w1 t => ⟨rfl, t.turns hF (by simp) (i := 1) rfl⟩
 ·obtain ⟨n, rfl⟩ : ∃ n : Nat, i = n := ⟨i.toNat, by have := of_decide_eq_true hi; omega⟩
  have hlt : n < st.length := by have := of_decide_eq_true hi; omega
  obtain ⟨r, cJ⟩ := get_some (l := s.aW) (i := n) (by omega)
  obtain ⟨x, hx⟩ := get_some hlt
  have hrd : s.aW.getD n 0 = r := by rw [List.getD_eq_getElem?_getD, cJ]; rfl
  have hr : nL s st (n : Int) = (0, st.set n ⟨r, true, false⟩) := by simp [nL, hi, cJ]
  have hv : oG s st (n : Int) = eY r x := by simp [oG, hi, List.getD_eq_getElem?_getD, cJ, hx]
  rw [hr]
  refine XK.dD (p := iH L s st) (F := F) (vs := [.pointer (some ⟨L.t, 0, none⟩), .int .i64 (n : Int)]) Tryz.func249 rfl Tryz.ntmps249 (by simp) hp hF ?_
  refine XK.go ?_
  refine aZ (fun w1 t => Hu L s st n w1 (t.Ef 0 rfl)) ?_
  rw [hi, hv]
  unfold eY
  refine XK.go ?_
  refine bZ (cs := [.int .i64 0, .int .i64 0, .bool false, .bool false]) (aM (by kernel_rfl)) (by decide) fun g1 => ?_
  refine XK.go ?_
  refine XK.openLines 1 rfl ?_
  dsimp only [List.set]
  refine XK.draw 6 (by kernel_rfl) (by kernel_rfl) ?_
  refine XA.q 0 ?_
  refine XA.q 1 ?_
  refine XA.q 2 ?_
  refine XA.q 3 ?_
  refine XA.q 4 ?_
  refine XA.q 5 ?_
  refine XA.next 6 rfl (by kernel_rfl) ?_
  refine Ay (kt := 3) (et := 237) (kd := .i64) (l := jV s st) (v := eY r ⟨r, true, false⟩) 0 (by kernel_rfl) (by kernel_rfl) rfl rfl rfl rfl ?_
  rw [Sm hrd hlt]
  dsimp only [List.set]
  refine XA.bt ?_
  refine XA.done (by kernel_rfl) ?_
  refine XK.Fo 1 rfl ?_
  refine XK.go ?_
  exact XK.aI rfl rfl fun w1 t => ⟨rfl, t.turns hF (by simp) (i := 1) rfl⟩
theorem aDz (L : RL) (s : aC) (st : List fV) (hok : wX s st) (i : Int) (w : World) (F : Nat → Prop) (hp : (iH L s st).sat F w) (hF : ∀ b, F b → b < w.heap.size) :
  Calls Tryz.prog 248 #[.pointer (some ⟨L.t, 0, none⟩), .int .i64 i] w (fun y w' => y = .returned (.int .i64 (oX st i).1) ∧ ∃ F', (iH L s (oX st i).2).sat F' w' ∧ bI w w' F F') := by
 have hl := hok.len
 cases hi : cF st.length i
 ·have hr : oX st i = (4, st) := by simp [oX, hi]
  have hv : oG s st i = eY 0 ⟨0, false, false⟩ := by simp [oG, hi]
  rw [hr]
  refine XK.dD (p := iH L s st) (F := F) (vs := [.pointer (some ⟨L.t, 0, none⟩), .int .i64 i]) Tryz.func248 rfl Tryz.ntmps248 (by simp) hp hF ?_
  refine XK.go ?_
  refine aZ (fun w1 t => Hu L s st i w1 (t.Ef 0 rfl)) ?_
  rw [hi, hv]
  unfold eY
  refine XK.go ?_
  refine bZ (cs := [.int .i64 0, .int .i64 0, .bool false, .bool false]) (aM (by kernel_rfl)) (by decide) fun g1 => ?_
  refine XK.go ?_
  exact XK.aI rfl rfl fun w1 t => ⟨rfl, t.turns hF (by simp) (i := 1) rfl⟩
 ·obtain ⟨n, rfl⟩ : ∃ n : Nat, i = n := ⟨i.toNat, by have := of_decide_eq_true hi; omega⟩
  have hlt : n < st.length := by have := of_decide_eq_true hi; omega
  obtain ⟨r, cJ⟩ := get_some (l := s.aW) (i := n) (by omega)
  obtain ⟨x, hx⟩ := get_some hlt
  have hrd : s.aW.getD n 0 = r := by rw [List.getD_eq_getElem?_getD, cJ]; rfl
  have hr : oX st (n : Int) = if x.held = false then (6, st) else (0, st.set n ⟨x.left, x.held, true⟩) := by simp [oX, hi, hx]
  have hv : oG s st (n : Int) = eY r x := by simp [oG, hi, List.getD_eq_getElem?_getD, cJ, hx]
  rw [hr]
  refine XK.dD (p := iH L s st) (F := F) (vs := [.pointer (some ⟨L.t, 0, none⟩), .int .i64 (n : Int)]) Tryz.func248 rfl Tryz.ntmps248 (by simp) hp hF ?_
  refine XK.go ?_
  refine aZ (fun w1 t => Hu L s st n w1 (t.Ef 0 rfl)) ?_
  rw [hi, hv]
  obtain ⟨left, held, wanted⟩ := x
  unfold eY
  refine XK.go ?_
  refine bZ (cs := [.int .i64 0, .int .i64 0, .bool false, .bool false]) (aM (by kernel_rfl)) (by decide) fun g1 => ?_
  cases held
  ·refine XK.go ?_
   exact XK.aI rfl rfl fun w1 t => ⟨rfl, t.turns hF (by simp) (i := 1) rfl⟩
  ·refine XK.go ?_
   refine XK.openLines 1 rfl ?_
   dsimp only [List.set]
   refine XK.draw 6 (by kernel_rfl) (by kernel_rfl) ?_
   refine XA.q 0 ?_
   refine XA.q 1 ?_
   refine XA.q 2 ?_
   refine XA.q 3 ?_
   refine XA.q 4 ?_
   refine XA.q 5 ?_
   refine XA.next 6 rfl (by kernel_rfl) ?_
   refine Ay (kt := 3) (et := 237) (kd := .i64) (l := jV s st) (v := eY r ⟨left, true, true⟩) 0 (by kernel_rfl) (by kernel_rfl) rfl rfl rfl rfl ?_
   rw [Sm hrd hlt]
   dsimp only [List.set]
   refine XA.bt ?_
   refine XA.done (by kernel_rfl) ?_
   refine XK.Fo 1 rfl ?_
   refine XK.go ?_
   exact XK.aI rfl rfl fun w1 t => ⟨rfl, t.turns hF (by simp) (i := 1) rfl⟩
end
section
set_option maxHeartbeats 4000000
set_option maxRecDepth 20000
theorem aET {α : Type} (f : α → α) (st : List α) {i : Nat} {x : α} (hx : st[i]? = some x) (hs : f x = x) : (st.map f).take i ++ st.drop i = (st.map f).take (i + 1) ++ st.drop (i + 1) := by
 have h1 := Sq f st hx
 rw [hs, Zk (by rw [Sr f st (List.getElem?_eq_some_iff.1 hx).1]; exact hx)] at h1
 exact h1
theorem aDy (L : RL) (s : aC) (st : List fV) (hH : s.bO) (hok : wX s st) (w : World) (F : Nat → Prop) (hp : (iH L s st).sat F w) (hF : ∀ b, F b → b < w.heap.size) :
  Calls Tryz.prog 86 #[.pointer (some ⟨L.t, 0, none⟩)] w (fun y w' => ∃ a : Option Addr × Nat × Nat, y = .returned (.slice a.1 a.2.1 a.2.2) ∧ True ∧ ∃ F', (iH L s (vT st)).sat F' w' ∧ bI w w' F F') := by
 have hl := hok.len
 have fM := hH.t.nr
 refine XK.dD (p := iH L s st) (F := F) (vs := [.pointer (some ⟨L.t, 0, none⟩)]) Tryz.func86 rfl Tryz.ntmps86 (by simp) hp hF ?_
 have Ue : Rd w [⟨w, fun b => b < w.heap.size ∧ ¬ F b⟩] [iH L s st] L.t 0 (.map (some L.g)) := fun w1 t => (t.Ef 0 rfl).r0.2
 refine XK.go ?_
 refine kd (aHk (kt := 3) (et := 237) (l := jV s st) (by kernel_rfl) rfl (fun w1 t => (t.Ef 0 rfl).m)) ?_
 rw [show (jV s st).length = st.length by simp [jV]]
 refine XK.go ?_
 refine XK.kN 3 1 ?_
 refine XK.aK [(14, .int .i64 0), (13, .int .i64 st.length), (3, .slice none 0 0), (0, .pointer (some ⟨L.t, 0, none⟩))] ?_
 refine XK.loop (fun m e R H => ∃ (i n : Nat) (A : Option Addr) (k : Nat) (xs : List Value), i ≤ st.length ∧ n ≤ i ∧ m = st.length - i ∧ e = [(14, .int .i64 i), (13, .int .i64 st.length), (3, .slice A n k), (0, .pointer (some ⟨L.t, 0, none⟩))] ∧ R = [⟨w, fun b => b < w.heap.size ∧ ¬ F b⟩] ∧ H = [HP.own 3 1 (.slice A n k) n xs, iH L s ((st.map gO).take i ++ st.drop i)]) st.length ⟨0, 0, none, 0, [], by omega, by omega, rfl, rfl, rfl, by simp⟩ fun m e R H hI => ?_
 obtain ⟨i, n, A, k, xs, hi, hni, rfl, rfl, rfl, rfl⟩ := hI
 refine XK.go ?_
 refine XK.if_ rfl (fun hlt => ?_) (fun hge => ?_)
 ·have hlt : i < st.length := by omega
  obtain ⟨r, cJ⟩ := get_some (l := s.aW) (i := i) (by omega)
  obtain ⟨x, hx⟩ := get_some hlt
  have Jq := hok.left x (List.mem_of_getElem? hx)
  have hrd : s.aW.getD i 0 = r := by rw [List.getD_eq_getElem?_getD, cJ]; rfl
  have hml : ((st.map gO).take i ++ st.drop i).length = st.length := by simp; omega
  have Bz : ((st.map gO).take i ++ st.drop i)[i]? = some x := by rw [Sr _ st hlt]; exact hx
  have hin : cF ((st.map gO).take i ++ st.drop i).length (i : Int) = true := by rw [hml]; exact decide_eq_true (by omega)
  have Ca : jU (jV s ((st.map gO).take i ++ st.drop i)) (i : Int) = some (eY r x) := by
   rw [aAz, if_pos hin, Int.toNat_natCast, hrd, List.getD_eq_getElem?_getD, Bz]; rfl
  have eB : lD (jV s ((st.map gO).take i ++ st.drop i)) (i : Int) (eY r (gO x)) = jV s ((st.map gO).take (i + 1) ++ st.drop (i + 1)) := by
   rw [Sm hrd (by omega), Sq gO st hx]
  refine XK.openLines 1 rfl ?_
  dsimp only [List.set]
  refine XK.go ?_
  refine Qq (kt := 3) (et := 237) (kd := .i64) (z := eY 0 ⟨0, false, false⟩) (l := jV s ((st.map gO).take i ++ st.drop i)) true (by kernel_rfl) (by kernel_rfl) aA7 rfl rfl (fun w1 t => t.map (i := 0) rfl) (by decide) ?_
  simp only [if_true, Ca, Option.getD_some, Option.isSome_some]
  obtain ⟨left, held, wanted⟩ := x
  dsimp only at Jq
  dsimp only [eY]
  refine XK.go ?_
  refine bZ (cs := [.int .i64 0, .int .i64 0, .bool false, .bool false]) (aM (by kernel_rfl)) (by decide) fun g1 => ?_
  cases held
  ·have hsame : gO ⟨left, false, wanted⟩ = ⟨left, false, wanted⟩ := rfl
   rw [aET gO st hx hsame]
   refine XK.go ?_
   refine XK.weak [1, 2, 3, 4] rfl (by decide) (fun _ h => h) ?_
   refine XK.Fo 1 rfl ?_
   refine XK.aK [(14, .int .i64 (i + 1 : Nat)), (13, .int .i64 st.length), (3, .slice A n k), (0, .pointer (some ⟨L.t, 0, none⟩))] ?_
   exact XK.round (st.length - (i + 1)) (by omega) ⟨i + 1, n, A, k, xs, hlt, by omega, rfl, rfl, rfl, rfl⟩
  ·refine XK.go ?_
   refine XK.if_ rfl (fun hp => ?_) (fun hp => ?_)
   ·have Bo : gO ⟨left, true, wanted⟩ = ⟨left - 1, true, wanted⟩ := by simp [gO, hp]
    rw [Bo] at eB
    refine XK.go ?_
    refine XK.draw 6 (by kernel_rfl) (by kernel_rfl) ?_
    refine XA.q 0 ?_
    refine XA.q 1 ?_
    refine XA.q 2 ?_
    refine XA.q 3 ?_
    refine XA.q 4 ?_
    refine XA.q 5 ?_
    refine XA.next 6 rfl (by kernel_rfl) ?_
    refine Ay (kt := 3) (et := 237) (kd := .i64) (l := jV s ((st.map gO).take i ++ st.drop i)) (v := eY r ⟨left - 1, true, wanted⟩) 1 (by kernel_rfl) (by kernel_rfl) rfl rfl rfl rfl ?_
    rw [eB]
    dsimp only [List.set]
    refine XA.bt ?_
    refine XA.done (by kernel_rfl) ?_
    refine XK.go ?_
    refine XK.weak [1, 2, 3, 4] rfl (by decide) (fun _ h => h) ?_
    refine XK.Fo 1 rfl ?_
    refine XK.aK [(14, .int .i64 (i + 1 : Nat)), (13, .int .i64 st.length), (3, .slice A n k), (0, .pointer (some ⟨L.t, 0, none⟩))] ?_
    exact XK.round (st.length - (i + 1)) (by omega) ⟨i + 1, n, A, k, xs, hlt, by omega, rfl, rfl, rfl, rfl⟩
   ·cases wanted
    ·have Bo : gO ⟨left, true, false⟩ = ⟨left, true, false⟩ := by simp [gO, hp]
     rw [Bo] at eB
     refine XK.go ?_
     refine XK.draw 6 (by kernel_rfl) (by kernel_rfl) ?_
     refine XA.q 0 ?_
     refine XA.q 1 ?_
     refine XA.q 2 ?_
     refine XA.q 3 ?_
     refine XA.q 4 ?_
     refine XA.q 5 ?_
     refine XA.next 6 rfl (by kernel_rfl) ?_
     refine Ay (kt := 3) (et := 237) (kd := .i64) (l := jV s ((st.map gO).take i ++ st.drop i)) (v := eY r ⟨left, true, false⟩) 1 (by kernel_rfl) (by kernel_rfl) rfl rfl rfl rfl ?_
     rw [eB]
     dsimp only [List.set]
     refine XA.bt ?_
     refine XA.done (by kernel_rfl) ?_
     refine XK.go ?_
     refine XK.weak [1, 2, 3, 4] rfl (by decide) (fun _ h => h) ?_
     refine XK.Fo 1 rfl ?_
     refine XK.aK [(14, .int .i64 (i + 1 : Nat)), (13, .int .i64 st.length), (3, .slice A n k), (0, .pointer (some ⟨L.t, 0, none⟩))] ?_
     exact XK.round (st.length - (i + 1)) (by omega) ⟨i + 1, n, A, k, xs, hlt, by omega, rfl, rfl, rfl, rfl⟩
    ·have Bo : gO ⟨left, true, true⟩ = ⟨left, false, false⟩ := by simp [gO, hp]
     rw [Bo] at eB
     refine XK.go ?_
     refine eP (el := 3) (sz := 1) (zs := [.int .i64 0]) (by kernel_rfl) (aM (by kernel_rfl)) (by kernel_rfl) rfl (by decide) (by decide) rfl (by simp [aR, aU, Value.cells, List.range_succ, List.set]; rfl) (by decide) fun g2 => ?_
     refine fI 4 1 8 1 (el := 3) (by kernel_rfl) (by kernel_rfl) (by decide) rfl rfl rfl (kL 0 rfl rfl) (by simp [Value.oneCell']) rfl (by omega) (by omega) (by decide) fun A' k' => ?_
     dsimp only [List.set]
     refine XK.go ?_
     refine XK.draw 6 (by kernel_rfl) (by kernel_rfl) ?_
     refine XA.q 0 ?_
     refine XA.q 1 ?_
     refine XA.q 2 ?_
     refine XA.q 3 ?_
     refine XA.q 4 ?_
     refine XA.q 5 ?_
     refine XA.next 6 rfl (by kernel_rfl) ?_
     refine Ay (kt := 3) (et := 237) (kd := .i64) (l := jV s ((st.map gO).take i ++ st.drop i)) (v := eY r ⟨left, false, false⟩) 2 (by kernel_rfl) (by kernel_rfl) rfl rfl rfl rfl ?_
     rw [eB]
     dsimp only [List.set]
     refine XA.bt ?_
     refine XA.done (by kernel_rfl) ?_
     refine XK.go ?_
     refine XK.weak [2, 3, 4, 5] rfl (by decide) (fun _ h => h) ?_
     refine XK.Fo 1 rfl ?_
     refine XK.aK [(14, .int .i64 (i + 1 : Nat)), (13, .int .i64 st.length), (3, .slice A' (n + 1) k'), (0, .pointer (some ⟨L.t, 0, none⟩))] ?_
     exact XK.round (st.length - (i + 1)) (by omega) ⟨i + 1, n + 1, A', k', _, hlt, by omega, rfl, rfl, rfl, rfl⟩
 ·obtain rfl : i = st.length := by omega
  have uO : (st.map gO).take st.length ++ st.drop st.length = vT st := by
   rw [List.drop_eq_nil_of_le (by omega), List.append_nil, List.take_of_length_le (by simp)]
   rfl
  rw [uO]
  refine XK.go ?_
  exact XK.aI rfl rfl fun w1 t => ⟨(A, n, k), rfl, trivial, t.turns hF (by simp) (i := 1) rfl⟩
end
section
set_option maxHeartbeats 4000000
set_option maxRecDepth 20000
section
variable {N : cN} {w0 w : World} {e : Env} {R : List Piece} {H : List HP} {K : Act → World → Prop} {L : HL} {s : aC} {x : aT}
theorem Rd.hard (i : Nat) {o : Nat} {v : Value} (hi : H[i]? = some (cK L s x)) (hv : (Kb L s.aA.length)[o]? = some v) : Rd w0 R H L.h o v := fun w t => by
 obtain ⟨F, ⟨G, g1, g2, _⟩, h2, _⟩ := t.chunk hi
 have := (wU (g1 0 _ rfl).2).at_ (j := o) hv
 rw [Nat.zero_add] at this
 exact this.2
end
variable (L : HL) (s : aC) (x : aT) (w : World)
theorem aAY (hH : s.bO) (aV : fB L s) (hok : bQ s x) (i : Int) (on : Bool) (F : Nat → Prop) (hp : (cK L s x).sat F w) (hF : ∀ b, F b → b < w.heap.size) :
  Calls Tryz.prog 23 #[.pointer (some ⟨L.h, 0, none⟩), .int .i64 i, .bool on] w (fun y w' => y = .returned (.int .i64 (iC s x.ck i on).1) ∧ ∃ F', (cK L s { x with ck := (iC s x.ck i on).2 }).sat F' w' ∧ bI w w' F F') := by
 have qW := hH.t.nd
 refine XK.dD (p := cK L s x) (F := F) (vs := [.pointer (some ⟨L.h, 0, none⟩), .int .i64 i, .bool on]) Tryz.func23 rfl Tryz.ntmps23 (by simp) hp hF ?_
 refine XK.go ?_
 refine aZ (fun w1 t => uR L s x w1 (t.iW 0 rfl aV hok)) ?_
 refine XK.go ?_
 refine kd (bR rfl (Rd.hard 0 rfl rfl)) ?_
 refine XK.go ?_
 refine XK.take 0 1 rfl rfl ?_
 dsimp only [List.set]
 refine fE 0 (jF L.T s (iC s x.ck i on).2) (fun w1 F1 t h1 h2 h3 => aHC L.T s x.ck aV.fa hok.ck i on w1 F1 h1 h2) ?_
 dsimp only [List.set]
 refine XK.go ?_
 refine XK.aX 0 1 rfl rfl ?_
 dsimp only [List.set]
 exact XK.aI rfl rfl fun w1 t => ⟨rfl, t.turns hF (by simp) (i := 0) rfl⟩
theorem aAV (hH : s.bO) (aV : fB L s) (hok : bQ s x) (i : Int) (F : Nat → Prop) (hp : (cK L s x).sat F w) (hF : ∀ b, F b → b < w.heap.size) :
  Calls Tryz.prog 24 #[.pointer (some ⟨L.h, 0, none⟩), .int .i64 i] w (fun y w' => y = .returned (.int .i64 (nQ s x.dm i).1) ∧ ∃ F', (cK L s { x with dm := (nQ s x.dm i).2 }).sat F' w' ∧ bI w w' F F') := by
 have qW := hH.t.nd
 refine XK.dD (p := cK L s x) (F := F) (vs := [.pointer (some ⟨L.h, 0, none⟩), .int .i64 i]) Tryz.func24 rfl Tryz.ntmps24 (by simp) hp hF ?_
 refine XK.go ?_
 refine aZ (fun w1 t => uR L s x w1 (t.iW 0 rfl aV hok)) ?_
 refine XK.go ?_
 refine kd (bR rfl (Rd.hard 0 rfl rfl)) ?_
 refine XK.go ?_
 refine XK.take 0 2 rfl rfl ?_
 dsimp only [List.set]
 refine fE 0 (lR L.G s (nQ s x.dm i).2) (fun w1 F1 t h1 h2 h3 => aDV L.G s x.dm hH hok.dm i w1 F1 h1 h2) ?_
 dsimp only [List.set]
 refine XK.go ?_
 refine XK.aX 0 2 rfl rfl ?_
 dsimp only [List.set]
 exact XK.aI rfl rfl fun w1 t => ⟨rfl, t.turns hF (by simp) (i := 0) rfl⟩
theorem aFO (hH : s.bO) (aV : fB L s) (hok : bQ s x) (i : Int) (keep : Bool) (F : Nat → Prop) (hp : (cK L s x).sat F w) (hF : ∀ b, F b → b < w.heap.size) :
  Calls Tryz.prog 221 #[.pointer (some ⟨L.h, 0, none⟩), .int .i64 i, .bool keep] w (fun y w' => y = .returned (.int .i64 (pP s x.dm i keep).1) ∧ ∃ F', (cK L s { x with dm := (pP s x.dm i keep).2 }).sat F' w' ∧ bI w w' F F') := by
 have qW := hH.t.nd
 refine XK.dD (p := cK L s x) (F := F) (vs := [.pointer (some ⟨L.h, 0, none⟩), .int .i64 i, .bool keep]) Tryz.func221 rfl Tryz.ntmps221 (by simp) hp hF ?_
 refine XK.go ?_
 refine aZ (fun w1 t => uR L s x w1 (t.iW 0 rfl aV hok)) ?_
 refine XK.go ?_
 refine kd (bR rfl (Rd.hard 0 rfl rfl)) ?_
 refine XK.go ?_
 refine XK.take 0 2 rfl rfl ?_
 dsimp only [List.set]
 refine fE 0 (lR L.G s (pP s x.dm i keep).2) (fun w1 F1 t h1 h2 h3 => aEa L.G s x.dm hok.dm (by omega) i keep w1 F1 h1 h2) ?_
 dsimp only [List.set]
 refine XK.go ?_
 refine XK.aX 0 2 rfl rfl ?_
 dsimp only [List.set]
 exact XK.aI rfl rfl fun w1 t => ⟨rfl, t.turns hF (by simp) (i := 0) rfl⟩
theorem aFL (hH : s.bO) (aV : fB L s) (hok : bQ s x) (i : Int) (F : Nat → Prop) (hp : (cK L s x).sat F w) (hF : ∀ b, F b → b < w.heap.size) :
  Calls Tryz.prog 223 #[.pointer (some ⟨L.h, 0, none⟩), .int .i64 i] w (fun y w' => y = .returned (.int .i64 (oX x.ln i).1) ∧ ∃ F', (cK L s { x with ln := (oX x.ln i).2 }).sat F' w' ∧ bI w w' F F') := by
 have qW := hH.t.nd
 refine XK.dD (p := cK L s x) (F := F) (vs := [.pointer (some ⟨L.h, 0, none⟩), .int .i64 i]) Tryz.func223 rfl Tryz.ntmps223 (by simp) hp hF ?_
 refine XK.go ?_
 refine aZ (fun w1 t => uR L s x w1 (t.iW 0 rfl aV hok)) ?_
 refine XK.go ?_
 refine kd (bR rfl (Rd.hard 0 rfl rfl)) ?_
 refine XK.go ?_
 refine XK.take 0 3 rfl rfl ?_
 dsimp only [List.set]
 refine fE 0 (iH L.R s (oX x.ln i).2) (fun w1 F1 t h1 h2 h3 => aDz L.R s x.ln hok.ln i w1 F1 h1 h2) ?_
 dsimp only [List.set]
 refine XK.go ?_
 refine XK.aX 0 3 rfl rfl ?_
 dsimp only [List.set]
 exact XK.aI rfl rfl fun w1 t => ⟨rfl, t.turns hF (by simp) (i := 0) rfl⟩
end
section
def yG (dP : Int) (i : Nat) : Bool := decide (Qh (dP.fdiv (2 ^ min i 32)) 1 = 1)
def sP (x : aT) (dP : Int) (n : Nat) : List (bK × cG) := x.dv.mapIdx fun i p => if i < n then (p.1, nR p.2 (decide (0 < iA x.wt i)) (yG dP i)) else p
def yI (k : Int) (d : bB) (f : bK) : bK := if k = 115 then qJ d f else if k = 114 then zA d f else if k = 108 ∨ k = 110 then wR d f else f
def wP (s : aC) (e : Int × Nat) (i : Nat) (p : bK × cG) : bK × cG := match s.aA[i]? with
 | some d => if d.domain = (e.2 : Int) then (yI e.1 d p.1, p.2) else p
 | none => p
def uH (s : aC) (dv : List (bK × cG)) (e : Int × Nat) (n : Nat) : List (bK × cG) := dv.mapIdx fun i p => if i < n then wP s e i p else p
def mV (s : aC) (dv : List (bK × cG)) (e : Int × Nat) : List (bK × cG) := uH s dv e s.aA.length
def gN (s : aC) (x : aT) (dP : Int) : aT := ⟨gP s x.ck, kE x.dm, vT x.ln, (gZ x.dm s.domains.length).foldl (mV s) (sP x dP s.aA.length), x.wt, x.jB⟩
theorem Io {α : Type} (l : List α) (f : Nat → α → α) : (l.mapIdx fun i p => if i < 0 then f i p else p) = l := by
 refine List.ext_getElem? fun i => ?_
 simp
theorem Ip {α : Type} {l : List α} {f : Nat → α → α} {n : Nat} {p : α} (hp : l[n]? = some p) : (l.mapIdx fun i p => if i < n then f i p else p).set n (f n p) = l.mapIdx fun i p => if i < n + 1 then f i p else p := by
 refine List.ext_getElem? fun i => ?_
 have hlt := (List.getElem?_eq_some_iff.1 hp).1
 rw [List.getElem?_set]
 by_cases he : n = i
 ·subst he
  rw [if_pos rfl, if_pos (by simpa using hlt), List.getElem?_mapIdx, hp]
  simp
 ·rw [if_neg he, List.getElem?_mapIdx, List.getElem?_mapIdx]
  cases l[i]? with
  | none => rfl
  | some q =>
   simp only [Option.map_some, Option.some.injEq]
   by_cases h : i < n
   ·rw [if_pos h, if_pos (by omega)]
   ·rw [if_neg h, if_neg (by omega)]
theorem Iq {α : Type} {l : List α} {f : Nat → α → α} {n : Nat} {p : α} (hp : l[n]? = some p) : (l.mapIdx fun i p => if i < n then f i p else p)[n]? = some p := by
 rw [List.getElem?_mapIdx, hp]
 simp
theorem Pt {ds : List bB} {ls : List (FL × Nat)} {xs : List (bK × cG)} {i : Nat} {d : bB} {l : FL × Nat} {p : bK × cG} (hd : ds[i]? = some d) (hl : ls[i]? = some l) (hp : xs[i]? = some p) : (rZ ds ls xs)[i]? = some (Fe d (l, p)) := by
 have hq : (ls.zip xs)[i]? = some (l, p) := List.getElem?_zip_eq_some.2 ⟨hl, hp⟩
 rw [rZ, List.getElem?_zipWith, hd, hq]
theorem aGY {ds : List bB} {ls : List (FL × Nat)} {xs : List (bK × cG)} {i : Nat} {d : bB} {l : FL × Nat} {p : bK × cG} (hd : ds[i]? = some d) (hl : ls[i]? = some l) (hp : xs[i]? = some p) (p' : bK × cG) : (rZ ds ls xs).set i (Fe d (l, p')) = rZ ds ls (xs.set i p') := by
 refine List.ext_getElem? fun j => ?_
 have hlt := (List.getElem?_eq_some_iff.1 (Pt hd hl hp)).1
 rw [List.getElem?_set]
 by_cases he : i = j
 ·subst he
  rw [if_pos rfl, if_pos hlt]
  exact (Pt hd hl (List.getElem?_set_self (List.getElem?_eq_some_iff.1 hp).1)).symm
 ·rw [if_neg he]
  simp only [rZ, List.getElem?_zipWith, List.zip, List.getElem?_set_ne he]
theorem Wf {ds : List bB} {ls : List (FL × Nat)} {i : Nat} {d : bB} {l : FL × Nat} (hd : ds[i]? = some d) (hl : ls[i]? = some l) : (qZ ds ls)[i]? = some (Cu d l) := by
 rw [qZ, List.getElem?_zipWith, hd, hl]
theorem We {ds : List bB} {ls : List (FL × Nat)} : ∀ r ∈ qZ ds ls, r.length = 6 := fun r hr => by
 obtain ⟨i, hi⟩ := List.getElem?_of_mem hr
 rw [qZ, List.getElem?_zipWith] at hi
 split at hi
 ·cases hi; rfl
 ·cases hi
theorem aCS {x : cG} (h : vM x) (a b : Bool) : vM (nR x a b) := by
 unfold nR
 unfold vM at h ⊢
 split
 ·exact h
 ·split
  ·exact ⟨(by show (0 : Int) ≤ 3; omega), (by show (3 : Int) ≤ 3; omega)⟩
  ·split
   ·exact h
   ·exact ⟨(by show (0 : Int) ≤ 2; omega), (by show (2 : Int) ≤ 3; omega)⟩
theorem aDj {r : Rg} {p : Int × Int} (h1 : 0 ≤ p.1 ∧ p.1 < 4294967296) (h2 : 0 ≤ p.2 ∧ p.2 < 4294967296) : 0 ≤ Bf r p ∧ Bf r p < 4294967296 := by
 unfold Bf
 split <;> assumption
theorem aBC {d : bB} {f : bK} (k : Int) (hr : ∀ r ∈ d.aQ, 0 ≤ r.reset ∧ r.reset ≤ 6) (h : wY d f) : wY d (yI k d f) := by
 have hres : ∀ v ∈ d.aQ.map (·.reset), 0 ≤ v ∧ v < 4294967296 := fun v hv => by
  obtain ⟨r, dJ, rfl⟩ := List.mem_map.1 hv
  have := hr r dJ
  omega
 have h1 := h.now
 have h2 := h.saved
 unfold yI
 split
 ·refine ⟨h1, by simp [qJ]; omega, h.u.1, fun v hv => ?_⟩
  obtain ⟨i, hi⟩ := List.getElem?_of_mem hv
  simp only [qJ, List.getElem?_zipWith] at hi
  split at hi
  ·rename_i r p dJ fT
   cases hi
   obtain ⟨hp2, hp3⟩ := List.getElem?_zip_eq_some.1 fT
   exact aDj (h.u.1 _ (List.mem_of_getElem? hp2)) (h.u.2 _ (List.mem_of_getElem? hp3))
  ·cases hi
 ·split
  ·refine ⟨by simp [zA]; omega, h2, fun v hv => ?_, h.u.2⟩
   obtain ⟨i, hi⟩ := List.getElem?_of_mem hv
   simp only [zA, List.getElem?_zipWith] at hi
   split at hi
   ·rename_i r p dJ fT
    cases hi
    unfold Nb
    split
    ·exact h.u.2 _ (List.mem_of_getElem? fT)
    ·have := hr r (List.mem_of_getElem? dJ)
     omega
   ·cases hi
  ·split
   ·exact ⟨by simp [wR], h2, hres, h.u.2⟩
   ·exact h
theorem Ie {s : aC} {x : aT} (hH : s.bO) (hok : bQ s x) {dv : List (bK × cG)} (hl : dv.length = x.dv.length) (h : ∀ (i : Nat) (d : bB) (p : bK × cG), s.aA[i]? = some d → dv[i]? = some p → wY d p.1 ∧ vM p.2) : bQ s { x with dv := dv } := ⟨hok.ck, hok.dm, hok.ln, hl.trans hok.dv, h, hok.wt⟩
theorem Ss {s : aC} {x : aT} (hH : s.bO) (hok : bQ s x) (dP : Int) (n : Nat) : bQ s { x with dv := sP x dP n } := Ie hH hok (by simp [sP]) fun i d p hd hp => by
 rw [sP, List.getElem?_mapIdx] at hp
 cases hq : x.dv[i]? with
 | none => rw [hq] at hp; cases hp
 | some q =>
  rw [hq] at hp
  obtain ⟨h1, h2⟩ := hok.each i d q hd hq
  simp only [Option.map_some, Option.some.injEq] at hp
  subst hp
  split
  ·exact ⟨h1, aCS h2 _ _⟩
  ·exact ⟨h1, h2⟩
theorem aAx {s : aC} {x : aT} (hH : s.bO) (hok : bQ s x) (e : Int × Nat) (n : Nat) : bQ s { x with dv := uH s x.dv e n } := Ie hH hok (by simp [uH]) fun i d p hd hp => by
 rw [uH, List.getElem?_mapIdx] at hp
 cases hq : x.dv[i]? with
 | none => rw [hq] at hp; cases hp
 | some q =>
  rw [hq] at hp
  obtain ⟨h1, h2⟩ := hok.each i d q hd hq
  simp only [Option.map_some, Option.some.injEq] at hp
  subst hp
  split
  ·unfold wP
   rw [hd]
   dsimp only
   split
   ·exact ⟨aBC _ (hH.t.aA i d hd).2.2.2.2.2.2.2.2.2.1 h1, h2⟩
   ·exact ⟨h1, h2⟩
  ·exact ⟨h1, h2⟩
theorem Vt {s : aC} (hH : s.bO) : ∀ (es : List (Int × Nat)) (x : aT), bQ s x → bQ s { x with dv := es.foldl (mV s) x.dv }
 | [], x, h => h
 | e :: es, x, h => Vt hH es { x with dv := mV s x.dv e } (aAx hH h e _)
theorem aEI {s : aC} {dv : List (bK × cG)} {e : Int × Nat} (h : ¬ (e.1 = 115 ∨ e.1 = 114 ∨ e.1 = 108 ∨ e.1 = 110)) : mV s dv e = dv := by
 unfold mV uH
 refine List.ext_getElem? fun i => ?_
 rw [List.getElem?_mapIdx]
 cases dv[i]? with
 | none => rfl
 | some p =>
  simp only [Option.map_some, Option.some.injEq]
  split
  ·unfold wP
   split
   ·split
    ·have : yI e.1 (by assumption) p.1 = p.1 := by
      unfold yI
      rw [if_neg (by omega), if_neg (by omega), if_neg (by omega)]
     rw [this]
    ·rfl
   ·rfl
  ·rfl
theorem aCT {s : aC} {st : List fV} (h : wX s st) : wX s (vT st) := by
 refine ⟨by simp [vT, h.len], fun x hx => ?_⟩
 obtain ⟨y, hy, rfl⟩ := List.mem_map.1 hx
 have := h.left y hy
 unfold gO
 split
 ·exact this
 ·split
  ·dsimp only; omega
  ·split
   ·exact this
   ·exact this
theorem aCR {s : aC} {x : aT} (hH : s.bO) (hok : bQ s x) (dP : Int) : bQ s (gN s x dP) := by
 have h1 := Vt hH (gZ x.dm s.domains.length) _ (Ss hH hok dP s.aA.length)
 exact ⟨Rh hH hok.ck, Rf hok.dm, aCT hok.ln, h1.dv, h1.each, hok.wt⟩
section
variable {N : cN} {w0 w : World} {e : Env} {R : List Piece} {H : List HP} {K : Act → World → Prop} {L : HL} {s : aC} {x : aT}
def aAX (L : HL) (s : aC) (x : aT) : HP := HP.many [HP.aF L.h 134 (Kb L s.aA.length), jF L.T s x.ck, lR L.G s x.dm, iH L.R s x.ln, Ge L.B (iP s) x.wt x.jB, HP.own 141 6 (.slice L.A s.aA.length L.c) s.aA.length (qZ s.aA L.ds).flatten, HP.emp]
def aB4 (L : HL) (s : aC) (x : aT) (i : Nat) : HP := HP.many ((rZ s.aA L.ds x.dv).set i HP.emp)
theorem XK.Ic (j i : Nat) {d : bB} {l : FL × Nat} {p : bK × cG} (hj : H[j]? = some (cK L s x)) (hd : s.aA[i]? = some d) (hl : L.ds[i]? = some l) (hp : x.dv[i]? = some p)
  (k : XK N w0 K e R (HP.many [dM l.1 d p.1, mM l.2 p.2] :: aB4 L s x i :: H.set j (aAX L s x))) : XK N w0 K e R H := by
 refine XK.take j 6 hj rfl ?_
 refine XK.take 0 i rfl (Pt hd hl hp) ?_
 exact k
theorem XK.Ln (j i : Nat) {d : bB} {l : FL × Nat} {p p' : bK × cG} (hj : H[j]? = some (aAX L s x)) (hd : s.aA[i]? = some d) (hl : L.ds[i]? = some l) (hp : x.dv[i]? = some p)
  (k : XK N w0 K e R (H.set j (cK L s { x with dv := x.dv.set i p' }))) : XK N w0 K e R (HP.many [dM l.1 d p'.1, mM l.2 p'.2] :: aB4 L s x i :: H) := by
 have hlt := (List.getElem?_eq_some_iff.1 (Pt hd hl hp)).1
 refine XK.aX 0 i rfl (by rw [List.getElem?_set_self (by simpa using hlt)]) ?_
 dsimp only [List.set]
 refine XK.aX j 6 hj rfl ?_
 rw [List.set_set, show HP.many [dM l.1 d p'.1, mM l.2 p'.2] = Fe d (l, p') from rfl, aGY hd hl hp p']
 exact k
theorem XK.rows (j : Nat) (hj : H[j]? = some (cK L s x)) (aV : fB L s) (hok : bQ s x) (hn : 0 < s.aA.length) (k : ∀ b off, L.A = some ⟨b, off, none⟩ → XK N w0 K e R H) : XK N w0 K e R H := fun a w hr st => by
 obtain ⟨b, off, hA, _⟩ := (st.iW j hj aV hok).rows.2 hn
 exact k b off hA a w hr st
theorem aD.dev (j : Nat) {i b off o : Nat} {d : bB} {l : FL × Nat} (hj : H[j]? = some (cK L s x)) (aV : fB L s) (hok : bQ s x) (hA : L.A = some ⟨b, off, none⟩) (hd : s.aA[i]? = some d) (hl : L.ds[i]? = some l) (ho : o = off + i * 6) : aD w0 R H b o (Cu d l) := .of fun k v hv w st => by
 obtain ⟨b', off', nH, hr⟩ := aH.row (st.iW j hj aV hok).rows (rows := qZ s.aA L.ds) (fun r hr => We r hr) (Wf hd hl) (List.getElem?_eq_some_iff.1 hd).1
 rw [hA] at nH
 cases nH
 subst ho
 exact (hr.2 k v hv)
end
end
section
set_option maxHeartbeats 4000000
set_option maxRecDepth 20000
section
variable {P : Program} {N : cN} {w0 : World} {e : Env} {R : List Piece} {H : List HP} {d : Nat} {ty : TypeId} {pos : String} {aJ : Array Edge}
def aBf (P : Program) (t : TypeId) : Bool := match P.underlying t with
 | some (.func ..) => true
 | _ => false
theorem aDt (w : World) (n : Nat) (t : TypeId) {f1 f2 : Array TypeId} {f3 : Bool} (hu : P.underlying t = some (.func f1 f2 f3)) : (Op.equalIn (n + 1) t .nilFunc .nilFunc).run P w = .ok true w := by simp [Op.equalIn, run_underlying hu]
theorem aDu (w : World) (n : Nat) (t : TypeId) {f1 f2 : Array TypeId} {f3 : Bool} (f : Fn) (fi ca : Array Value) (hu : P.underlying t = some (.func f1 f2 f3)) : (Op.equalIn (n + 1) t (.func f fi ca) .nilFunc).run P w = .ok false w := by simp [Op.equalIn, run_underlying hu]
theorem aBA {x : Operand} {t u : TypeId} {v : Value} {b : Bool} (hx : e.ev x = some v) (hv : (v = .nilFunc ∧ b = true) ∨ (∃ f a c, v = .func f a c) ∧ b = false) (ht : aBf P t = true := by kernel_rfl) : bH P N w0 e R H ⟨some d, .binOp .eql t x (.const .nilFunc) u, ty, pos, aJ, none⟩ (.bool b) := fO fun a w hr => by
 have h2 := hr.ev (show e.ev (.const .nilFunc) = some .nilFunc from rfl)
 unfold aBf at ht
 split at ht
 ·rename_i f1 f2 f3 hu
  rcases hv with ⟨rfl, rfl⟩ | ⟨⟨f, fi, ca, rfl⟩, rfl⟩
  ·have h4 : (Op.equal t .nilFunc .nilFunc).run P w = .ok true w := aDt w 9999 t hu
   simp [execOp, hr.ev hx, h2, eqGuard, binOp, h4]
  ·have h4 : (Op.equal t (.func f fi ca) .nilFunc).run P w = .ok false w := aDu w 9999 t f fi ca hu
   simp [execOp, hr.ev hx, h2, eqGuard, binOp, h4]
 ·cases ht
end
def yH (k : Int) : Value := if k = 115 then .func (.func 169) #[] #[] else if k = 114 then .func (.func 170) #[] #[] else if k = 108 ∨ k = 110 then .func (.func 142) #[] #[] else .nilFunc
theorem aFP (k : Int) (w : World) : Calls Tryz.prog 85 #[.int .u8 k] w (Rt (yH k) w) := by
 refine XK.enter (vs := [.int .u8 k]) Tryz.func85 rfl Tryz.ntmps85 (by simp) ?_
 refine XK.go ?_
 refine XK.if_ rfl (fun h1 => ?_) (fun h1 => ?_)
 ·refine XK.go ?_
  exact XK.bU (by simp) (by rw [yH, if_pos h1])
 refine XK.go ?_
 refine XK.if_ rfl (fun h2 => ?_) (fun h2 => ?_)
 ·refine XK.go ?_
  exact XK.bU (by simp) (by rw [yH, if_neg h1, if_pos h2])
 refine XK.go ?_
 refine XK.if_ rfl (fun h3 => ?_) (fun h3 => ?_)
 ·refine XK.go ?_
  refine XK.if_ rfl (fun _ => ?_) (fun h => absurd h3 h)
  refine XK.go ?_
  exact XK.bU (by simp) (by rw [yH, if_neg h1, if_neg h2, if_pos (.inl h3)])
 ·refine XK.go ?_
  refine XK.if_ rfl (fun h4 => ?_) (fun h4 => ?_)
  ·refine XK.go ?_
   exact XK.bU (by simp) (by rw [yH, if_neg h1, if_neg h2, if_pos (.inr h4)])
  ·refine XK.go ?_
   exact XK.bU (by simp) (by rw [yH, if_neg h1, if_neg h2, if_neg (by omega)])
theorem aHy {k : Int} (hk : k = 115 ∨ k = 114 ∨ k = 108 ∨ k = 110) : ∃ f : FuncId, yH k = .func (.func f) #[] #[] ∧ fK Tryz.prog f = true ∧ ∀ (L : FL) (d : bB) (x : bK) (hrl : d.aQ.length ≤ 100) (hok : wY d x) (w : World) (F : Nat → Prop) (hp : (dM L d x).sat F w) (hF : ∀ b, F b → b < w.heap.size),
  Calls Tryz.prog f #[.pointer (some ⟨L.f, 0, none⟩)] w (fun y w' => y = .returned (.tuple #[]) ∧ ∃ F', (dM L d (yI k d x)).sat F' w' ∧ bI w w' F F') := by
 rcases hk with rfl | rfl | rfl | rfl
 ·exact ⟨_, rfl, (by kernel_rfl), aD9⟩
 ·exact ⟨_, rfl, (by kernel_rfl), aDA⟩
 ·exact ⟨_, rfl, (by kernel_rfl), Nd⟩
 ·exact ⟨_, rfl, (by kernel_rfl), Nd⟩
theorem aIc (L : BL) (ms : List Int) (ws : List (Option pU)) (jB : Int) (i : Nat) (hi : i < ms.length) (h0 : iA ws i = 0) (w : World) (hR : At w L ms ws jB) :
  Calls Tryz.prog 163 #[.pointer (some ⟨L.b, 0, none⟩), .int .i64 (i : Int)] w (Rt (.tuple #[.agg #[.int .i64 0, .bool false, .int .i64 0, .int .u32 0], .bool false]) w) := by
 have k1 := hR.r0.at_ (j := 1) rfl
 obtain ⟨A, c, k2⟩ := hR.wt i hi
 rw [h0] at k2
 have hin : cF ms.length (i : Int) = true := decide_eq_true (by omega)
 refine XK.enter (vs := [.pointer (some ⟨L.b, 0, none⟩), .int .i64 (i : Int)]) Tryz.func163 rfl Tryz.ntmps163 (by simp) ?_
 refine XK.go ?_
 refine bZ (cs := [.int .i64 0, .bool false, .int .i64 0, .int .u32 0]) (aM (by kernel_rfl)) (by decide) fun g1 => ?_
 refine XK.go ?_
 refine aZ (fun w1 t => aBR L ms ws jB i w1 (hR.below (t.below (by simp)))) ?_
 rw [hin]
 refine XK.go ?_
 refine kd (dat i i) ?_
 refine XK.go ?_
 refine dB (zs := [.int .i64 0, .bool false, .int .i64 0, .int .u32 0]) (L := [(0, 1), (1, 1), (2, 1), (3, 1)]) (aM (by kernel_rfl)) (by kernel_rfl) rfl (by simp [aR, aU, Value.cells]; rfl) (by decide) ?_
 refine XK.go ?_
 exact XK.Hw (vs := [.int .i64 0, .bool false, .int .i64 0, .int .u32 0]) rfl (by kernel_rfl) rfl rfl (aD.whole 0 rfl) rfl fun w1 t => ⟨rfl, t.below (by simp)⟩
theorem aFR (L : HL) (s : aC) (x : aT) (i : Nat) (hi : i < s.aA.length) (h0 : iA x.wt i = 0) (w : World) (hR : oL w L s x) :
  Calls Tryz.prog 80 #[.pointer (some ⟨L.h, 0, none⟩), .int .i64 (i : Int)] w (Rt (.tuple #[.agg #[.int .i64 0, .int .i64 0, .bool false, .int .u32 0], .bool false]) w) := by
 have k3 := hR.r0.at_ (j := 3) rfl
 refine XK.enter (vs := [.pointer (some ⟨L.h, 0, none⟩), .int .i64 (i : Int)]) Tryz.func80 rfl Tryz.ntmps80 (by simp) ?_
 refine XK.go ?_
 refine bZ (cs := [.int .i64 0, .int .i64 0, .bool false, .int .u32 0]) (aM (by kernel_rfl)) (by decide) fun g1 => ?_
 refine XK.go ?_
 refine aZ (fun w1 t => aIc L.B (iP s) x.wt x.jB i (by rw [Nu]; exact hi) h0 w1 (hR.Qd.below (t.below (by simp)))) ?_
 refine XK.go ?_
 refine bZ (cs := [.int .i64 0, .bool false, .int .i64 0, .int .u32 0]) (aM (by kernel_rfl)) (by decide) fun g2 => ?_
 refine XK.go ?_
 refine dB (zs := [.int .i64 0, .int .i64 0, .bool false, .int .u32 0]) (L := [(0, 1), (1, 1), (2, 1), (3, 1)]) (aM (by kernel_rfl)) (by kernel_rfl) rfl (by simp [aR, aU, Value.cells]; rfl) (by decide) ?_
 refine XK.go ?_
 exact XK.Hw (vs := [.int .i64 0, .int .i64 0, .bool false, .int .u32 0]) rfl (by kernel_rfl) rfl rfl (aD.whole 1 rfl) rfl fun w1 t => ⟨rfl, t.below (by simp)⟩
end
section
set_option maxHeartbeats 4000000
set_option maxRecDepth 20000
def Ah (s : aC) (x : aT) (i : Nat) : Bool := match s.aA[i]? with
 | some d => kU s x.ck d.clock && (decide (kW x.dm d.domain = 49) && !tB x.ln d.reset)
 | none => false
def uD (x : aT) (i : Nat) : Int := ((x.dv[i]?).map fun p => lF p.2.at_).getD 0
theorem Rd.ofN {w0 : World} {R : List Piece} {H : List HP} {b o : Nat} {vs : List Value} {v : Value} (j : Nat) (h : aD w0 R H b o vs) (hv : vs[j]? = some v) : Rd w0 R H b (o + j) v := fun w st => h w st j v hv
section
variable (L : HL) (s : aC) (x : aT) (w : World)
theorem aAW (hH : s.bO) (i : Int) (hR : oL w L s x) : Calls Tryz.prog 222 #[.pointer (some ⟨L.h, 0, none⟩), .int .i64 i] w (Rt (.bool (kU s x.ck i)) w) := by
 have k0 := hR.r0.at_ (j := 0) rfl
 refine XK.enter (vs := [.pointer (some ⟨L.h, 0, none⟩), .int .i64 i]) Tryz.func222 rfl Tryz.ntmps222 (by simp) ?_
 refine XK.go ?_
 refine aZ (fun w1 t => uR L s x w1 (hR.below (t.below (by simp)))) ?_
 refine XK.go ?_
 refine aZ (fun w1 t => Lp L.T s x.ck hH i w1 (hR.tree.below (t.below (by simp)))) ?_
 refine XK.go ?_
 exact XK.bU (by simp) rfl
theorem Va (hH : s.bO) (aV : fB L s) (hok : bQ s x) (i : Nat) (hi : i < s.aA.length) (hR : oL w L s x) : Calls Tryz.prog 30 #[.pointer (some ⟨L.h, 0, none⟩), .int .i64 (i : Int)] w (Rt (.bool (Ah s x i)) w) := by
 have k0 := hR.r0.at_ (j := 0) rfl
 have k1 := hR.r0.at_ (j := 1) rfl
 have k2 := hR.r0.at_ (j := 2) rfl
 have k4 := hR.r0.at_ (j := 4) rfl
 have hls := aV.ds
 obtain ⟨d, dR⟩ := get_some hi
 obtain ⟨l, gB⟩ := get_some (l := L.ds) (i := i) (by omega)
 obtain ⟨b, off, hA, hr⟩ := aH.row hR.rows (rows := qZ s.aA L.ds) (fun r hr => We r hr) (Wf dR gB) hi
 have hin : cF s.aA.length (i : Int) = true := decide_eq_true (by omega)
 have hal : Ah s x i = (kU s x.ck d.clock && (decide (kW x.dm d.domain = 49) && !tB x.ln d.reset)) := by
  unfold Ah
  rw [dR]
 rw [hal]
 refine XK.enter (vs := [.pointer (some ⟨L.h, 0, none⟩), .int .i64 (i : Int)]) Tryz.func30 rfl Tryz.ntmps30 (by simp) ?_
 refine XK.go ?_
 refine aZ (fun w1 t => Ka L s x w1 i (hR.below (t.below (by simp)))) ?_
 rw [hin]
 refine XK.go ?_
 refine kd (dat i (off + i * 6) (hx := by rw [← hA]; rfl)) ?_
 refine kd (pR (vs := Cu d l) rfl (aD.fD (by simp) hr)) ?_
 refine bZ (cs := [.int .i64 0, .int .i64 0, .int .i64 0, .int .u32 0, .pointer none, .pointer none]) (aM (by kernel_rfl)) (by decide) fun g1 => ?_
 refine XK.go ?_
 refine XK.jD ?_
 refine XQ.go ?_
 refine XQ.call (fun w1 t => Lp L.T s x.ck hH d.clock w1 (hR.tree.below (t.below (by simp)))) ?_
 cases hrun : kU s x.ck d.clock
 ·refine XQ.end_ ?_
  refine XK.go ?_
  exact XK.bU (by simp) rfl
 ·refine XQ.go ?_
  refine XQ.call (fun w1 t => aAg L.G s x.dm hok.dm d.domain w1 (vL.below hR.Vr (t.below (by simp)))) ?_
  refine XQ.go ?_
  refine XQ.split 32 rfl (fun hp => ?_) (fun hp => ?_)
  ·rw [decide_eq_true hp]
   refine XQ.go ?_
   refine XQ.call (fun w1 t => Zw L.R s x.ln d.reset w1 (hR.lines.below (t.below (by simp)))) ?_
   refine XQ.end_ ?_
   refine XK.go ?_
   exact XK.bU (by simp) rfl
  ·rw [decide_eq_false hp]
   refine XQ.end_ ?_
   refine XK.go ?_
   exact XK.bU (by simp) rfl
theorem Pe (aV : fB L s) (hok : bQ s x) (i : Nat) (hi : i < s.aA.length) (eG : Fz w) (hR : oL w L s x) : Calls Tryz.prog 31 #[.pointer (some ⟨L.h, 0, none⟩), .int .i64 (i : Int)] w (Rt (.int .u8 (uD x i)) w) := by
 have k4 := hR.r0.at_ (j := 4) rfl
 have hls := aV.ds
 have jX := hok.dv
 obtain ⟨d, dR⟩ := get_some hi
 obtain ⟨l, gB⟩ := get_some (l := L.ds) (i := i) (by omega)
 obtain ⟨p, fT⟩ := get_some (l := x.dv) (i := i) (by omega)
 obtain ⟨b, off, hA, hr⟩ := aH.row hR.rows (rows := qZ s.aA L.ds) (fun r hr => We r hr) (Wf dR gB) hi
 have k5 := hr.at_ (j := 5) rfl
 have hin : cF s.aA.length (i : Int) = true := decide_eq_true (by omega)
 have hst : uD x i = lF p.2.at_ := by
  unfold uD
  rw [fT]
  rfl
 rw [hst]
 refine XK.enter (vs := [.pointer (some ⟨L.h, 0, none⟩), .int .i64 (i : Int)]) Tryz.func31 rfl Tryz.ntmps31 (by simp) ?_
 refine XK.go ?_
 refine aZ (fun w1 t => Ka L s x w1 i (hR.below (t.below (by simp)))) ?_
 rw [hin]
 refine XK.go ?_
 refine kd (dat i (off + i * 6) (hx := by rw [← hA]; rfl)) ?_
 refine XK.go ?_
 refine aZ (fun w1 t => aDO l.2 p.2 (hok.each i d p dR fT).2 w1 (eG.below (t.below (by simp))) ((hR.below (t.below (by simp))).each i d l p dR gB fT).2) ?_
 refine XK.go ?_
 exact XK.bU (by simp) rfl
def yN (x : aT) (i : Nat) : aT := { x with dv := match x.dv[i]? with | some p => x.dv.set i (p.1, (mJ p.2).2) | none => x.dv }
def sU (x : aT) (i : Nat) : aT := { x with dv := match x.dv[i]? with | some p => x.dv.set i (p.1, (jM p.2).2) | none => x.dv }
theorem aAZ (hH : s.bO) (aV : fB L s) (hok : bQ s x) (i : Nat) (hi : i < s.aA.length) (F : Nat → Prop) (hp : (cK L s x).sat F w) (hF : ∀ b, F b → b < w.heap.size) :
  Calls Tryz.prog 246 #[.pointer (some ⟨L.h, 0, none⟩), .int .i64 (i : Int)] w (fun y w' => ∃ r : Int, y = .returned (.int .i64 r) ∧ True ∧ ∃ F', (cK L s (yN x i)).sat F' w' ∧ bI w w' F F') := by
 have hls := aV.ds
 have jX := hok.dv
 obtain ⟨d, dR⟩ := get_some hi
 obtain ⟨l, gB⟩ := get_some (l := L.ds) (i := i) (by omega)
 obtain ⟨p, fT⟩ := get_some (l := x.dv) (i := i) (by omega)
 have hin : cF s.aA.length (i : Int) = true := decide_eq_true (by omega)
 have hX : yN x i = { x with dv := x.dv.set i (p.1, (mJ p.2).2) } := by
  unfold yN
  rw [fT]
 rw [hX]
 refine XK.dD (p := cK L s x) (F := F) (vs := [.pointer (some ⟨L.h, 0, none⟩), .int .i64 (i : Int)]) Tryz.func246 rfl Tryz.ntmps246 (by simp) hp hF ?_
 refine XK.go ?_
 refine aZ (fun w1 t => Ka L s x w1 i (t.iW 0 rfl aV hok)) ?_
 rw [hin]
 refine XK.go ?_
 refine kd (bR rfl (Rd.hard 0 rfl rfl)) ?_
 refine XK.rows 0 rfl aV hok (by omega) fun b off hA => ?_
 refine XK.go ?_
 refine kd (dat i (off + i * 6) (hx := by rw [← hA]; rfl)) ?_
 refine XK.go ?_
 refine kd (bR rfl (Rd.ofN (vs := Cu d l) 5 (aD.dev 0 rfl aV hok hA dR gB rfl) rfl)) ?_
 refine XK.Ic 0 i rfl dR gB fT ?_
 dsimp only [List.set]
 refine XK.take 0 1 rfl rfl ?_
 dsimp only [List.set]
 refine fE 0 (mM l.2 (mJ p.2).2) (fun w1 F1 t h1 h2 h3 => aDQ h1 h2) ?_
 dsimp only [List.set]
 refine XK.aX 0 1 rfl rfl ?_
 dsimp only [List.set]
 refine XK.Ln 0 i rfl dR gB fT (p' := (p.1, (mJ p.2).2)) ?_
 dsimp only [List.set]
 refine XK.go ?_
 exact XK.aI rfl rfl fun w1 t => ⟨_, rfl, trivial, t.turns hF (by simp) (i := 0) rfl⟩
theorem Uz (hH : s.bO) (aV : fB L s) (hok : bQ s x) (i : Nat) (hi : i < s.aA.length) (F : Nat → Prop) (hp : (cK L s x).sat F w) (hF : ∀ b, F b → b < w.heap.size) :
  Calls Tryz.prog 219 #[.pointer (some ⟨L.h, 0, none⟩), .int .i64 (i : Int)] w (fun y w' => ∃ r : Int, y = .returned (.int .i64 r) ∧ True ∧ ∃ F', (cK L s (sU x i)).sat F' w' ∧ bI w w' F F') := by
 have hls := aV.ds
 have jX := hok.dv
 obtain ⟨d, dR⟩ := get_some hi
 obtain ⟨l, gB⟩ := get_some (l := L.ds) (i := i) (by omega)
 obtain ⟨p, fT⟩ := get_some (l := x.dv) (i := i) (by omega)
 have hin : cF s.aA.length (i : Int) = true := decide_eq_true (by omega)
 have hX : sU x i = { x with dv := x.dv.set i (p.1, (jM p.2).2) } := by
  unfold sU
  rw [fT]
 rw [hX]
 refine XK.dD (p := cK L s x) (F := F) (vs := [.pointer (some ⟨L.h, 0, none⟩), .int .i64 (i : Int)]) Tryz.func219 rfl Tryz.ntmps219 (by simp) hp hF ?_
 refine XK.go ?_
 refine aZ (fun w1 t => Ka L s x w1 i (t.iW 0 rfl aV hok)) ?_
 rw [hin]
 refine XK.go ?_
 refine kd (bR rfl (Rd.hard 0 rfl rfl)) ?_
 refine XK.rows 0 rfl aV hok (by omega) fun b off hA => ?_
 refine XK.go ?_
 refine kd (dat i (off + i * 6) (hx := by rw [← hA]; rfl)) ?_
 refine XK.go ?_
 refine kd (bR rfl (Rd.ofN (vs := Cu d l) 5 (aD.dev 0 rfl aV hok hA dR gB rfl) rfl)) ?_
 refine XK.Ic 0 i rfl dR gB fT ?_
 dsimp only [List.set]
 refine XK.take 0 1 rfl rfl ?_
 dsimp only [List.set]
 refine fE 0 (mM l.2 (jM p.2).2) (fun w1 F1 t h1 h2 h3 => aDP h1 h2) ?_
 dsimp only [List.set]
 refine XK.aX 0 1 rfl rfl ?_
 dsimp only [List.set]
 refine XK.Ln 0 i rfl dR gB fT (p' := (p.1, (jM p.2).2)) ?_
 dsimp only [List.set]
 refine XK.go ?_
 exact XK.aI rfl rfl fun w1 t => ⟨_, rfl, trivial, t.turns hF (by simp) (i := 0) rfl⟩
end
end
section
section
variable {s : aC} {x : aT} {l : Int} {b : Nat} {m a : List Int}
end
theorem Ns {s : aC} {st : List cT} (hH : s.bO) (h : lS s st) (i : Int) (b : Bool) : lS s (iC s st i b).2 := by
 unfold iC
 split
 ·exact h
 ·split
  ·rename_i c x hc hx
   split
   ·exact h
   ·refine ⟨by simp [h.len], fun y hy => ?_⟩
    rcases List.mem_or_eq_of_mem_set hy with hy | rfl
    ·exact h.left y hy
    ·have h1 := (hH.t.aB i.toNat c hc).2
     have h2 := h.left x (List.mem_of_getElem? hx)
     unfold Ea
     dsimp only
     split
     ·omega
     ·exact h2
  ·exact h
theorem Yr {s : aC} {st : List dL} (hH : s.bO) (h : oN s st) (i : Int) : oN s (nQ s st i).2 := by
 unfold nQ
 split
 ·exact h
 ·split
  ·rename_i c x hc hx
   split
   ·exact h
   ·have h1 := (hH.domains i.toNat c hc).2
    refine ⟨by simp [h.len], fun y hy => ?_, fun y hy => ?_⟩
    ·rcases List.mem_or_eq_of_mem_set hy with hy | rfl
     ·exact h.left y hy
     ·exact h1
    ·rcases List.mem_or_eq_of_mem_set hy with hy | rfl
     ·exact h.phase y hy
     ·exact ⟨by show (0 : Int) ≤ 114; omega, by show (114 : Int) < 256; omega⟩
  ·exact h
end
section
set_option maxHeartbeats 4000000
set_option maxRecDepth 20000
def jG (p : Piece) : Prop := ∀ (i : Nat) (v : Int), [(114 : Int), 97, 115, 100][i]? = some v → p.Z 0 ∧ p.w.cell? ⟨0, i, none⟩ = some (.int .u8 v)
theorem jG.at_ {p : Piece} {w : World} (h : jG p) (hl : p.Le (all w)) : Fz w := fun i v hv => by
 obtain ⟨h1, h2⟩ := h i v hv
 obtain ⟨h3, h4⟩ := hl 0 h1
 refine ⟨h3, ?_⟩
 rw [← h2]
 exact World.cell?_of_block h4
theorem jG.le {p q : Piece} (h : jG p) (hl : p.Le q) : jG q := fun i v hv => by
 obtain ⟨h1, h2⟩ := h i v hv
 obtain ⟨h3, h4⟩ := hl 0 h1
 exact ⟨h3, (World.cell?_of_block h4).trans h2⟩
def xJ (s : aC) (d : Int) (k : Nat) (p : bK × cG) : bK × cG := match s.aA[k]? with
 | some dv => if dv.domain = d then (p.1, (jM p.2).2) else p
 | none => p
def nZ (s : aC) (x : aT) (d : Int) (n : Nat) : List (bK × cG) := x.dv.mapIdx fun k p => if k < n then xJ s d k p else p
def xE (s : aC) (x : aT) (d : Int) : aT × Bool :=
 if kW x.dm d = 48 ∨ kW x.dm d = 116 then ({ x with dm := (nQ s x.dm d).2 }, false)
 else if kW x.dm d = 49 then ({ x with dv := nZ s x d s.aA.length }, true) else (x, false)
def Cx (s : aC) (x : aT) (c : Nat) : aT × Bool :=
 ({ x with ck := (iC s x.ck c true).2 }, kU s (iC s x.ck c true).2 c || (decide ((eI s c).length < 2) || !kU s (iC s x.ck c true).2 ((eI s c).getD 1 0 : Nat)))
def zB (x : aT) (i : Int) : aT × Bool := if tB x.ln i then ({ x with ln := (oX x.ln i).2 }, false) else (x, true)
theorem aA8 {x : cG} (h : vM x) : vM (jM x).2 := by
 unfold jM
 split
 ·exact h
 ·exact ⟨by show (0 : Int) ≤ 0; omega, by show (0 : Int) ≤ 3; omega⟩
theorem Td {s : aC} {x : aT} (hH : s.bO) (hok : bQ s x) (d : Int) (n : Nat) : bQ s { x with dv := nZ s x d n } := Ie hH hok (by simp [nZ]) fun i e p hd hp => by
 rw [nZ, List.getElem?_mapIdx] at hp
 cases hq : x.dv[i]? with
 | none => rw [hq] at hp; cases hp
 | some q =>
  rw [hq] at hp
  obtain ⟨h1, h2⟩ := hok.each i e q hd hq
  simp only [Option.map_some, Option.some.injEq] at hp
  subst hp
  split
  ·unfold xJ
   rw [hd]
   dsimp only
   split
   ·exact ⟨h1, aA8 h2⟩
   ·exact ⟨h1, h2⟩
  ·exact ⟨h1, h2⟩
section
variable {N : cN} {w0 w : World} {e : Env} {R : List Piece} {H : List HP} {Q : Exit → Act → World → Prop} {ops : Array Oper} {rest : List Oper} {K : Act → World → Prop}
variable {d : Nat} {ty : TypeId} {pos : String} {aJ : Array Edge} {f h : Nat} {L : eC} {s : aC} {z : bN}
theorem Yh (n : Nat) (Φ : List Value → Prop) {x : Operand} {t : TypeId} {b o : Nat} [hT : kS t n] (hx : e.ev x = some (.pointer (some ⟨b, o, none⟩))) (h : ∀ w, St w0 R H w → ∃ vs, cZ w b o vs ∧ vs.length = n ∧ Φ vs) (k : ∀ vs, Φ vs → XK N w0 (wpList Tryz.prog ops Q rest) ((d, .agg vs.toArray) :: e) R H) (hd : d < N.n := by decide) :
  XK N w0 (wpList Tryz.prog ops Q (⟨some d, .load t x, ty, pos, aJ, none⟩ :: rest)) e R H := qB rfl fun a w hr st => by
 obtain ⟨vs, h1, h2, h3⟩ := h w st
 exact ⟨.agg vs.toArray, w, Wi (N := N) (w0 := w) (R := [all w]) (H := []) (d := d) (ty := ty) (pos := pos) (aJ := aJ) n hT.h hx (aD.fD (by simp) h1) h2 a w hr (St.start w), k vs h3 _ _ (hr.put hd _) st⟩
theorem XK.Zj (j : Nat) (hj : H[j]? = some (eE f h L s z)) (hn : 0 < s.aA.length) (k : ∀ b off, L.a4.1 = some ⟨b, off, none⟩ → XK N w0 K e R H) : XK N w0 K e R H := fun a w hr st => by
 obtain ⟨b, off, r, hA, _⟩ := eO.row (st.qY j hj).so.dev (List.getElem?_eq_getElem hn)
 exact k b off hA a w hr st
def Xr (d : bB) (vs : List Value) : Prop := ∃ A n k A' n' k', vs = [.int .i64 d.clock, .int .i64 d.domain, .int .i64 d.reset, .int .u32 d.eS, .slice A n k, .slice A' n' k']
theorem aBs {i b off : Nat} {d : bB} (kf : rF w f h L s z) (hA : L.a4.1 = some ⟨b, off, none⟩) (hd : s.aA[i]? = some d) : ∃ vs, cZ w b (off + i * 6) vs ∧ vs.length = 6 ∧ Xr d vs := by
 obtain ⟨b', off', r, nH, hl, ⟨A, n, k, A', n', k', he, _⟩, hro⟩ := eO.row kf.so.dev hd
 rw [hA] at nH
 cases nH
 exact ⟨r, hro, hl, A, n, k, A', n', k', he⟩
end
variable (f : Nat) (hL : HL) (s : aC) (z : bN) (x : aT) (w : World)
theorem aG9 (hH : s.bO) (aV : fB hL s) (hok : bQ s x) (d : Int) (F : Nat → Prop) (hp : (bG f hL s z x).sat F w) (hF : ∀ b, F b → b < w.heap.size) (eG : jG ⟨w, fun b => b < w.heap.size ∧ ¬ F b⟩) :
  Calls Tryz.prog 152 #[.pointer (some ⟨f, 0, none⟩), .int .i64 d] w (fun y w' => y = .returned (.bool (xE s x d).2) ∧ ∃ F', (bG f hL s z (xE s x d).1).sat F' w' ∧ bI w w' F F') := by
 have zI := hH.t.nv
 have jX := hok.dv
 refine XK.dD (p := bG f hL s z x) (F := F) (vs := [.pointer (some ⟨f, 0, none⟩), .int .i64 d]) Tryz.func152 rfl Tryz.ntmps152 (by simp) hp hF ?_
 generalize eV : (⟨w, fun b => b < w.heap.size ∧ ¬ F b⟩ : Piece) = R0 at eG ⊢
 refine XK.take 0 0 rfl rfl ?_
 dsimp only [List.set]
 refine XK.lY 0 rfl fun L => ?_
 dsimp only [List.set]
 refine XK.take 1 1 rfl rfl ?_
 dsimp only [List.set]
 refine XK.go ?_
 refine kd (bR rfl (Rd.fN 1 rfl rfl)) ?_
 refine XK.go ?_
 refine aZ (fun w1 t => Uy hL s x w1 hok.dm d (t.iW 0 rfl aV hok)) ?_
 unfold xE
 generalize gJ : kW x.dm d = ph
 by_cases h48 : ph = 48
 ·subst h48
  rw [if_pos (.inl rfl)]
  refine XK.go ?_
  refine kd (bR rfl (Rd.fN 1 rfl rfl)) ?_
  refine XK.go ?_
  refine fE 0 (cK hL s { x with dm := (nQ s x.dm d).2 }) (fun w1 F1 t h1 h2 h3 => aAV hL s x w1 hH aV hok d F1 h1 h2) ?_
  dsimp only [List.set]
  refine XK.go ?_
  refine XK.aX 1 1 rfl rfl ?_
  dsimp only [List.set]
  refine XK.jJ 0 (f := fun L : eC => eE f hL.h L s z) L rfl ?_
  dsimp only [List.set]
  refine XK.aX 0 0 rfl rfl ?_
  dsimp only [List.set]
  subst eV
  exact XK.aI rfl rfl fun w1 t => ⟨rfl, t.turns hF (by simp) (i := 0) rfl⟩
 by_cases Kk : ph = 116
 ·subst Kk
  rw [if_pos (.inr rfl)]
  refine XK.go ?_
  refine kd (bR rfl (Rd.fN 1 rfl rfl)) ?_
  refine XK.go ?_
  refine fE 0 (cK hL s { x with dm := (nQ s x.dm d).2 }) (fun w1 F1 t h1 h2 h3 => aAV hL s x w1 hH aV hok d F1 h1 h2) ?_
  dsimp only [List.set]
  refine XK.go ?_
  refine XK.aX 1 1 rfl rfl ?_
  dsimp only [List.set]
  refine XK.jJ 0 (f := fun L : eC => eE f hL.h L s z) L rfl ?_
  dsimp only [List.set]
  refine XK.aX 0 0 rfl rfl ?_
  dsimp only [List.set]
  subst eV
  exact XK.aI rfl rfl fun w1 t => ⟨rfl, t.turns hF (by simp) (i := 0) rfl⟩
 rw [if_neg (by omega)]
 by_cases qX : ph = 49
 ·subst qX
  rw [if_pos rfl]
  refine XK.go ?_
  refine kd (bR rfl (Rd.fN 1 rfl rfl)) ?_
  refine XK.go ?_
  have hm0 : nZ s x d 0 = x.dv := Io _ _
  refine XK.aK [(31, .int .i64 (0)), (30, .int .i64 s.aA.length), (29, .slice L.a4.1 s.aA.length L.a4.2), (0, .pointer (some ⟨f, 0, none⟩)), (1, .int .i64 d)] ?_
  refine XK.loop (fun m e R H => ∃ i : Nat, i ≤ s.aA.length ∧ m = s.aA.length - i ∧ e = [(31, .int .i64 (i : Int)), (30, .int .i64 s.aA.length), (29, .slice L.a4.1 s.aA.length L.a4.2), (0, .pointer (some ⟨f, 0, none⟩)), (1, .int .i64 d)] ∧ R = [R0] ∧ H = [cK hL s { x with dv := nZ s x d i }, eE f hL.h L s z, HP.many [HP.emp, HP.emp]]) s.aA.length ⟨0, by omega, rfl, rfl, rfl, by rw [hm0]⟩ fun m e R H hI => ?_
  obtain ⟨i, hi, rfl, rfl, rfl, rfl⟩ := hI
  have jN := Td hH hok d i
  refine XK.go ?_
  refine XK.if_ rfl (fun hlt => ?_) (fun hge => ?_)
  ·have hlt : i < s.aA.length := by omega
   obtain ⟨dv, dR⟩ := get_some hlt
   obtain ⟨p, fT⟩ := get_some (l := x.dv) (i := i) (by omega)
   have gX : (nZ s x d i)[i]? = some p := Iq fT
   have hstep : (nZ s x d i).set i (xJ s d i p) = nZ s x d (i + 1) := Ip (f := xJ s d) fT
   obtain ⟨q1, q2⟩ := (jN.each i dv p dR gX).2
   refine XK.Zj 1 rfl (by omega) fun b off hA => ?_
   refine XK.go ?_
   refine kd (dat i (off + i * 6) (hx := by rw [← hA]; rfl)) ?_
   refine Yh 6 (Xr dv) rfl (fun w1 t => aBs (t.qY 1 rfl) hA dR) ?_
   rintro _ ⟨A, n, k, A', n', k', rfl⟩
   refine bZ (cs := [.int .i64 0, .int .i64 0, .int .i64 0, .int .u32 0, .slice none 0 0, .slice none 0 0]) (aM (by kernel_rfl)) (by decide) fun g1 => ?_
   refine XK.go ?_
   refine XK.if_ rfl (fun he => ?_) (fun he => ?_)
   ·have jY : xJ s d i p = p := by
     unfold xJ
     rw [dR]
     exact if_neg he
    rw [jY, sM gX] at hstep
    rw [hstep]
    refine XK.go ?_
    refine XK.weak [1, 2, 3] rfl (by decide) (fun _ h => h) ?_
    refine XK.aK [(31, .int .i64 ((i + 1 : Nat) : Int)), (30, .int .i64 s.aA.length), (29, .slice L.a4.1 s.aA.length L.a4.2), (0, .pointer (some ⟨f, 0, none⟩)), (1, .int .i64 d)] ?_
    exact XK.round (s.aA.length - (i + 1)) (by omega) ⟨i + 1, hlt, rfl, rfl, rfl, rfl⟩
   ·have he : dv.domain = d := by simpa using he
    have jY : xJ s d i p = (p.1, (jM p.2).2) := by
     unfold xJ
     rw [dR]
     exact if_pos he
    have hst : uD { x with dv := nZ s x d i } i = lF p.2.at_ := by
     unfold uD
     dsimp only
     rw [gX]
     rfl
    refine XK.go ?_
    refine kd (bR rfl (Rd.fN 2 rfl rfl)) ?_
    refine XK.go ?_
    refine aZ (fun w1 t => Pe hL s _ w1 aV jN i hlt (eG.at_ (t.le (by simp))) (t.iW 1 rfl aV jN)) ?_
    rw [hst]
    by_cases ha : p.2.at_ = 2 ∨ p.2.at_ = 3
    ·have hlf : lF p.2.at_ = 115 ∨ lF p.2.at_ = 100 := by
      rcases ha with ha | ha <;> rw [ha]
      ·exact .inl rfl
      ·exact .inr rfl
     rcases hlf with hlf | hlf <;> rw [hlf]
     all_goals
      refine XK.go ?_
      refine kd (bR rfl (Rd.fN 2 rfl rfl)) ?_
      refine XK.go ?_
      refine sK (α := Int) 1 (f := 219) (fi := []) (ca := []) (fun r => .int .i64 r) (fun _ => cK hL s (sU { x with dv := nZ s x d i } i)) (fun _ => True) (by kernel_rfl) rfl rfl rfl (by decide) (fun w1 F1 t h1 h2 h3 => Uz hL s _ w1 hH aV jN i hlt F1 h1 h2) ?_
      rintro _ _
      dsimp only [List.set]
      have hX : sU { x with dv := nZ s x d i } i = { x with dv := nZ s x d (i + 1) } := by
       unfold sU
       dsimp only
       rw [gX, ← hstep, jY]
      rw [hX]
      refine XK.go ?_
      refine XK.weak [1, 2, 3] rfl (by decide) (fun _ h => h) ?_
      refine XK.aK [(31, .int .i64 ((i + 1 : Nat) : Int)), (30, .int .i64 s.aA.length), (29, .slice L.a4.1 s.aA.length L.a4.2), (0, .pointer (some ⟨f, 0, none⟩)), (1, .int .i64 d)] ?_
      exact XK.round (s.aA.length - (i + 1)) (by omega) ⟨i + 1, hlt, rfl, rfl, rfl, rfl⟩
    ·have hq : (jM p.2).2 = p.2 := by
      unfold jM
      rw [if_pos (by omega)]
     have hlf : lF p.2.at_ = 114 ∨ lF p.2.at_ = 97 := by
      have : p.2.at_ = 0 ∨ p.2.at_ = 1 := by omega
      rcases this with ha | ha <;> rw [ha]
      ·exact .inl rfl
      ·exact .inr rfl
     rw [jY, hq, sM gX] at hstep
     rcases hlf with hlf | hlf <;> rw [hlf, hstep]
     all_goals
      refine XK.go ?_
      refine XK.weak [1, 2, 3] rfl (by decide) (fun _ h => h) ?_
      refine XK.aK [(31, .int .i64 ((i + 1 : Nat) : Int)), (30, .int .i64 s.aA.length), (29, .slice L.a4.1 s.aA.length L.a4.2), (0, .pointer (some ⟨f, 0, none⟩)), (1, .int .i64 d)] ?_
      exact XK.round (s.aA.length - (i + 1)) (by omega) ⟨i + 1, hlt, rfl, rfl, rfl, rfl⟩
  obtain rfl : i = s.aA.length := by omega
  refine XK.go ?_
  refine XK.aX 1 1 rfl rfl ?_
  dsimp only [List.set]
  refine XK.jJ 0 (f := fun L : eC => eE f hL.h L s z) L rfl ?_
  dsimp only [List.set]
  refine XK.aX 0 0 rfl rfl ?_
  dsimp only [List.set]
  subst eV
  exact XK.aI rfl rfl fun w1 t => ⟨rfl, t.turns hF (by simp) (i := 0) rfl⟩
 ·rw [if_neg qX]
  refine XK.go ?_
  refine XK.if_ rfl (fun h => absurd h h48) (fun _ => ?_)
  refine XK.go ?_
  refine XK.if_ rfl (fun h => absurd h Kk) (fun _ => ?_)
  refine XK.go ?_
  refine XK.if_ rfl (fun h => absurd h qX) (fun _ => ?_)
  refine XK.go ?_
  refine XK.aX 1 1 rfl rfl ?_
  dsimp only [List.set]
  refine XK.jJ 0 (f := fun L : eC => eE f hL.h L s z) L rfl ?_
  dsimp only [List.set]
  refine XK.aX 0 0 rfl rfl ?_
  dsimp only [List.set]
  subst eV
  exact XK.aI rfl rfl fun w1 t => ⟨rfl, t.turns hF (by simp) (i := 0) rfl⟩
theorem aG8 (hH : s.bO) (aV : fB hL s) (hok : bQ s x) (i : Int) (F : Nat → Prop) (hp : (bG f hL s z x).sat F w) (hF : ∀ b, F b → b < w.heap.size) :
  Calls Tryz.prog 156 #[.pointer (some ⟨f, 0, none⟩), .int .i64 i] w (fun y w' => y = .returned (.bool (zB x i).2) ∧ ∃ F', (bG f hL s z (zB x i).1).sat F' w' ∧ bI w w' F F') := by
 refine XK.dD (p := bG f hL s z x) (F := F) (vs := [.pointer (some ⟨f, 0, none⟩), .int .i64 i]) Tryz.func156 rfl Tryz.ntmps156 (by simp) hp hF ?_
 generalize eV : (⟨w, fun b => b < w.heap.size ∧ ¬ F b⟩ : Piece) = R0
 refine XK.take 0 0 rfl rfl ?_
 dsimp only [List.set]
 refine XK.lY 0 rfl fun L => ?_
 dsimp only [List.set]
 refine XK.take 1 1 rfl rfl ?_
 dsimp only [List.set]
 refine XK.go ?_
 refine kd (bR rfl (Rd.fN 1 rfl rfl)) ?_
 refine XK.go ?_
 refine aZ (fun w1 t => aFN hL s x w1 i (t.iW 0 rfl aV hok)) ?_
 unfold zB
 cases hh : tB x.ln i
 ·refine XK.go ?_
  refine XK.aX 1 1 rfl rfl ?_
  dsimp only [List.set]
  refine XK.jJ 0 (f := fun L : eC => eE f hL.h L s z) L rfl ?_
  dsimp only [List.set]
  refine XK.aX 0 0 rfl rfl ?_
  dsimp only [List.set]
  subst eV
  exact XK.aI rfl rfl fun w1 t => ⟨rfl, t.turns hF (by simp) (i := 0) rfl⟩
 ·refine XK.go ?_
  refine kd (bR rfl (Rd.fN 1 rfl rfl)) ?_
  refine XK.go ?_
  refine fE 0 (cK hL s { x with ln := (oX x.ln i).2 }) (fun w1 F1 t h1 h2 h3 => aFL hL s x w1 hH aV hok i F1 h1 h2) ?_
  dsimp only [List.set]
  refine XK.go ?_
  refine XK.aX 1 1 rfl rfl ?_
  dsimp only [List.set]
  refine XK.jJ 0 (f := fun L : eC => eE f hL.h L s z) L rfl ?_
  dsimp only [List.set]
  refine XK.aX 0 0 rfl rfl ?_
  dsimp only [List.set]
  subst eV
  exact XK.aI rfl rfl fun w1 t => ⟨rfl, t.turns hF (by simp) (i := 0) rfl⟩
theorem aGC (hH : s.bO) (aV : fB hL s) (hok : bQ s x) (c : Nat) (hc : c < s.aB.length) (F : Nat → Prop) (hp : (bG f hL s z x).sat F w) (hF : ∀ b, F b → b < w.heap.size) :
  Calls Tryz.prog 154 #[.pointer (some ⟨f, 0, none⟩), .int .i64 (c : Int)] w (fun y w' => y = .returned (.bool (Cx s x c).2) ∧ ∃ F', (bG f hL s z (Cx s x c).1).sat F' w' ∧ bI w w' F F') := by
 refine XK.dD (p := bG f hL s z x) (F := F) (vs := [.pointer (some ⟨f, 0, none⟩), .int .i64 (c : Int)]) Tryz.func154 rfl Tryz.ntmps154 (by simp) hp hF ?_
 generalize eV : (⟨w, fun b => b < w.heap.size ∧ ¬ F b⟩ : Piece) = R0
 refine XK.take 0 0 rfl rfl ?_
 dsimp only [List.set]
 refine XK.lY 0 rfl fun L => ?_
 dsimp only [List.set]
 refine XK.take 1 1 rfl rfl ?_
 dsimp only [List.set]
 refine XK.go ?_
 refine kd (bR rfl (Rd.fN 1 rfl rfl)) ?_
 refine XK.go ?_
 refine fE 0 (cK hL s { x with ck := (iC s x.ck c true).2 }) (fun w1 F1 t h1 h2 h3 => aAY hL s x w1 hH aV hok c true F1 h1 h2) ?_
 dsimp only [List.set]
 have mR : bQ s { x with ck := (iC s x.ck c true).2 } := ⟨Ns hH hok.ck _ _, hok.dm, hok.ln, hok.dv, hok.each, hok.wt⟩
 unfold Cx
 generalize uJ : ({ x with ck := (iC s x.ck c true).2 } : aT) = x2 at mR ⊢
 have pN : (iC s x.ck c true).2 = x2.ck := by rw [← uJ]
 rw [pN]
 refine XK.go ?_
 refine kd (bR rfl (Rd.fN 1 rfl rfl)) ?_
 refine XK.go ?_
 refine aZ (fun w1 t => aAW hL s x2 w1 hH c (t.iW 0 rfl aV mR)) ?_
 cases hr : kU s x2.ck c
 ·refine XK.go ?_
  refine kd (pR rfl (aD.fN 1 rfl (vs := [.slice L.a1.1 s.aB.length L.a1.2, .slice L.a2.1 s.domains.length L.a2.2, .slice L.a3.1 s.aW.length L.a3.2, .slice L.a4.1 s.aA.length L.a4.2]) rfl)) ?_
  refine XK.go ?_
  refine iY [] (f := 89) (fi := []) (ca := []) (by kernel_rfl) rfl rfl (by decide) (by simp) (Dg (eI s c)) (fun w1 t => Pz (all w1) s _ _ _ _ _ L.a1.2 _ L.a2.2 _ L.a3.2 _ L.a4.2 c w1 (t.qY 1 rfl).so hH.t (Piece.Le.refl _) hc) ?_
  rintro _ w1 qm ⟨Ac, cc, rfl, eN⟩ hf _ _
  have eN := eN.le hf
  clear hf
  refine XK.go ?_
  rcases eK : eI s c with _ | ⟨c0, _ | ⟨c1, cr⟩⟩
  ·refine XK.jD ?_
   refine XQ.end_ ?_
   refine XK.go ?_
   refine XK.aX 1 1 rfl rfl ?_
   dsimp only [List.set]
   refine XK.jJ 0 (f := fun L : eC => eE f hL.h L s z) L rfl ?_
   dsimp only [List.set]
   refine XK.aX 0 0 rfl rfl ?_
   dsimp only [List.set]
   subst eV
   exact XK.aI rfl rfl fun w1 t => ⟨rfl, t.turns hF (by simp) (i := 0) rfl⟩
  ·refine XK.jD ?_
   refine XQ.end_ ?_
   refine XK.go ?_
   refine XK.aX 1 1 rfl rfl ?_
   dsimp only [List.set]
   refine XK.jJ 0 (f := fun L : eC => eE f hL.h L s z) L rfl ?_
   dsimp only [List.set]
   refine XK.aX 0 0 rfl rfl ?_
   dsimp only [List.set]
   subst eV
   exact XK.aI rfl rfl fun w1 t => ⟨rfl, t.turns hF (by simp) (i := 0) rfl⟩
  ·rw [eK] at eN
   obtain ⟨b, off, hA, hb, uW⟩ := eN.2 (by simp)
   have r1 : Rd w [qm, R0] [cK hL s x2, eE f hL.h L s z, HP.many [HP.emp, HP.emp]] b (off + 1) (.int .i64 (c1 : Int)) := Rd.ro (p := qm) (by simp) hb (uW 1 _ rfl)
   have hlen : decide ((c0 :: c1 :: cr).length < 2) = false := by simp
   rw [hlen]
   refine XK.jD ?_
   refine XQ.go ?_
   refine XQ.split 27 rfl (fun h => absurd h (by simp; omega)) (fun _ => ?_)
   refine XQ.go ?_
   refine XQ.kd (bR rfl (Rd.fN 1 rfl rfl)) ?_
   refine XQ.go ?_
   refine XQ.kd (dat 1 (off + 1) (hx := by rw [← hA]; rfl) (hlt := by simp)) ?_
   refine XQ.go ?_
   refine XQ.call (fun w1 t => aAW hL s x2 w1 hH c1 (t.iW 0 rfl aV mR)) ?_
   refine XQ.end_ ?_
   refine XK.go ?_
   refine XK.aX 1 1 rfl rfl ?_
   dsimp only [List.set]
   refine XK.jJ 0 (f := fun L : eC => eE f hL.h L s z) L rfl ?_
   dsimp only [List.set]
   refine XK.aX 0 0 rfl rfl ?_
   dsimp only [List.set]
   subst eV
   exact XK.aI rfl rfl fun w1 t => ⟨rfl, t.turns hF (by simp) (i := 0) rfl⟩
 ·refine XK.go ?_
  refine XK.aX 1 1 rfl rfl ?_
  dsimp only [List.set]
  refine XK.jJ 0 (f := fun L : eC => eE f hL.h L s z) L rfl ?_
  dsimp only [List.set]
  refine XK.aX 0 0 rfl rfl ?_
  dsimp only [List.set]
  subst eV
  exact XK.aI rfl rfl fun w1 t => ⟨rfl, t.turns hF (by simp) (i := 0) rfl⟩
end
section
set_option maxHeartbeats 4000000
set_option maxRecDepth 20000
def yF (k : Int) : Value :=
 if k = 117 then .func (.func 152) #[] #[] else if k = 100 ∨ k = 107 then .func (.func 153) #[] #[]
 else if k = 99 then .func (.func 154) #[] #[] else if k = 111 then .func (.func 155) #[] #[]
 else if k = 114 then .func (.func 156) #[] #[] else .func (.func 157) #[] #[]
theorem aB7 (k : Int) (w : World) : Calls Tryz.prog 75 #[.int .u8 k] w (Rt (yF k) w) := by
 refine XK.enter (vs := [.int .u8 k]) Tryz.func75 rfl Tryz.ntmps75 (by simp) ?_
 refine XK.go ?_
 refine XK.if_ rfl (fun h1 => ?_) (fun h1 => ?_)
 ·refine XK.go ?_
  exact XK.bU (by simp) (by rw [yF, if_pos h1])
 refine XK.go ?_
 refine XK.if_ rfl (fun h2 => ?_) (fun h2 => ?_)
 ·refine XK.go ?_
  refine XK.if_ rfl (fun _ => ?_) (fun h => absurd h2 h)
  refine XK.go ?_
  exact XK.bU (by simp) (by rw [yF, if_neg h1, if_pos (.inl h2)])
 refine XK.go ?_
 refine XK.if_ rfl (fun h3 => ?_) (fun h3 => ?_)
 ·refine XK.go ?_
  exact XK.bU (by simp) (by rw [yF, if_neg h1, if_pos (.inr h3)])
 have h23 : ¬ (k = 100 ∨ k = 107) := by omega
 refine XK.go ?_
 refine XK.if_ rfl (fun h4 => ?_) (fun h4 => ?_)
 ·refine XK.go ?_
  exact XK.bU (by simp) (by rw [yF, if_neg h1, if_neg h23, if_pos h4])
 refine XK.go ?_
 refine XK.if_ rfl (fun h5 => ?_) (fun h5 => ?_)
 ·refine XK.go ?_
  exact XK.bU (by simp) (by rw [yF, if_neg h1, if_neg h23, if_neg h4, if_pos h5])
 refine XK.go ?_
 refine XK.if_ rfl (fun h6 => ?_) (fun h6 => ?_)
 ·refine XK.go ?_
  exact XK.bU (by simp) (by rw [yF, if_neg h1, if_neg h23, if_neg h4, if_neg h5, if_pos h6])
 refine XK.go ?_
 exact XK.bU (by simp) (by rw [yF, if_neg h1, if_neg h23, if_neg h4, if_neg h5, if_neg h6])
theorem Tb {P : Program} {fn : Func} {R : Ending → World → Prop} (hr : fn.results = #[]) {t1 t2 : Array Value} : ∀ (ds : List Deferred) (u : FrameMode) (w : World), Leaves P fn t1 R ds u w → Leaves P fn t2 R ds u w
 | [], .returning, w, h => by
  obtain ⟨v, h1, h2⟩ := h
  rw [results_none hr] at h1
  cases h1
  exact ⟨_, results_none hr _ _ _, h2⟩
 | [], .panicking _, _, h => h
 | [], .run, _, h => h
 | d :: ds, u, w, h => by
  obtain ⟨h1, fv, cap, f, args, h2, h3, h4⟩ := h
  refine ⟨h1, fv, cap, f, args, h2, h3, h4.mono fun y u' w' hy => ?_⟩
  cases y with
  | returned v => exact Tb hr ds _ _ hy
  | panicked c => exact Tb hr ds _ _ hy
  | outgrown => exact hy
theorem kM {P : Program} {fn : Func} {R : Ending → World → Prop} {c : List PanicEntry} {a : Act} {d : Option Nat} {v : Value} {w : World} (hr : fn.results = #[]) (h : bodyPostD P fn R (.panic c) (a.put d v) w) : bodyPostD P fn R (.panic c) a w := by
 have hd : (a.put d v).defers = a.defers := by cases d <;> rfl
 have h2 : Leaves P fn (a.put d v).tmps R (a.put d v).defers (.panicking c) w := h
 rw [hd] at h2
 exact Tb hr _ _ _ h2
def Xw (f : Nat) (hL : HL) (s : aC) (z : bN) (x : aT) (r : aT × Bool) : Prop :=
 ∃ fn : FuncId, yF z.kind = .func (.func fn) #[] #[] ∧ fK Tryz.prog fn = true ∧ bQ s r.1 ∧ ∀ (w : World) (F : Nat → Prop), (bG f hL s z x).sat F w → (∀ b, F b → b < w.heap.size) → jG ⟨w, fun b => b < w.heap.size ∧ ¬ F b⟩ →
  Calls Tryz.prog fn #[.pointer (some ⟨f, 0, none⟩), .int .i64 z.id] w (fun y w' => y = .returned (.bool r.2) ∧ ∃ F', (bG f hL s z r.1).sat F' w' ∧ bI w w' F F')
def tE (s : aC) (z : bN) (r : aT × Bool) : bN := if r.2 then gR s r.1 { z with at_ := -1 } z.at_.toNat 0 else z
section
variable (f : Nat) (hL : HL) (s : aC) (z : bN) (x : aT) (w : World)
theorem aG0 (hH : s.bO) (aV : fB hL s) (hok : bQ s x) (hz : vO s z) (a : Nat) (ha : z.at_ = (a : Int)) (uY : a < 2) (r : aT × Bool) (hact : Xw f hL s z x r) (wC : tP (fP z a)) (F : Nat → Prop) (hp : (bG f hL s z x).sat F w) (hF : ∀ b, F b → b < w.heap.size) (eG : jG ⟨w, fun b => b < w.heap.size ∧ ¬ F b⟩) :
  Calls Tryz.prog 20 #[.pointer (some ⟨f, 0, none⟩)] w (fun y w' => y = .returned (.tuple #[]) ∧ ∃ F', (bG f hL s (tE s z r) r.1).sat F' w' ∧ bI w w' F F') := by
 obtain ⟨fn, dN, hcb, Jj, wI⟩ := hact
 refine XK.Vz (vs := [.pointer (some ⟨f, 0, none⟩)]) (p := bG f hL s z x) Tryz.func20 rfl Tryz.ntmps20 (by simp) hp hF ?_
 generalize eV : (⟨w, fun b => b < w.heap.size ∧ ¬ F b⟩ : Piece) = R0 at eG ⊢
 refine XK.go ?_
 refine Qs (f := 73) (fi := []) (ca := []) rfl ?_
 refine XK.go ?_
 refine kd (bR rfl (Rd.xH 0 rfl fun _ => rfl)) ?_
 refine XK.go ?_
 refine bT (t := 8) rfl (fun h => absurd h (by omega)) (fun _ => ?_)
 refine XK.go ?_
 refine XK.eR [1, 2, 3, 4, 8, 9, 10, 11] ?_
 refine XB.mv 0 ?_ (hQ := fun _ _ _ h => kM rfl h)
 refine XB.mv 6 ?_ (hQ := fun _ _ _ h => kM rfl h)
 refine XB.mv 7 ?_ (hQ := fun _ _ _ h => kM rfl h)
 refine XB.q 1 ?_ (hQ := fun _ _ _ h => kM rfl h)
 refine XB.q 2 ?_ (hQ := fun _ _ _ h => kM rfl h)
 refine XB.q 3 ?_ (hQ := fun _ _ _ h => kM rfl h)
 refine XB.q 4 ?_ (hQ := fun _ _ _ h => kM rfl h) (dN := bR rfl (Rd.xH 0 rfl fun _ => rfl))
 refine XB.q 8 ?_ (hQ := fun _ _ _ h => kM rfl h)
 refine XB.q 9 ?_ (hQ := fun _ _ _ h => kM rfl h)
 refine XB.q 10 ?_ (hQ := fun _ _ _ h => kM rfl h)
 refine XB.q 11 ?_ (hQ := fun _ _ _ h => kM rfl h) (dN := bR rfl (Rd.xH 0 rfl fun _ => rfl))
 refine XB.next 5 rfl (by kernel_rfl) ?_
 refine aZ (fun w1 t => aB7 z.kind w1) ?_
 rw [dN]
 refine XB.bk ?_
 refine XB.next 12 rfl (by kernel_rfl) ?_
 refine Ob 0 (fi := []) (ca := []) (bG f hL s z r.1) (fun w1 F1 t h1 h2 h3 => by simpa using wI w1 F1 h1 h2 (jG.le eG (h3 _ (by simp)))) ?_ (hf := hcb)
 dsimp only [List.set]
 refine XB.bt ?_
 refine XB.done (by kernel_rfl) ?_
 refine XK.go ?_
 obtain ⟨x', b⟩ := r
 dsimp only at Jj ⊢
 cases b
 ·refine XK.go ?_
  subst eV
  exact XK.Ir (.inr rfl) (by kernel_rfl) Km rfl fun w1 t => ⟨rfl, t.turns hF (by simp) (i := 0) rfl⟩
 ·refine XK.go ?_
  refine kd (bR rfl (Rd.xH 0 rfl fun _ => rfl)) ?_
  refine XK.go ?_
  refine XK.take 0 0 rfl rfl ?_
  dsimp only [List.set]
  refine XK.lY 0 rfl fun L => ?_
  dsimp only [List.set]
  refine XK.take 0 0 rfl rfl ?_
  dsimp only [List.set]
  refine iE rfl rfl ?_ (hs := iG.mk 0 rfl dS.h rfl (by simp [cD]))
  dsimp only [List.set]
  rw [show (cD hL.h L s z).set (0 + 16) (.int .i64 (-1)) = cD hL.h L s { z with at_ := -1 } from rfl]
  refine XK.aX 0 0 rfl rfl ?_
  dsimp only [List.set]
  refine XK.jJ 0 (f := fun L : eC => eE f hL.h L s { z with at_ := -1 }) L rfl ?_
  dsimp only [List.set]
  refine XK.aX 0 0 rfl rfl ?_
  dsimp only [List.set]
  refine XK.go ?_
  rw [ha]
  refine fE 0 (bG f hL s (gR s x' { z with at_ := -1 } a 0) x') (fun w1 F1 t h1 h2 h3 => Vu f hL s { z with at_ := -1 } x' hH aV Jj a uY 0 (fun _ => wC) w1 F1 h1 h2) ?_
  dsimp only [List.set]
  refine XK.go ?_
  have hend : tE s z (x', true) = gR s x' { z with at_ := -1 } a 0 := by
   unfold tE
   rw [if_pos rfl, ha]
   rfl
  rw [hend]
  subst eV
  exact XK.Ir (.inr rfl) (by kernel_rfl) Km rfl fun w1 t => ⟨rfl, t.turns hF (by simp) (i := 0) rfl⟩
end
end
section
set_option maxHeartbeats 4000000
set_option maxRecDepth 20000
def xL (s : aC) (d : Int) (k : Nat) (p : bK × cG) : bK × cG := match s.aA[k]? with
 | some dv => if dv.domain = d then (p.1, if p.2.at_ = 3 then (jM p.2).2 else if p.2.at_ = 0 then (mJ p.2).2 else p.2) else p
 | none => p
def eZ (s : aC) (x : aT) (d : Int) (n : Nat) : List (bK × cG) := x.dv.mapIdx fun k p => if k < n then xL s d k p else p
def Dv (s : aC) (x : aT) (d : Int) (k : Nat) : Bool := match s.aA[k]?, x.dv[k]? with
 | some dv, some p => !decide (dv.domain = d) || decide (p.2.at_ = 2)
 | _, _ => true
def uL (s : aC) (x : aT) (d : Int) (n : Nat) : Bool := (List.range n).all (Dv s x d)
theorem aFw (s : aC) (x : aT) (d : Int) (n : Nat) : uL s x d (n + 1) = (uL s x d n && Dv s x d n) := by simp [uL, List.range_succ]
theorem aIg {x : cG} (h : vM x) : vM (mJ x).2 := by
 unfold mJ
 split
 ·exact h
 ·exact ⟨by show (0 : Int) ≤ 1; omega, by show (1 : Int) ≤ 3; omega⟩
theorem Om {s : aC} {x : aT} (hH : s.bO) (hok : bQ s x) (d : Int) (n : Nat) : bQ s { x with dv := eZ s x d n } := Ie hH hok (by simp [eZ]) fun i e p hd hp => by
 rw [eZ, List.getElem?_mapIdx] at hp
 cases hq : x.dv[i]? with
 | none => rw [hq] at hp; cases hp
 | some q =>
  rw [hq] at hp
  obtain ⟨h1, h2⟩ := hok.each i e q hd hq
  simp only [Option.map_some, Option.some.injEq] at hp
  subst hp
  split
  ·unfold xL
   rw [hd]
   dsimp only
   split
   ·refine ⟨h1, ?_⟩
    dsimp only
    split
    ·exact aA8 h2
    ·split
     ·exact aIg h2
     ·exact h2
   ·exact ⟨h1, h2⟩
  ·exact ⟨h1, h2⟩
variable (f : Nat) (hL : HL) (s : aC) (z : bN) (x : aT) (w : World)
theorem aGB (hH : s.bO) (aV : fB hL s) (hok : bQ s x) (d : Int) (F : Nat → Prop) (hp : (bG f hL s z x).sat F w) (hF : ∀ b, F b → b < w.heap.size) (eG : jG ⟨w, fun b => b < w.heap.size ∧ ¬ F b⟩) :
  Calls Tryz.prog 220 #[.pointer (some ⟨f, 0, none⟩), .int .i64 d] w (fun y w' => y = .returned (.bool (uL s x d s.aA.length)) ∧ ∃ F', (bG f hL s z { x with dv := eZ s x d s.aA.length }).sat F' w' ∧ bI w w' F F') := by
 have zI := hH.t.nv
 have jX := hok.dv
 refine XK.dD (p := bG f hL s z x) (F := F) (vs := [.pointer (some ⟨f, 0, none⟩), .int .i64 d]) Tryz.func220 rfl Tryz.ntmps220 (by simp) hp hF ?_
 generalize eV : (⟨w, fun b => b < w.heap.size ∧ ¬ F b⟩ : Piece) = R0 at eG ⊢
 refine XK.take 0 0 rfl rfl ?_
 dsimp only [List.set]
 refine XK.lY 0 rfl fun L => ?_
 dsimp only [List.set]
 refine XK.take 1 1 rfl rfl ?_
 dsimp only [List.set]
 refine XK.go ?_
 refine kd (bR rfl (Rd.fN 1 rfl rfl)) ?_
 refine XK.go ?_
 have hm0 : eZ s x d 0 = x.dv := Io _ _
 refine XK.aK [(15, .int .i64 (0)), (14, .int .i64 s.aA.length), (13, .slice L.a4.1 s.aA.length L.a4.2), (5, .bool true), (0, .pointer (some ⟨f, 0, none⟩)), (1, .int .i64 d)] ?_
 refine XK.loop (fun m e R H => ∃ (i : Nat) (b : Bool), i ≤ s.aA.length ∧ m = s.aA.length - i ∧ b = uL s x d i ∧ e = [(15, .int .i64 (i : Int)), (14, .int .i64 s.aA.length), (13, .slice L.a4.1 s.aA.length L.a4.2), (5, .bool b), (0, .pointer (some ⟨f, 0, none⟩)), (1, .int .i64 d)] ∧ R = [R0] ∧ H = [cK hL s { x with dv := eZ s x d i }, eE f hL.h L s z, HP.many [HP.emp, HP.emp]]) s.aA.length ⟨0, true, by omega, rfl, rfl, rfl, rfl, by rw [hm0]⟩ fun m e R H hI => ?_
 obtain ⟨i, b0, hi, rfl, hb0, rfl, rfl, rfl⟩ := hI
 have jN := Om hH hok d i
 refine XK.go ?_
 refine XK.if_ rfl (fun hlt => ?_) (fun hge => ?_)
 ·have hlt : i < s.aA.length := by omega
  obtain ⟨dv, dR⟩ := get_some hlt
  obtain ⟨p, fT⟩ := get_some (l := x.dv) (i := i) (by omega)
  have gX : (eZ s x d i)[i]? = some p := Iq fT
  have hstep : (eZ s x d i).set i (xL s d i p) = eZ s x d (i + 1) := Ip (f := xL s d) fT
  have iF := aFw s x d i
  have Jg : Dv s x d i = (!decide (dv.domain = d) || decide (p.2.at_ = 2)) := by
   unfold Dv
   rw [dR, fT]
  rw [Jg, ← hb0] at iF
  obtain ⟨q1, q2⟩ := (jN.each i dv p dR gX).2
  refine XK.Zj 1 rfl (by omega) fun b off hA => ?_
  refine XK.go ?_
  refine kd (dat i (off + i * 6) (hx := by rw [← hA]; rfl)) ?_
  refine Yh 6 (Xr dv) rfl (fun w1 t => aBs (t.qY 1 rfl) hA dR) ?_
  rintro _ ⟨A, n, k, A', n', k', rfl⟩
  refine bZ (cs := [.int .i64 0, .int .i64 0, .int .i64 0, .int .u32 0, .slice none 0 0, .slice none 0 0]) (aM (by kernel_rfl)) (by decide) fun g1 => ?_
  refine XK.go ?_
  refine XK.if_ rfl (fun he => ?_) (fun he => ?_)
  ·have jY : xL s d i p = p := by
    unfold xL
    rw [dR]
    exact if_neg he
   rw [jY, sM gX] at hstep
   rw [hstep]
   refine XK.go ?_
   refine XK.weak [1, 2, 3] rfl (by decide) (fun _ h => h) ?_
   refine XK.aK [(15, .int .i64 ((i + 1 : Nat) : Int)), (14, .int .i64 s.aA.length), (13, .slice L.a4.1 s.aA.length L.a4.2), (5, .bool b0), (0, .pointer (some ⟨f, 0, none⟩)), (1, .int .i64 d)] ?_
   exact XK.round (s.aA.length - (i + 1)) (by omega) ⟨i + 1, b0, hlt, rfl, by rw [iF, decide_eq_false he]; simp, rfl, rfl, rfl⟩
  ·have he : dv.domain = d := by simpa using he
   rw [decide_eq_true he] at iF
   have hst : uD { x with dv := eZ s x d i } i = lF p.2.at_ := by
    unfold uD
    dsimp only
    rw [gX]
    rfl
   have jY : xL s d i p = (p.1, if p.2.at_ = 3 then (jM p.2).2 else if p.2.at_ = 0 then (mJ p.2).2 else p.2) := by
    unfold xL
    rw [dR]
    exact if_pos he
   refine XK.go ?_
   refine kd (bR rfl (Rd.fN 2 rfl rfl)) ?_
   refine XK.go ?_
   refine aZ (fun w1 t => Pe hL s _ w1 aV jN i hlt (eG.at_ (t.le (by simp))) (t.iW 1 rfl aV jN)) ?_
   rw [hst]
   have Ug : p.2.at_ = 0 ∨ p.2.at_ = 1 ∨ p.2.at_ = 2 ∨ p.2.at_ = 3 := by omega
   rcases Ug with ha | ha | ha | ha <;> rw [ha] at jY iF ⊢ <;> cases b0
   ·rw [show lF 0 = 114 from rfl]
    refine XK.go ?_
    refine kd (bR rfl (Rd.fN 2 rfl rfl)) ?_
    refine XK.go ?_
    refine sK (α := Int) 1 (f := 246) (fi := []) (ca := []) (fun r => .int .i64 r) (fun _ => cK hL s (yN { x with dv := eZ s x d i } i)) (fun _ => True) (by kernel_rfl) rfl rfl rfl (by decide) (fun w1 F1 t h1 h2 h3 => aAZ hL s _ w1 hH aV jN i hlt F1 h1 h2) ?_
    rintro _ _
    dsimp only [List.set]
    have hX : yN { x with dv := eZ s x d i } i = { x with dv := eZ s x d (i + 1) } := by
     unfold yN
     dsimp only
     rw [gX, ← hstep, jY]
     rfl
    rw [hX]
    refine XK.go ?_
    refine XK.weak [1, 2, 3] rfl (by decide) (fun _ h => h) ?_
    refine XK.aK [(15, .int .i64 ((i + 1 : Nat) : Int)), (14, .int .i64 s.aA.length), (13, .slice L.a4.1 s.aA.length L.a4.2), (5, .bool false), (0, .pointer (some ⟨f, 0, none⟩)), (1, .int .i64 d)] ?_
    exact XK.round (s.aA.length - (i + 1)) (by omega) ⟨i + 1, false, hlt, rfl, by rw [iF]; rfl, rfl, rfl, rfl⟩
   ·rw [show lF 0 = 114 from rfl]
    refine XK.go ?_
    refine kd (bR rfl (Rd.fN 2 rfl rfl)) ?_
    refine XK.go ?_
    refine sK (α := Int) 1 (f := 246) (fi := []) (ca := []) (fun r => .int .i64 r) (fun _ => cK hL s (yN { x with dv := eZ s x d i } i)) (fun _ => True) (by kernel_rfl) rfl rfl rfl (by decide) (fun w1 F1 t h1 h2 h3 => aAZ hL s _ w1 hH aV jN i hlt F1 h1 h2) ?_
    rintro _ _
    dsimp only [List.set]
    have hX : yN { x with dv := eZ s x d i } i = { x with dv := eZ s x d (i + 1) } := by
     unfold yN
     dsimp only
     rw [gX, ← hstep, jY]
     rfl
    rw [hX]
    refine XK.go ?_
    refine XK.weak [1, 2, 3] rfl (by decide) (fun _ h => h) ?_
    refine XK.aK [(15, .int .i64 ((i + 1 : Nat) : Int)), (14, .int .i64 s.aA.length), (13, .slice L.a4.1 s.aA.length L.a4.2), (5, .bool false), (0, .pointer (some ⟨f, 0, none⟩)), (1, .int .i64 d)] ?_
    exact XK.round (s.aA.length - (i + 1)) (by omega) ⟨i + 1, false, hlt, rfl, by rw [iF]; rfl, rfl, rfl, rfl⟩
   ·rw [show lF 1 = 97 from rfl]
    rw [jY, show (if (1 : Int) = 3 then (jM p.2).2 else if (1 : Int) = 0 then (mJ p.2).2 else p.2) = p.2 from rfl, sM gX] at hstep
    rw [hstep]
    refine XK.go ?_
    refine XK.weak [1, 2, 3] rfl (by decide) (fun _ h => h) ?_
    refine XK.aK [(15, .int .i64 ((i + 1 : Nat) : Int)), (14, .int .i64 s.aA.length), (13, .slice L.a4.1 s.aA.length L.a4.2), (5, .bool false), (0, .pointer (some ⟨f, 0, none⟩)), (1, .int .i64 d)] ?_
    exact XK.round (s.aA.length - (i + 1)) (by omega) ⟨i + 1, false, hlt, rfl, by rw [iF]; rfl, rfl, rfl, rfl⟩
   ·rw [show lF 1 = 97 from rfl]
    rw [jY, show (if (1 : Int) = 3 then (jM p.2).2 else if (1 : Int) = 0 then (mJ p.2).2 else p.2) = p.2 from rfl, sM gX] at hstep
    rw [hstep]
    refine XK.go ?_
    refine XK.weak [1, 2, 3] rfl (by decide) (fun _ h => h) ?_
    refine XK.aK [(15, .int .i64 ((i + 1 : Nat) : Int)), (14, .int .i64 s.aA.length), (13, .slice L.a4.1 s.aA.length L.a4.2), (5, .bool false), (0, .pointer (some ⟨f, 0, none⟩)), (1, .int .i64 d)] ?_
    exact XK.round (s.aA.length - (i + 1)) (by omega) ⟨i + 1, false, hlt, rfl, by rw [iF]; rfl, rfl, rfl, rfl⟩
   ·rw [show lF 2 = 115 from rfl]
    rw [jY, show (if (2 : Int) = 3 then (jM p.2).2 else if (2 : Int) = 0 then (mJ p.2).2 else p.2) = p.2 from rfl, sM gX] at hstep
    rw [hstep]
    refine XK.go ?_
    refine XK.weak [1, 2, 3] rfl (by decide) (fun _ h => h) ?_
    refine XK.aK [(15, .int .i64 ((i + 1 : Nat) : Int)), (14, .int .i64 s.aA.length), (13, .slice L.a4.1 s.aA.length L.a4.2), (5, .bool false), (0, .pointer (some ⟨f, 0, none⟩)), (1, .int .i64 d)] ?_
    exact XK.round (s.aA.length - (i + 1)) (by omega) ⟨i + 1, false, hlt, rfl, by rw [iF]; rfl, rfl, rfl, rfl⟩
   ·rw [show lF 2 = 115 from rfl]
    rw [jY, show (if (2 : Int) = 3 then (jM p.2).2 else if (2 : Int) = 0 then (mJ p.2).2 else p.2) = p.2 from rfl, sM gX] at hstep
    rw [hstep]
    refine XK.go ?_
    refine XK.weak [1, 2, 3] rfl (by decide) (fun _ h => h) ?_
    refine XK.aK [(15, .int .i64 ((i + 1 : Nat) : Int)), (14, .int .i64 s.aA.length), (13, .slice L.a4.1 s.aA.length L.a4.2), (5, .bool true), (0, .pointer (some ⟨f, 0, none⟩)), (1, .int .i64 d)] ?_
    exact XK.round (s.aA.length - (i + 1)) (by omega) ⟨i + 1, true, hlt, rfl, by rw [iF]; rfl, rfl, rfl, rfl⟩
   ·rw [show lF 3 = 100 from rfl]
    refine XK.go ?_
    refine kd (bR rfl (Rd.fN 2 rfl rfl)) ?_
    refine XK.go ?_
    refine sK (α := Int) 1 (f := 219) (fi := []) (ca := []) (fun r => .int .i64 r) (fun _ => cK hL s (sU { x with dv := eZ s x d i } i)) (fun _ => True) (by kernel_rfl) rfl rfl rfl (by decide) (fun w1 F1 t h1 h2 h3 => Uz hL s _ w1 hH aV jN i hlt F1 h1 h2) ?_
    rintro _ _
    dsimp only [List.set]
    have hX : sU { x with dv := eZ s x d i } i = { x with dv := eZ s x d (i + 1) } := by
     unfold sU
     dsimp only
     rw [gX, ← hstep, jY]
     rfl
    rw [hX]
    refine XK.go ?_
    refine XK.weak [1, 2, 3] rfl (by decide) (fun _ h => h) ?_
    refine XK.aK [(15, .int .i64 ((i + 1 : Nat) : Int)), (14, .int .i64 s.aA.length), (13, .slice L.a4.1 s.aA.length L.a4.2), (5, .bool false), (0, .pointer (some ⟨f, 0, none⟩)), (1, .int .i64 d)] ?_
    exact XK.round (s.aA.length - (i + 1)) (by omega) ⟨i + 1, false, hlt, rfl, by rw [iF]; rfl, rfl, rfl, rfl⟩
   ·rw [show lF 3 = 100 from rfl]
    refine XK.go ?_
    refine kd (bR rfl (Rd.fN 2 rfl rfl)) ?_
    refine XK.go ?_
    refine sK (α := Int) 1 (f := 219) (fi := []) (ca := []) (fun r => .int .i64 r) (fun _ => cK hL s (sU { x with dv := eZ s x d i } i)) (fun _ => True) (by kernel_rfl) rfl rfl rfl (by decide) (fun w1 F1 t h1 h2 h3 => Uz hL s _ w1 hH aV jN i hlt F1 h1 h2) ?_
    rintro _ _
    dsimp only [List.set]
    have hX : sU { x with dv := eZ s x d i } i = { x with dv := eZ s x d (i + 1) } := by
     unfold sU
     dsimp only
     rw [gX, ← hstep, jY]
     rfl
    rw [hX]
    refine XK.go ?_
    refine XK.weak [1, 2, 3] rfl (by decide) (fun _ h => h) ?_
    refine XK.aK [(15, .int .i64 ((i + 1 : Nat) : Int)), (14, .int .i64 s.aA.length), (13, .slice L.a4.1 s.aA.length L.a4.2), (5, .bool false), (0, .pointer (some ⟨f, 0, none⟩)), (1, .int .i64 d)] ?_
    exact XK.round (s.aA.length - (i + 1)) (by omega) ⟨i + 1, false, hlt, rfl, by rw [iF]; rfl, rfl, rfl, rfl⟩
 obtain rfl : i = s.aA.length := by omega
 rw [← hb0]
 refine XK.go ?_
 refine XK.aX 1 1 rfl rfl ?_
 dsimp only [List.set]
 refine XK.jJ 0 (f := fun L : eC => eE f hL.h L s z) L rfl ?_
 dsimp only [List.set]
 refine XK.aX 0 0 rfl rfl ?_
 dsimp only [List.set]
 subst eV
 exact XK.aI rfl rfl fun w1 t => ⟨rfl, t.turns hF (by simp) (i := 0) rfl⟩
theorem aGD (hH : s.bO) (aV : fB hL s) (hok : bQ s x) (c : Int) (F : Nat → Prop) (hp : (bG f hL s z x).sat F w) (hF : ∀ b, F b → b < w.heap.size) :
  Calls Tryz.prog 155 #[.pointer (some ⟨f, 0, none⟩), .int .i64 c] w (fun y w' => y = .returned (.bool true) ∧ ∃ F', (bG f hL s z { x with ck := (iC s x.ck c false).2 }).sat F' w' ∧ bI w w' F F') := by
 refine XK.dD (p := bG f hL s z x) (F := F) (vs := [.pointer (some ⟨f, 0, none⟩), .int .i64 c]) Tryz.func155 rfl Tryz.ntmps155 (by simp) hp hF ?_
 generalize eV : (⟨w, fun b => b < w.heap.size ∧ ¬ F b⟩ : Piece) = R0
 refine XK.take 0 0 rfl rfl ?_
 dsimp only [List.set]
 refine XK.lY 0 rfl fun L => ?_
 dsimp only [List.set]
 refine XK.take 1 1 rfl rfl ?_
 dsimp only [List.set]
 refine XK.go ?_
 refine kd (bR rfl (Rd.fN 1 rfl rfl)) ?_
 refine XK.go ?_
 refine fE 0 (cK hL s { x with ck := (iC s x.ck c false).2 }) (fun w1 F1 t h1 h2 h3 => aAY hL s x w1 hH aV hok c false F1 h1 h2) ?_
 dsimp only [List.set]
 refine XK.go ?_
 refine XK.aX 1 1 rfl rfl ?_
 dsimp only [List.set]
 refine XK.jJ 0 (f := fun L : eC => eE f hL.h L s z) L rfl ?_
 dsimp only [List.set]
 refine XK.aX 0 0 rfl rfl ?_
 dsimp only [List.set]
 subst eV
 exact XK.aI rfl rfl fun w1 t => ⟨rfl, t.turns hF (by simp) (i := 0) rfl⟩
def nC (s : aC) (x : aT) (d : Int) (keep : Bool) : aT × Bool :=
 if kW x.dm d = 49 then (if uL s x d s.aA.length then { x with dv := eZ s x d s.aA.length, dm := (pP s x.dm d keep).2 } else { x with dv := eZ s x d s.aA.length }, false)
 else if kW x.dm d = 48 ∨ kW x.dm d = 116 then (x, true) else (x, false)
theorem aBo (hH : s.bO) (aV : fB hL s) (hok : bQ s x) (d : Int) (F : Nat → Prop) (hp : (bG f hL s z x).sat F w) (hF : ∀ b, F b → b < w.heap.size) (eG : jG ⟨w, fun b => b < w.heap.size ∧ ¬ F b⟩) :
  Calls Tryz.prog 153 #[.pointer (some ⟨f, 0, none⟩), .int .i64 d] w (fun y w' => y = .returned (.bool (nC s x d (decide (z.kind = 107))).2) ∧ ∃ F', (bG f hL s z (nC s x d (decide (z.kind = 107))).1).sat F' w' ∧ bI w w' F F') := by
 refine XK.dD (p := bG f hL s z x) (F := F) (vs := [.pointer (some ⟨f, 0, none⟩), .int .i64 d]) Tryz.func153 rfl Tryz.ntmps153 (by simp) hp hF ?_
 generalize eV : (⟨w, fun b => b < w.heap.size ∧ ¬ F b⟩ : Piece) = R0 at eG ⊢
 refine XK.take 0 0 rfl rfl ?_
 dsimp only [List.set]
 refine XK.lY 0 rfl fun L => ?_
 dsimp only [List.set]
 refine XK.take 1 1 rfl rfl ?_
 dsimp only [List.set]
 refine XK.go ?_
 refine kd (bR rfl (Rd.fN 1 rfl rfl)) ?_
 refine XK.go ?_
 refine aZ (fun w1 t => Uy hL s x w1 hok.dm d (t.iW 0 rfl aV hok)) ?_
 unfold nC
 generalize gJ : kW x.dm d = ph
 by_cases qX : ph = 49
 ·subst qX
  rw [if_pos rfl]
  refine XK.aX 1 1 rfl rfl ?_
  dsimp only [List.set]
  refine XK.jJ 0 (f := fun L : eC => eE f hL.h L s z) L rfl ?_
  dsimp only [List.set]
  refine XK.aX 0 0 rfl rfl ?_
  dsimp only [List.set]
  refine XK.go ?_
  refine fE 0 (bG f hL s z { x with dv := eZ s x d s.aA.length }) (fun w1 F1 t h1 h2 h3 => aGB f hL s z x w1 hH aV hok d F1 h1 h2 (jG.le eG (h3 _ (by simp)))) ?_
  dsimp only [List.set]
  have mR := Om hH hok d s.aA.length
  cases hb : uL s x d s.aA.length
  ·refine XK.go ?_
   subst eV
   exact XK.aI rfl rfl fun w1 t => ⟨rfl, t.turns hF (by simp) (i := 0) rfl⟩
  ·refine XK.go ?_
   refine XK.take 0 0 rfl rfl ?_
   dsimp only [List.set]
   refine XK.lY 0 rfl fun L2 => ?_
   dsimp only [List.set]
   refine XK.take 1 1 rfl rfl ?_
   dsimp only [List.set]
   refine XK.eR [1, 2, 3, 6, 7, 8, 9, 10] ?_
   refine XB.mv 0 ?_
   refine XB.mv 4 ?_
   refine XB.mv 5 ?_
   refine XB.q 1 ?_
   refine XB.q 2 ?_
   refine XB.q 3 ?_ (dN := bR rfl (Rd.fN 1 rfl rfl))
   refine XB.q 6 ?_
   refine XB.q 7 ?_
   refine XB.q 8 ?_
   refine XB.q 9 ?_ (dN := bR rfl (Rd.fN 1 rfl rfl))
   refine XB.q 10 ?_
   refine XB.next 11 rfl (by kernel_rfl) ?_
   refine fE 0 (cK hL s { x with dv := eZ s x d s.aA.length, dm := (pP s x.dm d (decide (z.kind = 107))).2 }) (fun w1 F1 t h1 h2 h3 => aFO hL s _ w1 hH aV mR d _ F1 h1 h2) ?_
   dsimp only [List.set]
   refine XB.bt ?_
   refine XB.done (by kernel_rfl) ?_
   refine XK.go ?_
   refine XK.aX 1 1 rfl rfl ?_
   dsimp only [List.set]
   refine XK.jJ 0 (f := fun L : eC => eE f hL.h L s z) L2 rfl ?_
   dsimp only [List.set]
   refine XK.aX 0 0 rfl rfl ?_
   dsimp only [List.set]
   subst eV
   exact XK.aI rfl rfl fun w1 t => ⟨rfl, t.turns hF (by simp) (i := 0) rfl⟩
 ·rw [if_neg qX]
  by_cases h48 : ph = 48
  ·subst h48
   rw [if_pos (.inl rfl)]
   refine XK.go ?_
   refine XK.aX 1 1 rfl rfl ?_
   dsimp only [List.set]
   refine XK.jJ 0 (f := fun L : eC => eE f hL.h L s z) L rfl ?_
   dsimp only [List.set]
   refine XK.aX 0 0 rfl rfl ?_
   dsimp only [List.set]
   subst eV
   exact XK.aI rfl rfl fun w1 t => ⟨rfl, t.turns hF (by simp) (i := 0) rfl⟩
  by_cases Kk : ph = 116
  ·subst Kk
   rw [if_pos (.inr rfl)]
   refine XK.go ?_
   refine XK.aX 1 1 rfl rfl ?_
   dsimp only [List.set]
   refine XK.jJ 0 (f := fun L : eC => eE f hL.h L s z) L rfl ?_
   dsimp only [List.set]
   refine XK.aX 0 0 rfl rfl ?_
   dsimp only [List.set]
   subst eV
   exact XK.aI rfl rfl fun w1 t => ⟨rfl, t.turns hF (by simp) (i := 0) rfl⟩
  rw [if_neg (by omega)]
  refine XK.go ?_
  refine XK.if_ rfl (fun h => absurd h qX) (fun _ => ?_)
  refine XK.go ?_
  refine XK.if_ rfl (fun h => absurd h h48) (fun _ => ?_)
  refine XK.go ?_
  refine XK.if_ rfl (fun h => absurd h Kk) (fun _ => ?_)
  refine XK.go ?_
  refine XK.aX 1 1 rfl rfl ?_
  dsimp only [List.set]
  refine XK.jJ 0 (f := fun L : eC => eE f hL.h L s z) L rfl ?_
  dsimp only [List.set]
  refine XK.aX 0 0 rfl rfl ?_
  dsimp only [List.set]
  subst eV
  exact XK.aI rfl rfl fun w1 t => ⟨rfl, t.turns hF (by simp) (i := 0) rfl⟩
end
section
set_option maxHeartbeats 4000000
set_option maxRecDepth 20000
def Aa (s : aC) (i : Int) (k : Nat) (p : bK × cG) : bK × cG := match s.aA[k]? with
 | some d => if d.reset = i then (wR d p.1, p.2) else p
 | none => p
def yK (s : aC) (dv : List (bK × cG)) (i : Int) (n : Nat) : List (bK × cG) := dv.mapIdx fun k p => if k < n then Aa s i k p else p
def Cz (s : aC) (x : aT) (i : Int) : aT := if cF x.ln.length i then { x with ln := (nL s x.ln i).2, dv := yK s x.dv i s.aA.length } else x
theorem aBY {s : aC} {st : List fV} (hH : s.bO) (h : wX s st) (i : Int) : wX s (nL s st i).2 := by
 unfold nL
 split
 ·exact h
 ·refine ⟨by simp [h.len], fun y hy => ?_⟩
  rcases List.mem_or_eq_of_mem_set hy with hy | rfl
  ·exact h.left y hy
  ·cases hq : s.aW[i.toNat]? with
   | none => simp
   | some r =>
    have := hH.aW r (List.mem_of_getElem? hq)
    simpa using this
theorem aHG {d : bB} {f : bK} (hr : ∀ r ∈ d.aQ, 0 ≤ r.reset ∧ r.reset ≤ 6) (h : wY d f) : wY d (wR d f) := aBC 108 hr h
theorem aBF {s : aC} {x : aT} (hH : s.bO) (hok : bQ s x) (i : Int) (n : Nat) : bQ s { x with dv := yK s x.dv i n } := Ie hH hok (by simp [yK]) fun k d p hd hp => by
 rw [yK, List.getElem?_mapIdx] at hp
 cases hq : x.dv[k]? with
 | none => rw [hq] at hp; cases hp
 | some q =>
  rw [hq] at hp
  obtain ⟨h1, h2⟩ := hok.each k d q hd hq
  simp only [Option.map_some, Option.some.injEq] at hp
  subst hp
  split
  ·unfold Aa
   rw [hd]
   dsimp only
   split
   ·exact ⟨aHG (hH.t.aA k d hd).2.2.2.2.2.2.2.2.2.1 h1, h2⟩
   ·exact ⟨h1, h2⟩
  ·exact ⟨h1, h2⟩
theorem aIf {s : aC} {x : aT} (hH : s.bO) (hok : bQ s x) (i : Int) : bQ s (Cz s x i) := by
 unfold Cz
 split
 ·have h := aBF hH hok i s.aA.length
  exact ⟨hok.ck, hok.dm, aBY hH hok.ln i, h.dv, h.each, hok.wt⟩
 ·exact hok
section
variable (L : HL) (s : aC) (x : aT) (w : World)
theorem aFQ (hH : s.bO) (aV : fB L s) (hok : bQ s x) (i : Int) (F : Nat → Prop) (hp : (cK L s x).sat F w) (hF : ∀ b, F b → b < w.heap.size) :
  Calls Tryz.prog 224 #[.pointer (some ⟨L.h, 0, none⟩), .int .i64 i] w (fun y w' => y = .returned (.int .i64 (nL s x.ln i).1) ∧ ∃ F', (cK L s (Cz s x i)).sat F' w' ∧ bI w w' F F') := by
 have zI := hH.t.nv
 have hls := aV.ds
 refine XK.dD (p := cK L s x) (F := F) (vs := [.pointer (some ⟨L.h, 0, none⟩), .int .i64 i]) Tryz.func224 rfl Tryz.ntmps224 (by simp) hp hF ?_
 generalize eV : (⟨w, fun b => b < w.heap.size ∧ ¬ F b⟩ : Piece) = R0
 refine XK.go ?_
 refine aZ (fun w1 t => uR L s x w1 (t.iW 0 rfl aV hok)) ?_
 refine XK.go ?_
 refine kd (bR rfl (Rd.hard 0 rfl rfl)) ?_
 refine XK.go ?_
 refine XK.take 0 3 rfl rfl ?_
 dsimp only [List.set]
 refine fE 0 (iH L.R s (nL s x.ln i).2) (fun w1 F1 t h1 h2 h3 => aD1 L.R s x.ln hok.ln i w1 F1 h1 h2) ?_
 dsimp only [List.set]
 refine XK.aX 0 3 rfl rfl ?_
 dsimp only [List.set]
 unfold Cz
 cases hin : cF x.ln.length i
 ·have e : nL s x.ln i = (4, x.ln) := by
   unfold nL
   rw [if_pos hin]
  rw [e]
  refine XK.go ?_
  subst eV
  exact XK.aI rfl rfl fun w1 t => ⟨rfl, t.turns hF (by simp) (i := 0) rfl⟩
 ·have e1 : (nL s x.ln i).1 = 0 := by
   unfold nL
   rw [if_neg (by simp [hin])]
  rw [e1, if_pos rfl]
  have mR : bQ s { x with ln := (nL s x.ln i).2 } := ⟨hok.ck, hok.dm, aBY hH hok.ln i, hok.dv, hok.each, hok.wt⟩
  generalize oF : (nL s x.ln i).2 = ln2 at mR ⊢
  change XK _ _ _ _ _ [cK L s { x with ln := ln2 }]
  have jX := hok.dv
  refine XK.go ?_
  refine kd (bR rfl (Rd.hard 0 rfl rfl)) ?_
  refine XK.go ?_
  have hm0 : yK s x.dv i 0 = x.dv := Io _ _
  refine XK.aK [(25, .int .i64 0), (24, .int .i64 s.aA.length), (23, .slice L.A s.aA.length L.c), (1, .int .i64 i)] ?_
  refine XK.loop (fun m e R H => ∃ k : Nat, k ≤ s.aA.length ∧ m = s.aA.length - k ∧ e = [(25, .int .i64 k), (24, .int .i64 s.aA.length), (23, .slice L.A s.aA.length L.c), (1, .int .i64 i)] ∧ R = [R0] ∧ H = [cK L s { x with ln := ln2, dv := yK s x.dv i k }]) s.aA.length ⟨0, by omega, rfl, rfl, rfl, by rw [hm0]⟩ fun m e R H hI => ?_
  obtain ⟨k, hk, rfl, rfl, rfl, rfl⟩ := hI
  have jN := aBF hH mR i k
  dsimp only at jN
  refine XK.go ?_
  refine XK.if_ rfl (fun hlt => ?_) (fun hge => ?_)
  ·have hlt : k < s.aA.length := by omega
   obtain ⟨d, dR⟩ := get_some hlt
   obtain ⟨l, gB⟩ := get_some (l := L.ds) (i := k) (by omega)
   obtain ⟨p, fT⟩ := get_some (l := x.dv) (i := k) (by omega)
   have gX : (yK s x.dv i k)[k]? = some p := Iq fT
   have hstep : (yK s x.dv i k).set k (Aa s i k p) = yK s x.dv i (k + 1) := Ip (f := Aa s i) fT
   have hfo := (jN.each k d p dR gX).1
   refine XK.rows 0 rfl aV jN (by omega) fun b off hA => ?_
   refine XK.go ?_
   refine kd (dat k (off + k * 6) (hx := by rw [← hA]; rfl)) ?_
   refine kd (pR rfl (aD.dev 0 rfl aV jN hA dR gB rfl)) ?_
   refine bZ (cs := [.int .i64 0, .int .i64 0, .int .i64 0, .int .u32 0, .pointer none, .pointer none]) (aM (by kernel_rfl)) (by decide) fun g2 => ?_
   refine XK.go ?_
   refine XK.if_ rfl (fun he => ?_) (fun he => ?_)
   ·have jY : Aa s i k p = (wR d p.1, p.2) := by
     unfold Aa
     rw [dR]
     exact if_pos he
    refine XK.go ?_
    refine XK.Ic 1 k rfl dR gB gX ?_
    dsimp only [List.set]
    refine XK.take 0 0 rfl rfl ?_
    dsimp only [List.set]
    refine fE 0 (dM l.1 d (wR d p.1)) (fun w1 F1 t h1 h2 h3 => Nd l.1 d p.1 (by have := (hH.t.aA k d dR).2.2.2.2.2.2.2.2.1; omega) hfo w1 F1 h1 h2) ?_
    dsimp only [List.set]
    refine XK.aX 0 0 rfl rfl ?_
    dsimp only [List.set]
    refine XK.Ln 1 k rfl dR gB gX (p' := (wR d p.1, p.2)) ?_
    dsimp only [List.set]
    rw [← jY, hstep]
    refine XK.go ?_
    refine XK.weak [1] rfl (by decide) (fun _ h => h) ?_
    refine XK.aK [(25, .int .i64 (k + 1 : Nat)), (24, .int .i64 s.aA.length), (23, .slice L.A s.aA.length L.c), (1, .int .i64 i)] ?_
    exact XK.round (s.aA.length - (k + 1)) (by omega) ⟨k + 1, hlt, rfl, rfl, rfl, rfl⟩
   ·have jY : Aa s i k p = p := by
     unfold Aa
     rw [dR]
     exact if_neg he
    rw [jY, sM gX] at hstep
    rw [hstep]
    refine XK.go ?_
    refine XK.weak [1] rfl (by decide) (fun _ h => h) ?_
    refine XK.aK [(25, .int .i64 (k + 1 : Nat)), (24, .int .i64 s.aA.length), (23, .slice L.A s.aA.length L.c), (1, .int .i64 i)] ?_
    exact XK.round (s.aA.length - (k + 1)) (by omega) ⟨k + 1, hlt, rfl, rfl, rfl, rfl⟩
  obtain rfl : k = s.aA.length := by omega
  refine XK.go ?_
  subst eV
  exact XK.aI rfl rfl fun w1 t => ⟨rfl, t.turns hF (by simp) (i := 0) rfl⟩
end
theorem aGF (f : Nat) (hL : HL) (s : aC) (z : bN) (x : aT) (w : World) (hH : s.bO) (aV : fB hL s) (hok : bQ s x) (c : Int) (F : Nat → Prop) (hp : (bG f hL s z x).sat F w) (hF : ∀ b, F b → b < w.heap.size) :
  Calls Tryz.prog 157 #[.pointer (some ⟨f, 0, none⟩), .int .i64 c] w (fun y w' => y = .returned (.bool true) ∧ ∃ F', (bG f hL s z (Cz s x c)).sat F' w' ∧ bI w w' F F') := by
 refine XK.dD (p := bG f hL s z x) (F := F) (vs := [.pointer (some ⟨f, 0, none⟩), .int .i64 c]) Tryz.func157 rfl Tryz.ntmps157 (by simp) hp hF ?_
 generalize eV : (⟨w, fun b => b < w.heap.size ∧ ¬ F b⟩ : Piece) = R0
 refine XK.take 0 0 rfl rfl ?_
 dsimp only [List.set]
 refine XK.lY 0 rfl fun L => ?_
 dsimp only [List.set]
 refine XK.take 1 1 rfl rfl ?_
 dsimp only [List.set]
 refine XK.go ?_
 refine kd (bR rfl (Rd.fN 1 rfl rfl)) ?_
 refine XK.go ?_
 refine fE 0 (cK hL s (Cz s x c)) (fun w1 F1 t h1 h2 h3 => aFQ hL s x w1 hH aV hok c F1 h1 h2) ?_
 dsimp only [List.set]
 refine XK.go ?_
 refine XK.aX 1 1 rfl rfl ?_
 dsimp only [List.set]
 refine XK.jJ 0 (f := fun L : eC => eE f hL.h L s z) L rfl ?_
 dsimp only [List.set]
 refine XK.aX 0 0 rfl rfl ?_
 dsimp only [List.set]
 subst eV
 exact XK.aI rfl rfl fun w1 t => ⟨rfl, t.turns hF (by simp) (i := 0) rfl⟩
end
section
set_option maxHeartbeats 4000000
set_option maxRecDepth 20000
def lO (s : aC) (x : aT) (k id : Int) : aT × Bool := if k = 117 then xE s x id else if k = 99 then Cx s x id.toNat else if k = 114 then zB x id else if k = 100 ∨ k = 107 then nC s x id (decide (k = 107)) else if k = 111 then ({ x with ck := (iC s x.ck id false).2 }, true) else if k = 97 then (Cz s x id, true) else (x, false)
structure Df (s : aC) (k id : Int) : Prop where
 kd : k = 117 ∨ k = 99 ∨ k = 114 ∨ k = 100 ∨ k = 107 ∨ k = 111 ∨ k = 97
 c : k = 99 → 0 ≤ id ∧ id < (s.aB.length : Int)
theorem aAa {s : aC} {st : List fV} (h : wX s st) (i : Int) : wX s (oX st i).2 := by
 unfold oX
 split
 ·exact h
 ·split
  ·rename_i x hx
   split
   ·exact h
   ·refine ⟨by simp [h.len], fun y hy => ?_⟩
    rcases List.mem_or_eq_of_mem_set hy with hy | rfl
    ·exact h.left y hy
    ·exact h.left x (List.mem_of_getElem? hx)
  ·exact h
theorem aHc {s : aC} {st : List dL} (h : oN s st) (d : Int) (keep : Bool) : oN s (pP s st d keep).2 := by
 unfold pP
 split
 ·exact h
 ·split
  ·rename_i c y hc hy
   split
   ·exact h
   ·split
    ·exact h
    ·split
     ·exact h
     ·refine ⟨by simp [h.len], fun z hz => ?_, fun z hz => ?_⟩
      ·rcases List.mem_or_eq_of_mem_set hz with hz | rfl
       ·exact h.left z hz
       ·exact h.left y (List.mem_of_getElem? hy)
      ·rcases List.mem_or_eq_of_mem_set hz with hz | rfl
       ·exact h.phase z hz
       ·exact ⟨by show (0 : Int) ≤ 99; omega, by show (99 : Int) < 256; omega⟩
  ·exact h
theorem aDY {s : aC} {x : aT} (hH : s.bO) (hok : bQ s x) (d : Int) (keep : Bool) : bQ s (nC s x d keep).1 := by
 have h1 := Om hH hok d s.aA.length
 unfold nC
 split
 ·dsimp only
  split
  ·exact ⟨hok.ck, aHc hok.dm _ _, hok.ln, h1.dv, h1.each, hok.wt⟩
  ·exact h1
 ·split
  ·exact hok
  ·exact hok
theorem aIm {s : aC} {x : aT} (hH : s.bO) (hok : bQ s x) (k id : Int) : bQ s (lO s x k id).1 := by
 unfold lO
 split
 ·unfold xE
  split
  ·exact ⟨hok.ck, Yr hH hok.dm _, hok.ln, hok.dv, hok.each, hok.wt⟩
  ·split
   ·exact Td hH hok _ _
   ·exact hok
 ·split
  ·exact ⟨Ns hH hok.ck _ _, hok.dm, hok.ln, hok.dv, hok.each, hok.wt⟩
  ·split
   ·unfold zB
    split
    ·exact ⟨hok.ck, hok.dm, aAa hok.ln _, hok.dv, hok.each, hok.wt⟩
    ·exact hok
   ·split
    ·exact aDY hH hok _ _
    ·split
     ·exact ⟨Ns hH hok.ck _ _, hok.dm, hok.ln, hok.dv, hok.each, hok.wt⟩
     ·split
      ·exact aIf hH hok _
      ·exact hok
section
variable (f : Nat) (hL : HL) (s : aC) (z : bN) (x : aT) (w : World)
theorem aCd (hH : s.bO) (aV : fB hL s) (hok : bQ s x) (hk : Df s z.kind z.id) : Xw f hL s z x (lO s x z.kind z.id) := by
 have mR := aIm hH hok z.kind z.id
 rcases hk.kd with h | h | h | h | h | h | h
 ·refine ⟨_, by rw [h]; rfl, (by kernel_rfl), mR, fun w F hp hF eG => ?_⟩
  rw [h]
  exact aG9 f hL s z x w hH aV hok z.id F hp hF eG
 ·refine ⟨_, by rw [h]; rfl, (by kernel_rfl), mR, fun w F hp hF eG => ?_⟩
  obtain ⟨h0, h1⟩ := hk.c h
  obtain ⟨c, hc⟩ : ∃ c : Nat, z.id = c := ⟨z.id.toNat, by omega⟩
  rw [h, hc]
  exact aGC f hL s z x w hH aV hok c (by omega) F hp hF
 ·refine ⟨_, by rw [h]; rfl, (by kernel_rfl), mR, fun w F hp hF eG => ?_⟩
  rw [h]
  exact aG8 f hL s z x w hH aV hok z.id F hp hF
 ·refine ⟨_, by rw [h]; rfl, (by kernel_rfl), mR, fun w F hp hF eG => ?_⟩
  have := aBo f hL s z x w hH aV hok z.id F hp hF eG
  rw [h] at this ⊢
  exact this
 ·refine ⟨_, by rw [h]; rfl, (by kernel_rfl), mR, fun w F hp hF eG => ?_⟩
  have := aBo f hL s z x w hH aV hok z.id F hp hF eG
  rw [h] at this ⊢
  exact this
 ·refine ⟨_, by rw [h]; rfl, (by kernel_rfl), mR, fun w F hp hF eG => ?_⟩
  rw [h]
  exact aGD f hL s z x w hH aV hok z.id F hp hF
 ·refine ⟨_, by rw [h]; rfl, (by kernel_rfl), mR, fun w F hp hF eG => ?_⟩
  rw [h]
  exact aGF f hL s z x w hH aV hok z.id F hp hF
theorem aGy (z0 : bN) (hH : s.bO) (aV : fB hL s) (hok : bQ s x) (hz : vO s z0) (kQ : z0.at_ < 0) (kG : iZ s x z0 = (z, true)) (hst : ∀ a, nY z0 = some a → (iR s x z0 a).2.1 = 0 → (iR s x z0 a).1 = 0 → tP (fP z0 a)) (a : Nat) (ha : z.at_ = (a : Int)) (uY : a < 2) (r : aT × Bool) (hact : Xw f hL s z x r) (wC : tP (fP z a)) (F : Nat → Prop) (hp : (bG f hL s z0 x).sat F w) (hF : ∀ b, F b → b < w.heap.size) (eG : jG ⟨w, fun b => b < w.heap.size ∧ ¬ F b⟩) :
  Calls Tryz.prog 20 #[.pointer (some ⟨f, 0, none⟩)] w (fun y w' => y = .returned (.tuple #[]) ∧ ∃ F', (bG f hL s (tE s z r) r.1).sat F' w' ∧ bI w w' F F') := by
 obtain ⟨fn, dN, hcb, Jj, wI⟩ := hact
 refine XK.Vz (vs := [.pointer (some ⟨f, 0, none⟩)]) (p := bG f hL s z0 x) Tryz.func20 rfl Tryz.ntmps20 (by simp) hp hF ?_
 generalize eV : (⟨w, fun b => b < w.heap.size ∧ ¬ F b⟩ : Piece) = R0 at eG ⊢
 refine XK.go ?_
 refine Qs (f := 73) (fi := []) (ca := []) rfl ?_
 refine XK.go ?_
 refine kd (bR rfl (Rd.xH 0 rfl fun _ => rfl)) ?_
 refine XK.go ?_
 refine bT (t := 8) rfl (fun _ => ?_) (fun h => absurd kQ h)
 refine XK.go ?_
 refine fE 0 (bG f hL s z x) (fun w1 F1 t h1 h2 h3 => by
  have := aBl f hL s z0 x hH aV hok hz hst w1 F1 h1 h2
  rw [kG] at this
  exact this) ?_
 dsimp only [List.set]
 refine XK.go ?_
 refine XK.eR [1, 2, 3, 4, 8, 9, 10, 11] ?_
 refine XB.mv 0 ?_ (hQ := fun _ _ _ h => kM rfl h)
 refine XB.mv 6 ?_ (hQ := fun _ _ _ h => kM rfl h)
 refine XB.mv 7 ?_ (hQ := fun _ _ _ h => kM rfl h)
 refine XB.q 1 ?_ (hQ := fun _ _ _ h => kM rfl h)
 refine XB.q 2 ?_ (hQ := fun _ _ _ h => kM rfl h)
 refine XB.q 3 ?_ (hQ := fun _ _ _ h => kM rfl h)
 refine XB.q 4 ?_ (hQ := fun _ _ _ h => kM rfl h) (dN := bR rfl (Rd.xH 0 rfl fun _ => rfl))
 refine XB.q 8 ?_ (hQ := fun _ _ _ h => kM rfl h)
 refine XB.q 9 ?_ (hQ := fun _ _ _ h => kM rfl h)
 refine XB.q 10 ?_ (hQ := fun _ _ _ h => kM rfl h)
 refine XB.q 11 ?_ (hQ := fun _ _ _ h => kM rfl h) (dN := bR rfl (Rd.xH 0 rfl fun _ => rfl))
 refine XB.next 5 rfl (by kernel_rfl) ?_
 refine aZ (fun w1 t => aB7 z.kind w1) ?_
 rw [dN]
 refine XB.bk ?_
 refine XB.next 12 rfl (by kernel_rfl) ?_
 refine Ob 0 (fi := []) (ca := []) (bG f hL s z r.1) (fun w1 F1 t h1 h2 h3 => by simpa using wI w1 F1 h1 h2 (jG.le eG (h3 _ (by simp)))) ?_ (hf := hcb)
 dsimp only [List.set]
 refine XB.bt ?_
 refine XB.done (by kernel_rfl) ?_
 refine XK.go ?_
 obtain ⟨x', b⟩ := r
 dsimp only at Jj ⊢
 cases b
 ·refine XK.go ?_
  subst eV
  exact XK.Ir (.inr rfl) (by kernel_rfl) Km rfl fun w1 t => ⟨rfl, t.turns hF (by simp) (i := 0) rfl⟩
 ·refine XK.go ?_
  refine kd (bR rfl (Rd.xH 0 rfl fun _ => rfl)) ?_
  refine XK.go ?_
  refine XK.take 0 0 rfl rfl ?_
  dsimp only [List.set]
  refine XK.lY 0 rfl fun L => ?_
  dsimp only [List.set]
  refine XK.take 0 0 rfl rfl ?_
  dsimp only [List.set]
  refine iE rfl rfl ?_ (hs := iG.mk 0 rfl dS.h rfl (by simp [cD]))
  dsimp only [List.set]
  rw [show (cD hL.h L s z).set (0 + 16) (.int .i64 (-1)) = cD hL.h L s { z with at_ := -1 } from rfl]
  refine XK.aX 0 0 rfl rfl ?_
  dsimp only [List.set]
  refine XK.jJ 0 (f := fun L : eC => eE f hL.h L s { z with at_ := -1 }) L rfl ?_
  dsimp only [List.set]
  refine XK.aX 0 0 rfl rfl ?_
  dsimp only [List.set]
  refine XK.go ?_
  rw [ha]
  refine fE 0 (bG f hL s (gR s x' { z with at_ := -1 } a 0) x') (fun w1 F1 t h1 h2 h3 => Vu f hL s { z with at_ := -1 } x' hH aV Jj a uY 0 (fun _ => wC) w1 F1 h1 h2) ?_
  dsimp only [List.set]
  refine XK.go ?_
  have hend : tE s z (x', true) = gR s x' { z with at_ := -1 } a 0 := by
   unfold tE
   rw [if_pos rfl, ha]
   rfl
  rw [hend]
  subst eV
  exact XK.Ir (.inr rfl) (by kernel_rfl) Km rfl fun w1 t => ⟨rfl, t.turns hF (by simp) (i := 0) rfl⟩
def lV (s : aC) (x : aT) (z : bN) : bN × aT :=
 let t := iZ s x z
 let z1 := if z.at_ < 0 then t.1 else z
 if z.at_ < 0 ∧ t.2 = false then (t.1, x) else (tE s z1 (lO s x z1.kind z1.id), (lO s x z1.kind z1.id).1)
structure Xg (s : aC) (x : aT) (z : bN) : Prop where
 hok : bQ s x
 fm : vO s z
 at_ : z.at_ < 0 ∨ (∃ a : Nat, z.at_ = (a : Int) ∧ a < 2 ∧ Df s z.kind z.id ∧ tP (fP z a))
 ask : z.at_ < 0 → ∀ a, nY z = some a → (iR s x z a).2.1 = 0 → (iR s x z a).1 = 0 → tP (fP z a)
 new : z.at_ < 0 → ∀ a, nY z = some a → (iR s x z a).2.1 ≠ 0 → Df s (iR s x z a).2.1 (iR s x z a).2.2 ∧ tP (fP z a)
theorem aE7 {z : bN} {a : Nat} (h : z.last = 0 ∨ z.last = 1) (hn : nY z = some a) : a < 2 := by
 unfold nY at hn
 split at hn
 ·cases hn; omega
 ·split at hn
  ·cases hn; omega
  ·cases hn
theorem aGz (hH : s.bO) (aV : fB hL s) (h : Xg s x z) (F : Nat → Prop) (hp : (bG f hL s z x).sat F w) (hF : ∀ b, F b → b < w.heap.size) (eG : jG ⟨w, fun b => b < w.heap.size ∧ ¬ F b⟩) :
  Calls Tryz.prog 20 #[.pointer (some ⟨f, 0, none⟩)] w (fun y w' => y = .returned (.tuple #[]) ∧ ∃ F', (bG f hL s (lV s x z).1 (lV s x z).2).sat F' w' ∧ bI w w' F F') := by
 unfold lV
 dsimp only
 by_cases kQ : z.at_ < 0
 ·cases kG : (iZ s x z).2
  ·rw [if_pos ⟨kQ, rfl⟩]
   exact aBm f hL s z x hH aV h.hok h.fm (h.ask kQ) kQ kG w F hp hF
  ·rw [if_neg (by simp), if_pos kQ]
   have lH : iZ s x z = ((iZ s x z).1, true) := Prod.ext rfl kG
   have Cg : ∃ a, nY z = some a ∧ (iR s x z a).2.1 ≠ 0 ∧ (iZ s x z).1 = (uC s x z a).1 := by
    unfold iZ at kG ⊢
    cases hn : nY z with
    | none => rw [hn] at kG; cases kG
    | some a =>
     rw [hn] at kG
     refine ⟨a, rfl, fun h0 => ?_, rfl⟩
     unfold uC at kG
     dsimp only at kG
     rw [if_pos h0] at kG
     cases kG
   obtain ⟨a, hn, hd, he⟩ := Cg
   have ha := aE7 h.fm.la hn
   obtain ⟨hk, wC⟩ := h.new kQ a hn hd
   have e : (uC s x z a).1 = { z with last := a, x := cE z.x a (iR s x z a).2.1 (iR s x z a).2.2, y := cS z.y a (iR s x z a).2.1 (iR s x z a).2.2, at_ := a, kind := (iR s x z a).2.1, id := (iR s x z a).2.2 } := by
    unfold uC
    dsimp only
    rw [if_neg hd]
   rw [e] at he
   have hb : fP (iZ s x z).1 a = fP z a := by rw [he]; rfl
   have h1 : (iZ s x z).1.at_ = (a : Int) := by rw [he]
   have h2 : (iZ s x z).1.kind = (iR s x z a).2.1 := by rw [he]
   have h3 : (iZ s x z).1.id = (iR s x z a).2.2 := by rw [he]
   exact aGy f hL s (iZ s x z).1 x w z hH aV h.hok h.fm kQ lH (h.ask kQ) a h1 ha _ (aCd f hL s (iZ s x z).1 x hH aV h.hok (by rw [h2, h3]; exact hk)) (by rw [hb]; exact wC) F hp hF eG
 ·rw [if_neg (fun hh => kQ hh.1), if_neg kQ]
  rcases h.at_ with h1 | ⟨a, ha, uY, hk, wC⟩
  ·exact absurd h1 kQ
  ·exact aG0 f hL s z x w hH aV h.hok h.fm a ha uY _ (aCd f hL s z x hH aV h.hok hk) wC F hp hF eG
end
end
end Go.Proofs.YticjkhagldkejaaGreatDoor
