/- chip: a description that is right, of any raw numbers. No condition of ours. -/
import Derived.KernelRfl
import Derived.Test.YtbgibbbggajgaaaProg
import Derived.Test.YtbgibbbggajgaaaPlanGoesK3
namespace Go.Proofs.Ytbgibbbggajgaaa
set_option linter.all false
open Go.RowKit

theorem pick17_any (c n : Int) (w : World) (hc : -9223372036854775808 ≤ c ∧ c ≤ 9223372036854775807) (hn : 0 < n) :
    Calls Try.prog 42 #[.int .i64 c, .int .i64 n] w fun x w' => (∃ v, x = .returned v ∧ ∃ r : Int, v = .int .i64 r ∧ 0 ≤ r ∧ r < n) ∧ Below w.heap.size w w' := by
  refine XK.enter (vs := [.int .i64 c, .int .i64 n]) Try.func42 rfl Try.ntmps42 (by simp) ?_
  refine XK.seq ?_
  refine XK.region ?_
  refine xk_assign rfl (by decide) ?_
  refine XK.nilN ?_
  refine XK.cut (fun e R H => ∃ c : Int, 0 ≤ c ∧ e = [(0, .int .i64 c), (1, .int .i64 n)] ∧ R = [all w] ∧ H = []) ?_ ?_
  · refine XK.seq ?_
    refine XK.region ?_
    refine xk_move rfl (by decide) ?_
    refine xk_lss rfl rfl (by decide) ?_
    refine XK.nilN ?_
    refine XK.if_ rfl (fun h => ?_) (fun h => ?_)
    · refine XK.region ?_
      refine xk_move rfl (by decide) ?_
      refine xk_add rfl rfl (wrap_in (by omega)) (by decide) ?_
      refine xk_neg rfl (wrap_in (by omega)) (by decide) ?_
      refine xk_assign rfl (by decide) ?_
      refine XK.nilN ?_
      exact XK.envS [(0, .int .i64 (0 - (c + 1))), (1, .int .i64 n)] (XK.meet ⟨_, by omega, rfl, rfl, rfl⟩)
    · refine XK.skip ?_
      refine XK.norm ?_
      exact XK.envS [(0, .int .i64 c), (1, .int .i64 n)] (XK.meet ⟨_, by omega, rfl, rfl, rfl⟩)
  rintro _ _ _ ⟨c, hc0, rfl, rfl, rfl⟩
  refine XK.seq ?_
  refine XK.region ?_
  refine xk_move rfl (by decide) ?_
  refine xk_move rfl (by decide) ?_
  refine xk_rem rfl rfl (by omega) (rem_in (by omega)) (by decide) ?_
  refine xk_assign rfl (by decide) ?_
  refine XK.nilN ?_
  refine XK.ret ?_
  refine XK.norm ?_
  exact XK.ret1 rfl rfl fun w' st => ⟨⟨_, rfl, _, rfl, Int.emod_nonneg _ (by omega), Int.emod_lt_of_pos _ hn⟩, st.below (by simp)⟩

set_option maxRecDepth 100000 in
set_option maxHeartbeats 4000000 in
theorem chip17_any (A : Option Addr) (n c : Nat) (zs : List Int) (w : World) (h0 : SlS (all w) 1 A n (intCells zs)) (hz : I64s zs) (hn : n = zs.length) (hn2 : n ≤ 9223372036854775807) :
    Calls Try.prog 18 #[.slice A n c] w fun x w' => (∃ v, x = .returned v ∧ ∃ cs s, v = .agg cs ∧ SocR (slq (fresh w w')) s cs ∧ s.made) ∧ Below w.heap.size w w' := by
  refine XK.enter (vs := [.slice A n c]) Try.func18 rfl Try.ntmps18 (by simp) ?_
  refine XK.seq ?_

  refine XK.region ?_
  refine xk_alloc (cs := [.slice none 0 0, .slice none 0 0, .slice none 0 0, .slice none 0 0]) (zeroB_of (by kernel_rfl)) (by decide) fun g1 => ?_
  refine XK.nilN ?_
  refine XK.seq ?_

  refine XK.region ?_
  refine xk_assign rfl (by decide) ?_
  refine XK.nilN ?_
  refine XK.seq ?_

  refine XK.region ?_
  refine xk_makeT 8 (n := 120) (el := 3) (z := .int .i64 0) (by kernel_rfl) (by kernel_rfl) rfl rfl rfl (by omega) (by omega) (by decide) fun g2 => ?_
  refine xk_assign rfl (by decide) ?_
  refine XK.nilN ?_
  refine XK.cut (fun e R H => ∃ ds, Draw ds ∧ e = [(4, .slice (some ⟨g2, 0, none⟩) 120 120), (2, .pointer (some ⟨g1, 0, none⟩))] ∧ R = [all w] ∧ H = [HP.blk g2 3 (intCells ds), HP.blk g1 50 [.slice none 0 0, .slice none 0 0, .slice none 0 0, .slice none 0 0]]) ?_ ?_
  ·
    refine XK.seq ?_

    refine XK.region ?_
    refine xk_assign rfl (by decide) ?_
    refine XK.nilN ?_
    refine XK.envS [(5, .int .i64 0), (4, .slice (some ⟨g2, 0, none⟩) 120 120), (2, .pointer (some ⟨g1, 0, none⟩)), (0, .slice A n c)] ?_
    refine XK.block ?_
    refine XK.loop (fun m e R H => ∃ (k : Nat) (ds : List Int), Draw ds ∧ k ≤ 120 ∧ m = 120 - k ∧ e = [(5, .int .i64 k), (4, .slice (some ⟨g2, 0, none⟩) 120 120), (2, .pointer (some ⟨g1, 0, none⟩)), (0, .slice A n c)] ∧ R = [all w] ∧ H = [HP.blk g2 3 (intCells ds), HP.blk g1 50 [.slice none 0 0, .slice none 0 0, .slice none 0 0, .slice none 0 0]]) 120 ⟨0, List.replicate 120 0, Draw.zero, by omega, rfl, rfl, rfl, by simp [intCells]⟩ fun m e R H hI => ?_
    obtain ⟨k, ds, hd, hk, rfl, rfl, rfl, rfl⟩ := hI
    refine XK.seq ?_
    refine XK.seq ?_

    refine XK.region ?_
    refine xk_move rfl (by decide) ?_
    refine xk_move rfl (by decide) ?_
    refine xk_len (el := 3) (by kernel_rfl) rfl (by decide) ?_
    refine xk_lss rfl rfl (by decide) ?_
    refine xk_move rfl (by decide) ?_
    refine xk_split (t := 23) rfl (fun hg => ?_) (fun hg => ?_)
    ·
      refine xk_guardT rfl rfl ?_; refine xk_move rfl (by decide) ?_
      refine xk_guardT rfl rfl ?_; refine xk_len (el := 3) (by kernel_rfl) rfl (by decide) ?_
      refine xk_guardT rfl rfl ?_; refine xk_gtr rfl rfl (by decide) ?_
      (first | refine xk_pickT rfl rfl (by decide) ?_ | refine xk_pickF rfl rfl (by decide) ?_)
      refine XK.nilN ?_
      refine XK.if_ rfl (fun h => ?_) (fun h => ?_)
      ·
        refine XK.skip ?_
        refine XK.norm ?_
        refine XK.seq ?_
        refine XK.block ?_
        have hk2 : k < 120 := by omega
        have hn0 : 0 < n := by omega
        obtain ⟨b, off, rfl, hzb, hc⟩ := h0.2 hn0
        have hkn : ((k % n : Nat) : Int) = (k : Int) % (n : Int) := Int.natCast_emod k n
        have hkl : k % n < n := Nat.mod_lt _ hn0
        have hdv : ((k / n : Nat) : Int) = (k : Int) / (n : Int) := Int.natCast_ediv k n
        have hdl : k / n ≤ k := Nat.div_le_self _ _
        have hdb : 0 ≤ (k : Int) / (n : Int) ∧ (k : Int) / (n : Int) ≤ k := ⟨Int.ediv_nonneg (by omega) (by omega), by have h2 : ((k / n : Nat) : Int) ≤ (k : Int) := Int.ofNat_le.2 hdl; rwa [hdv] at h2⟩
        have hrd : ∀ H, Rd w [all w] H b (off + k % n) (.int .i64 (zs[k % n]?.getD 0)) := fun H => Rd.ro (p := all w) (by simp) hzb (by exact hc _ _ (intCells_get zs _ (by omega)))
        have hzz := hz (k % n)
        have hyb := tdiv_bd (z := zs[k % n]?.getD 0) (d := 1 + (k : Int) / (n : Int)) (lo := -9223372036854775808) (hi := 9223372036854775807) (by omega) (by omega) (by omega) hzz

        refine XK.draw 16 (by kernel_rfl) (by kernel_rfl) ?_
        refine XA.dA 0 rfl rfl rfl (does_move rfl) ?_
        refine XA.dA 1 rfl rfl rfl (does_move rfl) ?_
        refine XA.dA 2 rfl rfl rfl (does_move rfl) ?_
        refine XA.dA 3 rfl rfl rfl (does_move rfl) ?_
        refine XA.dA 4 rfl rfl rfl (does_move rfl) ?_
        refine XA.dA 5 rfl rfl rfl (does_len (el := 3) (by kernel_rfl) rfl) ?_
        refine XA.dA 6 rfl rfl rfl (does_rem rfl rfl (by omega) (rem_in (by omega))) ?_
        refine XA.dA 7 rfl rfl rfl (does_at (k % n) (off + k % n) (el := 3) (sz := 1) (by kernel_rfl) (by kernel_rfl) rfl rfl hkn.symm hkl (by omega)) ?_
        refine XA.dA 8 rfl rfl rfl (does_load (by kernel_rfl) rfl (hrd _)) ?_
        refine XA.dA 9 rfl rfl rfl (does_move rfl) ?_
        refine XA.dA 10 rfl rfl rfl (does_move rfl) ?_
        refine XA.dA 11 rfl rfl rfl (does_len (el := 3) (by kernel_rfl) rfl) ?_
        refine XA.dA 12 rfl rfl rfl (does_quo rfl rfl (by omega) (quo_in (by omega) (by omega) (by omega))) ?_
        refine XA.dA 13 rfl rfl rfl (does_add rfl rfl (wrap_in (by omega))) ?_
        refine XA.dA 14 rfl rfl rfl (does_quo rfl rfl (by omega) (wrap_in hyb)) ?_
        refine XA.next 15 rfl (by kernel_rfl) ?_
        refine xk_callV (f := 42) (fi := []) (ca := []) (by kernel_rfl) rfl rfl (by decide) (fun v => ∃ r : Int, v = .int .i64 r ∧ 0 ≤ r ∧ r < 1000000) (fun w1 st => pick17_any _ _ w1 hyb (by omega)) fun v hv => ?_
        obtain ⟨r, rfl, hr0, hr1⟩ := hv
        refine XA.bk ?_
        refine XA.next 16 rfl (by kernel_rfl) ?_
        refine xk_at k k (el := 3) (sz := 1) (by kernel_rfl) (by kernel_rfl) rfl rfl rfl hk2 (by omega) (by decide) ?_
        refine XA.bt ?_
        refine XA.next 17 rfl (by kernel_rfl) ?_
        refine xk_store 0 rfl (by kernel_rfl) rfl rfl rfl (by simp [intCells, hd.1]; omega) ?_
        refine XA.bt ?_
        refine XA.done (by kernel_rfl) ?_
        refine XK.norm ?_

        refine XK.region ?_
        refine xk_move rfl (by decide) ?_
        refine xk_add rfl rfl (wrap_in (by omega)) (by decide) ?_
        refine xk_assign rfl (by decide) ?_
        refine XK.nilN ?_
        exact XK.envS [(5, .int .i64 (k + 1)), (4, .slice (some ⟨g2, 0, none⟩) 120 120), (2, .pointer (some ⟨g1, 0, none⟩)), (0, .slice (some ⟨b, off, none⟩) n c)] (XK.round (120 - (k + 1)) (by omega) ⟨k + 1, ds.set k r, hd.set_ k hr0 hr1, by omega, rfl, rfl, rfl, by simp [intCells, List.map_set]⟩)
      ·
        refine XK.exit ?_
        refine XK.norm ?_
        exact XK.envS [(4, .slice (some ⟨g2, 0, none⟩) 120 120), (2, .pointer (some ⟨g1, 0, none⟩))] (XK.meet ⟨ds, hd, rfl, rfl, rfl⟩)
    ·
      refine xk_guardF rfl rfl rfl (by decide) ?_
      refine xk_guardF rfl rfl rfl (by decide) ?_
      refine xk_guardF rfl rfl rfl (by decide) ?_
      (first | refine xk_pickT rfl rfl (by decide) ?_ | refine xk_pickF rfl rfl (by decide) ?_)
      refine XK.nilN ?_
      refine XK.cond rfl (fun h => by cases h) (fun _ => ?_)
      refine XK.exit ?_
      refine XK.norm ?_
      exact XK.envS [(4, .slice (some ⟨g2, 0, none⟩) 120 120), (2, .pointer (some ⟨g1, 0, none⟩))] (XK.meet ⟨ds, hd, rfl, rfl, rfl⟩)
  rintro _ _ _ ⟨ds, hd, rfl, rfl, rfl⟩
  have dd := hd.at_
  have b0 := hd.bd 0
  have b1 := hd.bd 1
  refine XK.seq ?_

  refine XK.region ?_
  refine xk_move rfl (by decide) ?_
  refine xk_at 0 0 (el := 3) (sz := 1) (by kernel_rfl) (by kernel_rfl) rfl rfl (by rfl) (by omega) (by omega) (by decide) ?_
  refine xk_load (by kernel_rfl) rfl (by first | assumption | exact Rd.blk 0 rfl (dd _ (by omega)) | exact Rd.blk 1 rfl (dd _ (by omega)) | exact Rd.blk 2 rfl (dd _ (by omega)) | exact Rd.blk 3 rfl (dd _ (by omega)) | exact Rd.blk 4 rfl (dd _ (by omega)) | exact Rd.blk 5 rfl (dd _ (by omega)) | exact Rd.blk 6 rfl (dd _ (by omega)) | exact Rd.blk 7 rfl (dd _ (by omega)) | exact Rd.blk 8 rfl (dd _ (by omega)) | exact Rd.blk 9 rfl (dd _ (by omega)) | exact Rd.blk 0 rfl rfl | exact Rd.blk 1 rfl rfl | exact Rd.blk 2 rfl rfl | exact Rd.blk 3 rfl rfl | exact Rd.blk 4 rfl rfl | exact Rd.blk 5 rfl rfl | exact Rd.blk 6 rfl rfl | exact Rd.blk 7 rfl rfl | exact Rd.blk 8 rfl rfl | exact Rd.blk 9 rfl rfl) (by decide) ?_
  refine xk_add rfl rfl (wrap_in (by omega)) (by decide) ?_
  refine xk_conv (ds := .int .i64) (by kernel_rfl) (by kernel_rfl) rfl (wrap_u64 (by omega)) (by decide) ?_
  refine xk_buildS (zs := [.int .u8 0, .slice none 0 0, .int .u64 0, .int .i64 0, .int .i64 0, .int .i64 0]) (L := [(0, 1), (1, 1), (2, 1), (3, 1), (4, 1), (5, 1)]) (zeroB_of (by kernel_rfl)) (by kernel_rfl) rfl (by simp [fillL, setN, Value.cells]; rfl) (by decide) ?_
  refine xk_slice (el := 65) (sz := 6) (zs := [.int .u8 0, .slice none 0 0, .int .u64 0, .int .i64 0, .int .i64 0, .int .i64 0]) (by kernel_rfl) (zeroB_of (by kernel_rfl)) (by kernel_rfl) rfl (by decide) (by decide) rfl (by simp [fillL, setN, Value.cells, List.range_succ, List.set]; rfl) (by decide) fun g3 => ?_
  refine xk_buildS (zs := [.slice none 0 0, .slice none 0 0, .slice none 0 0, .slice none 0 0]) (L := [(0, 1), (1, 1), (2, 1), (3, 1)]) (zeroB_of (by kernel_rfl)) (by kernel_rfl) rfl (by simp [fillL, setN, Value.cells]; rfl) (by decide) ?_
  refine xk_alloc (cs := [.slice none 0 0, .slice none 0 0, .slice none 0 0, .slice none 0 0]) (zeroB_of (by kernel_rfl)) (by decide) fun g4 => ?_
  (first | (refine xk_storeN 0 rfl rfl rfl (by kernel_rfl) (by simp [Value.cells, Value.oneCell']) (by simp [Value.cells]) ?_) | (refine xk_storeN 1 rfl rfl rfl (by kernel_rfl) (by simp [Value.cells, Value.oneCell']) (by simp [Value.cells]) ?_) | (refine xk_storeN 2 rfl rfl rfl (by kernel_rfl) (by simp [Value.cells, Value.oneCell']) (by simp [Value.cells]) ?_) | (refine xk_storeN 3 rfl rfl rfl (by kernel_rfl) (by simp [Value.cells, Value.oneCell']) (by simp [Value.cells]) ?_) | (refine xk_storeN 4 rfl rfl rfl (by kernel_rfl) (by simp [Value.cells, Value.oneCell']) (by simp [Value.cells]) ?_) | (refine xk_storeN 5 rfl rfl rfl (by kernel_rfl) (by simp [Value.cells, Value.oneCell']) (by simp [Value.cells]) ?_) | (refine xk_storeN 6 rfl rfl rfl (by kernel_rfl) (by simp [Value.cells, Value.oneCell']) (by simp [Value.cells]) ?_) | (refine xk_storeN 7 rfl rfl rfl (by kernel_rfl) (by simp [Value.cells, Value.oneCell']) (by simp [Value.cells]) ?_) | (refine xk_storeN 8 rfl rfl rfl (by kernel_rfl) (by simp [Value.cells, Value.oneCell']) (by simp [Value.cells]) ?_)); simp only [putN, Value.cells, List.set, List.take, List.drop, List.nil_append, List.append_nil, List.length_cons, List.length_nil, List.cons_append, Nat.reduceAdd]
  refine XK.nilN ?_
  refine XK.seq ?_

  refine XK.region ?_
  refine xk_assign rfl (by decide) ?_
  refine XK.nilN ?_
  refine XK.seq ?_

  refine XK.region ?_
  refine xk_assign rfl (by decide) ?_
  refine XK.nilN ?_
  refine XK.cut (fun e R H => ∃ (cs : List Clk) (A1 : Option Addr) (c1 : Nat) (q : Piece) (rows1 : List (List Value)), 1 ≤ cs.length ∧ cs.length ≤ 9 ∧ Fits Clk.fit cs ∧ Rows (ClkR (slq q)) 6 cs rows1 ∧ Fresh w q ∧ e = [(6, .pointer (some ⟨g4, 0, none⟩)), (4, .slice (some ⟨g2, 0, none⟩) 120 120), (2, .pointer (some ⟨g1, 0, none⟩))] ∧ R = [q, all w] ∧ H = [HP.blk g4 50 [.slice A1 cs.length c1, .slice none 0 0, .slice none 0 0, .slice none 0 0], HP.own 65 6 (.slice A1 cs.length c1) cs.length rows1.flatten, HP.blk g2 3 (intCells ds), HP.blk g1 50 [.slice none 0 0, .slice none 0 0, .slice none 0 0, .slice none 0 0]]) ?_ ?_
  ·
    refine XK.seq ?_

    refine XK.region ?_
    refine xk_assign rfl (by decide) ?_
    refine XK.nilN ?_
    refine XK.asOwn 1 6 1 rfl rfl (by omega) ?_
    refine XK.still [] [] [0, 1, 2, 3] (by simp) rfl (by decide) (by simp) fun q _ _ hqn => ?_
    have hq := hqn (by simp) (by simp)
    refine XK.envS [(8, .int .i64 0), (3, .int .i64 1), (7, .string ⟨#[112, 100, 103, 109, 103]⟩), (6, .pointer (some ⟨g4, 0, none⟩)), (4, .slice (some ⟨g2, 0, none⟩) 120 120), (2, .pointer (some ⟨g1, 0, none⟩))] ?_
    refine XK.block ?_
    refine XK.loop (fun m e R H => ∃ (k : Nat) (cs : List Clk) (A1 : Option Addr) (c1 : Nat) (q : Piece) (rows1 : List (List Value)), (k : Int) ≤ dv ds 1 % 9 ∧ m = 9 - k ∧ cs.length = k + 1 ∧ Fits Clk.fit cs ∧ Rows (ClkR (slq q)) 6 cs rows1 ∧ Fresh w q ∧ e = [(8, .int .i64 k), (3, .int .i64 1), (7, .string ⟨#[112, 100, 103, 109, 103]⟩), (6, .pointer (some ⟨g4, 0, none⟩)), (4, .slice (some ⟨g2, 0, none⟩) 120 120), (2, .pointer (some ⟨g1, 0, none⟩))] ∧ R = [q, all w] ∧ H = [HP.blk g4 50 [.slice A1 cs.length c1, .slice none 0 0, .slice none 0 0, .slice none 0 0], HP.own 65 6 (.slice A1 cs.length c1) cs.length rows1.flatten, HP.blk g2 3 (intCells ds), HP.blk g1 50 [.slice none 0 0, .slice none 0 0, .slice none 0 0, .slice none 0 0]]) 9 ⟨0, [⟨111, [], 1 + dv ds 0, 0, 0, 0⟩], some ⟨g3, 0, none⟩, 1, q, [[.int .u8 111, .slice none 0 0, .int .u64 (1 + dv ds 0), .int .i64 0, .int .i64 0, .int .i64 0]], by omega, rfl, rfl, (Fits.nil Clk.fit).snoc ⟨by simp, .inl ⟨rfl, rfl, by dsimp only; omega, by dsimp only; omega, rfl, rfl, rfl⟩⟩, ⟨rfl, ⟨none, 0, 0, rfl, rfl, SlS.nil _ _⟩, trivial⟩, hq, rfl, rfl, rfl⟩ fun m e R H hI => ?_
    obtain ⟨k, cs, A1, c1, q, rows1, hk, rfl, hcl, hcf, hcr, hq, rfl, rfl, rfl⟩ := hI
    refine XK.seq ?_
    refine XK.seq ?_

    refine XK.region ?_
    refine xk_move rfl (by decide) ?_
    refine xk_move rfl (by decide) ?_
    refine xk_move rfl (by decide) ?_
    refine xk_at 1 1 (el := 3) (sz := 1) (by kernel_rfl) (by kernel_rfl) rfl rfl (by omega) (by omega) (by omega) (by decide) ?_
    refine xk_load (by kernel_rfl) rfl (by first | assumption | exact Rd.blk 0 rfl (dd _ (by omega)) | exact Rd.blk 1 rfl (dd _ (by omega)) | exact Rd.blk 2 rfl (dd _ (by omega)) | exact Rd.blk 3 rfl (dd _ (by omega)) | exact Rd.blk 4 rfl (dd _ (by omega)) | exact Rd.blk 5 rfl (dd _ (by omega)) | exact Rd.blk 6 rfl (dd _ (by omega)) | exact Rd.blk 7 rfl (dd _ (by omega)) | exact Rd.blk 8 rfl (dd _ (by omega)) | exact Rd.blk 9 rfl (dd _ (by omega)) | exact Rd.blk 0 rfl rfl | exact Rd.blk 1 rfl rfl | exact Rd.blk 2 rfl rfl | exact Rd.blk 3 rfl rfl | exact Rd.blk 4 rfl rfl | exact Rd.blk 5 rfl rfl | exact Rd.blk 6 rfl rfl | exact Rd.blk 7 rfl rfl | exact Rd.blk 8 rfl rfl | exact Rd.blk 9 rfl rfl) (by decide) ?_
    refine xk_rem rfl rfl (by omega) (rem_in (by omega)) (by decide) ?_
    refine xk_lss rfl rfl (by decide) ?_
    refine XK.nilN ?_
    refine XK.if_ rfl (fun h => ?_) (fun h => ?_)
    ·
      refine XK.skip ?_
      refine XK.norm ?_
      refine XK.seq ?_
      have hk2 : k < 9 := by omega
      have hcp : (0 : Int) < cs.length := by omega
      have b2 := hd.bd (10 + 3 * k)
      have b3 := hd.bd (11 + 3 * k)
      have b4 := hd.bd (12 + 3 * k)
      have f0 := emod_bd (dv ds (11 + 3 * k)) hcp
      have f1 := emod_bd (dv ds (12 + 3 * k)) hcp
      have m5 := emod_bd (dv ds (10 + 3 * k)) (n := 5) (by omega)
      obtain ⟨kb, hkb, hkb2⟩ := kinds_at (q := (dv ds (10 + 3 * k) % 5).toNat) (by omega)
      refine XK.block ?_
      refine XK.seq ?_

      refine XK.region ?_
      refine xk_move rfl (by decide) ?_
      refine xk_mul rfl rfl (wrap_in (by omega)) (by decide) ?_
      refine xk_add rfl rfl (wrap_in (by omega)) (by decide) ?_
      refine xk_assign rfl (by decide) ?_
      refine XK.nilN ?_
      refine XK.cut (fun e R H => ∃ gC gF, e = [(10, .pointer (some ⟨gC, 0, none⟩)), (9, .int .i64 (10 + 3 * k)), (8, .int .i64 k), (3, .int .i64 1), (7, .string ⟨#[112, 100, 103, 109, 103]⟩), (6, .pointer (some ⟨g4, 0, none⟩)), (4, .slice (some ⟨g2, 0, none⟩) 120 120), (2, .pointer (some ⟨g1, 0, none⟩))] ∧ R = [q, all w] ∧ H = [HP.blk gC 65 [.int .u8 kb.toNat, .slice (some ⟨gF, 0, none⟩) 1 1, .int .u64 0, .int .i64 0, .int .i64 0, .int .i64 0], HP.blk gF 3 [.int .i64 (dv ds (11 + 3 * k) % cs.length)], HP.blk g4 50 [.slice A1 cs.length c1, .slice none 0 0, .slice none 0 0, .slice none 0 0], HP.own 65 6 (.slice A1 cs.length c1) cs.length rows1.flatten, HP.blk g2 3 (intCells ds), HP.blk g1 50 [.slice none 0 0, .slice none 0 0, .slice none 0 0, .slice none 0 0]]) ?_ ?_
      ·

        refine XK.draw 19 (by kernel_rfl) (by kernel_rfl) ?_
        refine XA.dA 0 rfl rfl rfl (does_move rfl) ?_
        refine XA.dA 1 rfl rfl rfl (does_move rfl) ?_
        refine XA.dA 2 rfl rfl rfl (does_move rfl) ?_
        refine XA.dA 3 rfl rfl rfl (does_at (10 + 3 * k) (10 + 3 * k) (el := 3) (sz := 1) (by kernel_rfl) (by kernel_rfl) rfl rfl (by omega) (by omega) (by omega)) ?_
        refine XA.dA 4 rfl rfl rfl (does_load (by kernel_rfl) rfl (by first | assumption | exact Rd.blk 0 rfl (dd _ (by omega)) | exact Rd.blk 1 rfl (dd _ (by omega)) | exact Rd.blk 2 rfl (dd _ (by omega)) | exact Rd.blk 3 rfl (dd _ (by omega)) | exact Rd.blk 4 rfl (dd _ (by omega)) | exact Rd.blk 5 rfl (dd _ (by omega)) | exact Rd.blk 6 rfl (dd _ (by omega)) | exact Rd.blk 7 rfl (dd _ (by omega)) | exact Rd.blk 8 rfl (dd _ (by omega)) | exact Rd.blk 9 rfl (dd _ (by omega)) | exact Rd.blk 0 rfl rfl | exact Rd.blk 1 rfl rfl | exact Rd.blk 2 rfl rfl | exact Rd.blk 3 rfl rfl | exact Rd.blk 4 rfl rfl | exact Rd.blk 5 rfl rfl | exact Rd.blk 6 rfl rfl | exact Rd.blk 7 rfl rfl | exact Rd.blk 8 rfl rfl | exact Rd.blk 9 rfl rfl)) ?_
        refine XA.dA 5 rfl rfl rfl (does_rem rfl rfl (by omega) (rem_in (by omega))) ?_
        refine XA.dA 6 rfl rfl rfl (does_byte (dv ds (10 + 3 * k) % 5).toNat (by kernel_rfl) rfl rfl (by omega) hkb) ?_
        refine XA.dA 7 rfl rfl rfl (does_move rfl) ?_
        refine XA.dA 8 rfl rfl rfl (does_move rfl) ?_
        refine XA.dA 9 rfl rfl rfl (does_add rfl rfl (wrap_in (by omega))) ?_
        refine XA.dA 10 rfl rfl rfl (does_at (11 + 3 * k) (11 + 3 * k) (el := 3) (sz := 1) (by kernel_rfl) (by kernel_rfl) rfl rfl (by omega) (by omega) (by omega)) ?_
        refine XA.dA 11 rfl rfl rfl (does_load (by kernel_rfl) rfl (by first | assumption | exact Rd.blk 0 rfl (dd _ (by omega)) | exact Rd.blk 1 rfl (dd _ (by omega)) | exact Rd.blk 2 rfl (dd _ (by omega)) | exact Rd.blk 3 rfl (dd _ (by omega)) | exact Rd.blk 4 rfl (dd _ (by omega)) | exact Rd.blk 5 rfl (dd _ (by omega)) | exact Rd.blk 6 rfl (dd _ (by omega)) | exact Rd.blk 7 rfl (dd _ (by omega)) | exact Rd.blk 8 rfl (dd _ (by omega)) | exact Rd.blk 9 rfl (dd _ (by omega)) | exact Rd.blk 0 rfl rfl | exact Rd.blk 1 rfl rfl | exact Rd.blk 2 rfl rfl | exact Rd.blk 3 rfl rfl | exact Rd.blk 4 rfl rfl | exact Rd.blk 5 rfl rfl | exact Rd.blk 6 rfl rfl | exact Rd.blk 7 rfl rfl | exact Rd.blk 8 rfl rfl | exact Rd.blk 9 rfl rfl)) ?_
        refine XA.dA 12 rfl rfl rfl (does_field (off := 0) (by kernel_rfl) rfl) ?_
        refine XA.dA 13 rfl rfl rfl (does_load (by kernel_rfl) rfl (by first | assumption | exact Rd.blk 0 rfl (dd _ (by omega)) | exact Rd.blk 1 rfl (dd _ (by omega)) | exact Rd.blk 2 rfl (dd _ (by omega)) | exact Rd.blk 3 rfl (dd _ (by omega)) | exact Rd.blk 4 rfl (dd _ (by omega)) | exact Rd.blk 5 rfl (dd _ (by omega)) | exact Rd.blk 6 rfl (dd _ (by omega)) | exact Rd.blk 7 rfl (dd _ (by omega)) | exact Rd.blk 8 rfl (dd _ (by omega)) | exact Rd.blk 9 rfl (dd _ (by omega)) | exact Rd.blk 0 rfl rfl | exact Rd.blk 1 rfl rfl | exact Rd.blk 2 rfl rfl | exact Rd.blk 3 rfl rfl | exact Rd.blk 4 rfl rfl | exact Rd.blk 5 rfl rfl | exact Rd.blk 6 rfl rfl | exact Rd.blk 7 rfl rfl | exact Rd.blk 8 rfl rfl | exact Rd.blk 9 rfl rfl)) ?_
        refine XA.dA 14 rfl rfl rfl (does_len (el := 65) (by kernel_rfl) rfl) ?_
        refine XA.dA 15 rfl rfl rfl (does_rem rfl rfl (by omega) (rem_in (by omega))) ?_
        refine XA.either 16 18 rfl rfl (by kernel_rfl) ?_ ?_
        · refine xk_slice (el := 3) (sz := 1) (zs := [.int .i64 0]) (by kernel_rfl) (zeroB_of (by kernel_rfl)) (by kernel_rfl) rfl (by decide) (by decide) rfl (by simp [fillL, setN, Value.cells, List.range_succ, List.set]; rfl) (by decide) fun g5 => ?_
          refine XA.bk ?_
          refine XA.dA 17 rfl rfl rfl (does_buildS (zs := [.int .u8 0, .slice none 0 0, .int .u64 0, .int .i64 0, .int .i64 0, .int .i64 0]) (L := [(0, 1), (1, 1), (2, 1), (3, 1), (4, 1), (5, 1)]) (zeroB_of (by kernel_rfl)) (by kernel_rfl) rfl (by simp [fillL, setN, Value.cells]; rfl)) ?_
          refine XA.next 18 rfl (by kernel_rfl) ?_
          refine xk_alloc (cs := [.int .u8 0, .slice none 0 0, .int .u64 0, .int .i64 0, .int .i64 0, .int .i64 0]) (zeroB_of (by kernel_rfl)) (by decide) fun g6 => ?_
          refine XA.bk ?_
          refine XA.next 19 rfl (by kernel_rfl) ?_
          (first | (refine xk_storeN 0 rfl rfl rfl (by kernel_rfl) (by simp [Value.cells, Value.oneCell']) (by simp [Value.cells]) ?_) | (refine xk_storeN 1 rfl rfl rfl (by kernel_rfl) (by simp [Value.cells, Value.oneCell']) (by simp [Value.cells]) ?_) | (refine xk_storeN 2 rfl rfl rfl (by kernel_rfl) (by simp [Value.cells, Value.oneCell']) (by simp [Value.cells]) ?_) | (refine xk_storeN 3 rfl rfl rfl (by kernel_rfl) (by simp [Value.cells, Value.oneCell']) (by simp [Value.cells]) ?_) | (refine xk_storeN 4 rfl rfl rfl (by kernel_rfl) (by simp [Value.cells, Value.oneCell']) (by simp [Value.cells]) ?_) | (refine xk_storeN 5 rfl rfl rfl (by kernel_rfl) (by simp [Value.cells, Value.oneCell']) (by simp [Value.cells]) ?_) | (refine xk_storeN 6 rfl rfl rfl (by kernel_rfl) (by simp [Value.cells, Value.oneCell']) (by simp [Value.cells]) ?_) | (refine xk_storeN 7 rfl rfl rfl (by kernel_rfl) (by simp [Value.cells, Value.oneCell']) (by simp [Value.cells]) ?_) | (refine xk_storeN 8 rfl rfl rfl (by kernel_rfl) (by simp [Value.cells, Value.oneCell']) (by simp [Value.cells]) ?_)); simp only [putN, Value.cells, List.set, List.take, List.drop, List.nil_append, List.append_nil, List.length_cons, List.length_nil, List.cons_append, Nat.reduceAdd]
          refine XA.bt ?_
          refine XA.done (by kernel_rfl) ?_
          refine XK.norm ?_
          exact XK.envS [(10, .pointer (some ⟨g6, 0, none⟩)), (9, .int .i64 (10 + 3 * k)), (8, .int .i64 k), (3, .int .i64 1), (7, .string ⟨#[112, 100, 103, 109, 103]⟩), (6, .pointer (some ⟨g4, 0, none⟩)), (4, .slice (some ⟨g2, 0, none⟩) 120 120), (2, .pointer (some ⟨g1, 0, none⟩))] (XK.meet ⟨_, _, rfl, rfl, rfl⟩)
        · refine xk_alloc (cs := [.int .u8 0, .slice none 0 0, .int .u64 0, .int .i64 0, .int .i64 0, .int .i64 0]) (zeroB_of (by kernel_rfl)) (by decide) fun g6 => ?_
          refine XA.bk ?_
          refine XA.next 16 rfl (by kernel_rfl) ?_
          refine xk_slice (el := 3) (sz := 1) (zs := [.int .i64 0]) (by kernel_rfl) (zeroB_of (by kernel_rfl)) (by kernel_rfl) rfl (by decide) (by decide) rfl (by simp [fillL, setN, Value.cells, List.range_succ, List.set]; rfl) (by decide) fun g5 => ?_
          refine XA.bk ?_
          refine XA.dA 17 rfl rfl rfl (does_buildS (zs := [.int .u8 0, .slice none 0 0, .int .u64 0, .int .i64 0, .int .i64 0, .int .i64 0]) (L := [(0, 1), (1, 1), (2, 1), (3, 1), (4, 1), (5, 1)]) (zeroB_of (by kernel_rfl)) (by kernel_rfl) rfl (by simp [fillL, setN, Value.cells]; rfl)) ?_
          refine XA.next 19 rfl (by kernel_rfl) ?_
          (first | (refine xk_storeN 0 rfl rfl rfl (by kernel_rfl) (by simp [Value.cells, Value.oneCell']) (by simp [Value.cells]) ?_) | (refine xk_storeN 1 rfl rfl rfl (by kernel_rfl) (by simp [Value.cells, Value.oneCell']) (by simp [Value.cells]) ?_) | (refine xk_storeN 2 rfl rfl rfl (by kernel_rfl) (by simp [Value.cells, Value.oneCell']) (by simp [Value.cells]) ?_) | (refine xk_storeN 3 rfl rfl rfl (by kernel_rfl) (by simp [Value.cells, Value.oneCell']) (by simp [Value.cells]) ?_) | (refine xk_storeN 4 rfl rfl rfl (by kernel_rfl) (by simp [Value.cells, Value.oneCell']) (by simp [Value.cells]) ?_) | (refine xk_storeN 5 rfl rfl rfl (by kernel_rfl) (by simp [Value.cells, Value.oneCell']) (by simp [Value.cells]) ?_) | (refine xk_storeN 6 rfl rfl rfl (by kernel_rfl) (by simp [Value.cells, Value.oneCell']) (by simp [Value.cells]) ?_) | (refine xk_storeN 7 rfl rfl rfl (by kernel_rfl) (by simp [Value.cells, Value.oneCell']) (by simp [Value.cells]) ?_) | (refine xk_storeN 8 rfl rfl rfl (by kernel_rfl) (by simp [Value.cells, Value.oneCell']) (by simp [Value.cells]) ?_)); simp only [putN, Value.cells, List.set, List.take, List.drop, List.nil_append, List.append_nil, List.length_cons, List.length_nil, List.cons_append, Nat.reduceAdd]
          refine XA.bt ?_
          refine XA.done (by kernel_rfl) ?_
          refine XK.norm ?_
          exact XK.weak [1, 0, 2, 3, 4, 5] rfl (by decide) (fun _ h => h) (XK.envS [(10, .pointer (some ⟨g6, 0, none⟩)), (9, .int .i64 (10 + 3 * k)), (8, .int .i64 k), (3, .int .i64 1), (7, .string ⟨#[112, 100, 103, 109, 103]⟩), (6, .pointer (some ⟨g4, 0, none⟩)), (4, .slice (some ⟨g2, 0, none⟩) 120 120), (2, .pointer (some ⟨g1, 0, none⟩))] (XK.meet ⟨_, _, rfl, rfl, rfl⟩))

      rintro _ _ _ ⟨gC, gF, rfl, rfl, rfl⟩
      refine XK.asOwn 1 1 1 rfl rfl (by omega) ?_
      refine XK.cut (fun e R H => ∃ (cl : Clk) (Af : Option Addr) (cf gC : Nat), cl.fit cs.length ∧ e = [(10, .pointer (some ⟨gC, 0, none⟩)), (8, .int .i64 k), (3, .int .i64 1), (7, .string ⟨#[112, 100, 103, 109, 103]⟩), (6, .pointer (some ⟨g4, 0, none⟩)), (4, .slice (some ⟨g2, 0, none⟩) 120 120), (2, .pointer (some ⟨g1, 0, none⟩))] ∧ R = [q, all w] ∧ H = [HP.blk gC 65 [.int .u8 cl.kind, .slice Af cl.src.length cf, .int .u64 cl.rate, .int .i64 cl.mul, .int .i64 cl.div, .int .i64 cl.lock], HP.own 3 1 (.slice Af cl.src.length cf) cl.src.length (intCells cl.src), HP.blk g4 50 [.slice A1 cs.length c1, .slice none 0 0, .slice none 0 0, .slice none 0 0], HP.own 65 6 (.slice A1 cs.length c1) cs.length rows1.flatten, HP.blk g2 3 (intCells ds), HP.blk g1 50 [.slice none 0 0, .slice none 0 0, .slice none 0 0, .slice none 0 0]]) ?_ ?_
      ·
        refine XK.seq ?_

        refine XK.region ?_
        refine xk_field (off := 0) (by kernel_rfl) rfl (by decide) ?_
        refine xk_load (by kernel_rfl) rfl (by first | assumption | exact Rd.blk 0 rfl (dd _ (by omega)) | exact Rd.blk 1 rfl (dd _ (by omega)) | exact Rd.blk 2 rfl (dd _ (by omega)) | exact Rd.blk 3 rfl (dd _ (by omega)) | exact Rd.blk 4 rfl (dd _ (by omega)) | exact Rd.blk 5 rfl (dd _ (by omega)) | exact Rd.blk 6 rfl (dd _ (by omega)) | exact Rd.blk 7 rfl (dd _ (by omega)) | exact Rd.blk 8 rfl (dd _ (by omega)) | exact Rd.blk 9 rfl (dd _ (by omega)) | exact Rd.blk 0 rfl rfl | exact Rd.blk 1 rfl rfl | exact Rd.blk 2 rfl rfl | exact Rd.blk 3 rfl rfl | exact Rd.blk 4 rfl rfl | exact Rd.blk 5 rfl rfl | exact Rd.blk 6 rfl rfl | exact Rd.blk 7 rfl rfl | exact Rd.blk 8 rfl rfl | exact Rd.blk 9 rfl rfl) (by decide) ?_
        refine XK.nilN ?_
        refine XK.block ?_
        refine XK.seq ?_

        refine XK.region ?_
        refine xk_eql rfl rfl (by decide) ?_
        refine xk_assign rfl (by decide) ?_
        refine XK.nilN ?_
        refine XK.if_ rfl (fun h => ?_) (fun h => ?_)
        ·
          refine XK.seq ?_

          refine XK.region ?_
          refine xk_move rfl (by decide) ?_
          refine xk_move rfl (by decide) ?_
          refine xk_add rfl rfl (wrap_in (by omega)) (by decide) ?_
          refine xk_at (12 + 3 * k) (12 + 3 * k) (el := 3) (sz := 1) (by kernel_rfl) (by kernel_rfl) rfl rfl (by omega) (by omega) (by omega) (by decide) ?_
          refine xk_load (by kernel_rfl) rfl (by first | assumption | exact Rd.blk 0 rfl (dd _ (by omega)) | exact Rd.blk 1 rfl (dd _ (by omega)) | exact Rd.blk 2 rfl (dd _ (by omega)) | exact Rd.blk 3 rfl (dd _ (by omega)) | exact Rd.blk 4 rfl (dd _ (by omega)) | exact Rd.blk 5 rfl (dd _ (by omega)) | exact Rd.blk 6 rfl (dd _ (by omega)) | exact Rd.blk 7 rfl (dd _ (by omega)) | exact Rd.blk 8 rfl (dd _ (by omega)) | exact Rd.blk 9 rfl (dd _ (by omega)) | exact Rd.blk 0 rfl rfl | exact Rd.blk 1 rfl rfl | exact Rd.blk 2 rfl rfl | exact Rd.blk 3 rfl rfl | exact Rd.blk 4 rfl rfl | exact Rd.blk 5 rfl rfl | exact Rd.blk 6 rfl rfl | exact Rd.blk 7 rfl rfl | exact Rd.blk 8 rfl rfl | exact Rd.blk 9 rfl rfl) (by decide) ?_
          refine xk_rem rfl rfl (by omega) (rem_in (by omega)) (by decide) ?_
          refine xk_add rfl rfl (wrap_in (by omega)) (by decide) ?_
          refine xk_field (off := 3) (by kernel_rfl) rfl (by decide) ?_
          refine xk_st rfl rfl ?_; dsimp only [List.set]
          refine XK.nilN ?_
          refine XK.seq ?_

          refine XK.region ?_
          refine xk_move rfl (by decide) ?_
          refine xk_move rfl (by decide) ?_
          refine xk_add rfl rfl (wrap_in (by omega)) (by decide) ?_
          refine xk_at (12 + 3 * k) (12 + 3 * k) (el := 3) (sz := 1) (by kernel_rfl) (by kernel_rfl) rfl rfl (by omega) (by omega) (by omega) (by decide) ?_
          refine xk_load (by kernel_rfl) rfl (by first | assumption | exact Rd.blk 0 rfl (dd _ (by omega)) | exact Rd.blk 1 rfl (dd _ (by omega)) | exact Rd.blk 2 rfl (dd _ (by omega)) | exact Rd.blk 3 rfl (dd _ (by omega)) | exact Rd.blk 4 rfl (dd _ (by omega)) | exact Rd.blk 5 rfl (dd _ (by omega)) | exact Rd.blk 6 rfl (dd _ (by omega)) | exact Rd.blk 7 rfl (dd _ (by omega)) | exact Rd.blk 8 rfl (dd _ (by omega)) | exact Rd.blk 9 rfl (dd _ (by omega)) | exact Rd.blk 0 rfl rfl | exact Rd.blk 1 rfl rfl | exact Rd.blk 2 rfl rfl | exact Rd.blk 3 rfl rfl | exact Rd.blk 4 rfl rfl | exact Rd.blk 5 rfl rfl | exact Rd.blk 6 rfl rfl | exact Rd.blk 7 rfl rfl | exact Rd.blk 8 rfl rfl | exact Rd.blk 9 rfl rfl) (by decide) ?_
          refine xk_quo rfl rfl (by omega) (quo_in (by omega) (by omega) (by omega)) (by decide) ?_
          refine xk_rem rfl rfl (by omega) (rem_in (by omega)) (by decide) ?_
          refine xk_add rfl rfl (wrap_in (by omega)) (by decide) ?_
          refine xk_field (off := 4) (by kernel_rfl) rfl (by decide) ?_
          refine xk_st rfl rfl ?_; dsimp only [List.set]
          refine XK.nilN ?_

          refine XK.region ?_
          refine xk_move rfl (by decide) ?_
          refine xk_move rfl (by decide) ?_
          refine xk_add rfl rfl (wrap_in (by omega)) (by decide) ?_
          refine xk_at (12 + 3 * k) (12 + 3 * k) (el := 3) (sz := 1) (by kernel_rfl) (by kernel_rfl) rfl rfl (by omega) (by omega) (by omega) (by decide) ?_
          refine xk_load (by kernel_rfl) rfl (by first | assumption | exact Rd.blk 0 rfl (dd _ (by omega)) | exact Rd.blk 1 rfl (dd _ (by omega)) | exact Rd.blk 2 rfl (dd _ (by omega)) | exact Rd.blk 3 rfl (dd _ (by omega)) | exact Rd.blk 4 rfl (dd _ (by omega)) | exact Rd.blk 5 rfl (dd _ (by omega)) | exact Rd.blk 6 rfl (dd _ (by omega)) | exact Rd.blk 7 rfl (dd _ (by omega)) | exact Rd.blk 8 rfl (dd _ (by omega)) | exact Rd.blk 9 rfl (dd _ (by omega)) | exact Rd.blk 0 rfl rfl | exact Rd.blk 1 rfl rfl | exact Rd.blk 2 rfl rfl | exact Rd.blk 3 rfl rfl | exact Rd.blk 4 rfl rfl | exact Rd.blk 5 rfl rfl | exact Rd.blk 6 rfl rfl | exact Rd.blk 7 rfl rfl | exact Rd.blk 8 rfl rfl | exact Rd.blk 9 rfl rfl) (by decide) ?_
          refine xk_quo rfl rfl (by omega) (quo_in (by omega) (by omega) (by omega)) (by decide) ?_
          refine xk_rem rfl rfl (by omega) (rem_in (by omega)) (by decide) ?_
          refine xk_field (off := 5) (by kernel_rfl) rfl (by decide) ?_
          refine xk_st rfl rfl ?_; dsimp only [List.set]
          refine XK.nilN ?_
          exact XK.envS [(10, .pointer (some ⟨gC, 0, none⟩)), (8, .int .i64 k), (3, .int .i64 1), (7, .string ⟨#[112, 100, 103, 109, 103]⟩), (6, .pointer (some ⟨g4, 0, none⟩)), (4, .slice (some ⟨g2, 0, none⟩) 120 120), (2, .pointer (some ⟨g1, 0, none⟩))] (XK.meet ⟨⟨kb.toNat, [dv ds (11 + 3 * k) % cs.length], 0, 1 + dv ds (12 + 3 * k) % 8, 1 + dv ds (12 + 3 * k) / 8 % 4, dv ds (12 + 3 * k) / 32 % 4⟩, some ⟨gF, 0, none⟩, 1, gC, ⟨fun f hf => by simp at hf; subst hf; exact f0, .inr (.inl ⟨h, rfl, rfl, by dsimp only; omega, by dsimp only; omega, by dsimp only; omega, by dsimp only; omega, by dsimp only; omega, by dsimp only; omega⟩)⟩, rfl, rfl, rfl⟩)
        ·
          refine XK.seq ?_

          refine XK.region ?_
          refine xk_eql rfl rfl (by decide) ?_
          refine xk_assign rfl (by decide) ?_
          refine XK.nilN ?_
          refine XK.if_ rfl (fun h => ?_) (fun h => ?_)
          ·

            refine XK.region ?_
            refine xk_move rfl (by decide) ?_
            refine xk_move rfl (by decide) ?_
            refine xk_add rfl rfl (wrap_in (by omega)) (by decide) ?_
            refine xk_at (12 + 3 * k) (12 + 3 * k) (el := 3) (sz := 1) (by kernel_rfl) (by kernel_rfl) rfl rfl (by omega) (by omega) (by omega) (by decide) ?_
            refine xk_load (by kernel_rfl) rfl (by first | assumption | exact Rd.blk 0 rfl (dd _ (by omega)) | exact Rd.blk 1 rfl (dd _ (by omega)) | exact Rd.blk 2 rfl (dd _ (by omega)) | exact Rd.blk 3 rfl (dd _ (by omega)) | exact Rd.blk 4 rfl (dd _ (by omega)) | exact Rd.blk 5 rfl (dd _ (by omega)) | exact Rd.blk 6 rfl (dd _ (by omega)) | exact Rd.blk 7 rfl (dd _ (by omega)) | exact Rd.blk 8 rfl (dd _ (by omega)) | exact Rd.blk 9 rfl (dd _ (by omega)) | exact Rd.blk 0 rfl rfl | exact Rd.blk 1 rfl rfl | exact Rd.blk 2 rfl rfl | exact Rd.blk 3 rfl rfl | exact Rd.blk 4 rfl rfl | exact Rd.blk 5 rfl rfl | exact Rd.blk 6 rfl rfl | exact Rd.blk 7 rfl rfl | exact Rd.blk 8 rfl rfl | exact Rd.blk 9 rfl rfl) (by decide) ?_
            refine xk_rem rfl rfl (by omega) (rem_in (by omega)) (by decide) ?_
            refine xk_add rfl rfl (wrap_in (by omega)) (by decide) ?_
            refine xk_field (off := 4) (by kernel_rfl) rfl (by decide) ?_
            refine xk_st rfl rfl ?_; dsimp only [List.set]
            refine XK.nilN ?_
            exact XK.envS [(10, .pointer (some ⟨gC, 0, none⟩)), (8, .int .i64 k), (3, .int .i64 1), (7, .string ⟨#[112, 100, 103, 109, 103]⟩), (6, .pointer (some ⟨g4, 0, none⟩)), (4, .slice (some ⟨g2, 0, none⟩) 120 120), (2, .pointer (some ⟨g1, 0, none⟩))] (XK.meet ⟨⟨kb.toNat, [dv ds (11 + 3 * k) % cs.length], 0, 0, 1 + dv ds (12 + 3 * k) % 8, 0⟩, some ⟨gF, 0, none⟩, 1, gC, ⟨fun f hf => by simp at hf; subst hf; exact f0, .inr (.inr (.inl ⟨h, rfl, rfl, rfl, by dsimp only; omega, by dsimp only; omega, rfl⟩))⟩, rfl, rfl, rfl⟩)
          ·
            refine XK.seq ?_

            refine XK.region ?_
            refine xk_eql rfl rfl (by decide) ?_
            refine xk_assign rfl (by decide) ?_
            refine XK.nilN ?_
            refine XK.if_ rfl (fun h => ?_) (fun h => ?_)
            ·

              refine XK.draw 12 (by kernel_rfl) (by kernel_rfl) ?_
              refine XA.dA 0 rfl rfl rfl (does_field (off := 1) (by kernel_rfl) rfl) ?_
              refine XA.dA 1 rfl rfl rfl (does_load (by kernel_rfl) rfl (by first | assumption | exact Rd.blk 0 rfl (dd _ (by omega)) | exact Rd.blk 1 rfl (dd _ (by omega)) | exact Rd.blk 2 rfl (dd _ (by omega)) | exact Rd.blk 3 rfl (dd _ (by omega)) | exact Rd.blk 4 rfl (dd _ (by omega)) | exact Rd.blk 5 rfl (dd _ (by omega)) | exact Rd.blk 6 rfl (dd _ (by omega)) | exact Rd.blk 7 rfl (dd _ (by omega)) | exact Rd.blk 8 rfl (dd _ (by omega)) | exact Rd.blk 9 rfl (dd _ (by omega)) | exact Rd.blk 0 rfl rfl | exact Rd.blk 1 rfl rfl | exact Rd.blk 2 rfl rfl | exact Rd.blk 3 rfl rfl | exact Rd.blk 4 rfl rfl | exact Rd.blk 5 rfl rfl | exact Rd.blk 6 rfl rfl | exact Rd.blk 7 rfl rfl | exact Rd.blk 8 rfl rfl | exact Rd.blk 9 rfl rfl)) ?_
              refine XA.dA 2 rfl rfl rfl (does_move rfl) ?_
              refine XA.dA 3 rfl rfl rfl (does_move rfl) ?_
              refine XA.dA 4 rfl rfl rfl (does_add rfl rfl (wrap_in (by omega))) ?_
              refine XA.dA 5 rfl rfl rfl (does_at (12 + 3 * k) (12 + 3 * k) (el := 3) (sz := 1) (by kernel_rfl) (by kernel_rfl) rfl rfl (by omega) (by omega) (by omega)) ?_
              refine XA.dA 6 rfl rfl rfl (does_load (by kernel_rfl) rfl (by first | assumption | exact Rd.blk 0 rfl (dd _ (by omega)) | exact Rd.blk 1 rfl (dd _ (by omega)) | exact Rd.blk 2 rfl (dd _ (by omega)) | exact Rd.blk 3 rfl (dd _ (by omega)) | exact Rd.blk 4 rfl (dd _ (by omega)) | exact Rd.blk 5 rfl (dd _ (by omega)) | exact Rd.blk 6 rfl (dd _ (by omega)) | exact Rd.blk 7 rfl (dd _ (by omega)) | exact Rd.blk 8 rfl (dd _ (by omega)) | exact Rd.blk 9 rfl (dd _ (by omega)) | exact Rd.blk 0 rfl rfl | exact Rd.blk 1 rfl rfl | exact Rd.blk 2 rfl rfl | exact Rd.blk 3 rfl rfl | exact Rd.blk 4 rfl rfl | exact Rd.blk 5 rfl rfl | exact Rd.blk 6 rfl rfl | exact Rd.blk 7 rfl rfl | exact Rd.blk 8 rfl rfl | exact Rd.blk 9 rfl rfl)) ?_
              refine XA.dA 7 rfl rfl rfl (does_field (off := 0) (by kernel_rfl) rfl) ?_
              refine XA.dA 8 rfl rfl rfl (does_load (by kernel_rfl) rfl (by first | assumption | exact Rd.blk 0 rfl (dd _ (by omega)) | exact Rd.blk 1 rfl (dd _ (by omega)) | exact Rd.blk 2 rfl (dd _ (by omega)) | exact Rd.blk 3 rfl (dd _ (by omega)) | exact Rd.blk 4 rfl (dd _ (by omega)) | exact Rd.blk 5 rfl (dd _ (by omega)) | exact Rd.blk 6 rfl (dd _ (by omega)) | exact Rd.blk 7 rfl (dd _ (by omega)) | exact Rd.blk 8 rfl (dd _ (by omega)) | exact Rd.blk 9 rfl (dd _ (by omega)) | exact Rd.blk 0 rfl rfl | exact Rd.blk 1 rfl rfl | exact Rd.blk 2 rfl rfl | exact Rd.blk 3 rfl rfl | exact Rd.blk 4 rfl rfl | exact Rd.blk 5 rfl rfl | exact Rd.blk 6 rfl rfl | exact Rd.blk 7 rfl rfl | exact Rd.blk 8 rfl rfl | exact Rd.blk 9 rfl rfl)) ?_
              refine XA.dA 9 rfl rfl rfl (does_len (el := 65) (by kernel_rfl) rfl) ?_
              refine XA.dA 10 rfl rfl rfl (does_rem rfl rfl (by omega) (rem_in (by omega))) ?_
              refine XA.next 11 rfl (by kernel_rfl) ?_
              refine xk_slice (el := 3) (sz := 1) (zs := [.int .i64 0]) (by kernel_rfl) (zeroB_of (by kernel_rfl)) (by kernel_rfl) rfl (by decide) (by decide) rfl (by simp [fillL, setN, Value.cells, List.range_succ, List.set]; rfl) (by decide) fun g7 => ?_
              refine XA.bk ?_
              refine XA.next 12 rfl (by kernel_rfl) ?_
              refine xk_appendT 2 1 8 1 (n' := 2) (el := 3) (by kernel_rfl) (by kernel_rfl) (by decide) rfl rfl rfl (sl_blk 0 rfl rfl) (by simp [Value.oneCell']) rfl (by omega) (by omega) (by decide) fun Af cf => ?_
              refine XA.bt ?_
              refine XA.next 13 rfl (by kernel_rfl) ?_
              refine xk_field (off := 1) (by kernel_rfl) rfl (by decide) ?_
              refine XA.bt ?_
              refine XA.next 14 rfl (by kernel_rfl) ?_
              refine xk_st rfl rfl ?_; dsimp only [List.set]
              refine XA.bt ?_
              refine XA.done (by kernel_rfl) ?_
              refine XK.norm ?_
              exact XK.weak [1, 2, 3, 4, 5, 6] rfl (by decide) (fun _ h => h) (XK.envS [(10, .pointer (some ⟨gC, 0, none⟩)), (8, .int .i64 k), (3, .int .i64 1), (7, .string ⟨#[112, 100, 103, 109, 103]⟩), (6, .pointer (some ⟨g4, 0, none⟩)), (4, .slice (some ⟨g2, 0, none⟩) 120 120), (2, .pointer (some ⟨g1, 0, none⟩))] (XK.meet ⟨⟨kb.toNat, [dv ds (11 + 3 * k) % cs.length, dv ds (12 + 3 * k) % cs.length], 0, 0, 0, 0⟩, Af, cf, gC, ⟨fun f hf => by simp at hf; rcases hf with rfl | rfl; exact f0; exact f1, .inr (.inr (.inr (.inr ⟨h, rfl, rfl, rfl, rfl, rfl⟩)))⟩, rfl, rfl, rfl⟩))
            ·
              refine XK.skip ?_
              refine XK.norm ?_
              exact XK.envS [(10, .pointer (some ⟨gC, 0, none⟩)), (8, .int .i64 k), (3, .int .i64 1), (7, .string ⟨#[112, 100, 103, 109, 103]⟩), (6, .pointer (some ⟨g4, 0, none⟩)), (4, .slice (some ⟨g2, 0, none⟩) 120 120), (2, .pointer (some ⟨g1, 0, none⟩))] (XK.meet ⟨⟨kb.toNat, [dv ds (11 + 3 * k) % cs.length], 0, 0, 0, 0⟩, some ⟨gF, 0, none⟩, 1, gC, ⟨fun f hf => by simp at hf; subst hf; exact f0, .inr (.inr (.inr (.inl ⟨by dsimp only; omega, rfl, rfl, rfl, rfl, rfl⟩)))⟩, rfl, rfl, rfl⟩)
      rintro _ _ _ ⟨cl, Af, cf, gC, hclf, rfl, rfl, rfl⟩

      refine XK.region ?_
      refine xk_field (off := 0) (by kernel_rfl) rfl (by decide) ?_
      refine xk_load (by kernel_rfl) rfl (by first | assumption | exact Rd.blk 0 rfl (dd _ (by omega)) | exact Rd.blk 1 rfl (dd _ (by omega)) | exact Rd.blk 2 rfl (dd _ (by omega)) | exact Rd.blk 3 rfl (dd _ (by omega)) | exact Rd.blk 4 rfl (dd _ (by omega)) | exact Rd.blk 5 rfl (dd _ (by omega)) | exact Rd.blk 6 rfl (dd _ (by omega)) | exact Rd.blk 7 rfl (dd _ (by omega)) | exact Rd.blk 8 rfl (dd _ (by omega)) | exact Rd.blk 9 rfl (dd _ (by omega)) | exact Rd.blk 0 rfl rfl | exact Rd.blk 1 rfl rfl | exact Rd.blk 2 rfl rfl | exact Rd.blk 3 rfl rfl | exact Rd.blk 4 rfl rfl | exact Rd.blk 5 rfl rfl | exact Rd.blk 6 rfl rfl | exact Rd.blk 7 rfl rfl | exact Rd.blk 8 rfl rfl | exact Rd.blk 9 rfl rfl) (by decide) ?_
      refine xk_ldN 6 rfl ?_
      refine xk_slice (el := 65) (sz := 6) (zs := [.int .u8 0, .slice none 0 0, .int .u64 0, .int .i64 0, .int .i64 0, .int .i64 0]) (by kernel_rfl) (zeroB_of (by kernel_rfl)) (by kernel_rfl) rfl (by decide) (by decide) rfl (by simp [fillL, setN, Value.cells, List.range_succ, List.set]; rfl) (by decide) fun g8 => ?_
      refine xk_appendT 4 6 64 1 (n' := cs.length + 1) (el := 65) (by kernel_rfl) (by kernel_rfl) (by decide) rfl rfl rfl (sl_blk 0 rfl rfl) (by simp [Value.oneCell']) rfl (by omega) (by omega) (by decide) fun A1n c1n => ?_
      refine xk_field (off := 0) (by kernel_rfl) rfl (by decide) ?_
      refine xk_st rfl rfl ?_; dsimp only [List.set]
      refine XK.nilN ?_

      refine XK.region ?_
      refine xk_move rfl (by decide) ?_
      refine xk_add rfl rfl (wrap_in (by omega)) (by decide) ?_
      refine xk_assign rfl (by decide) ?_
      refine XK.nilN ?_
      refine XK.still [q] [2] [3, 4, 5, 6] (by simp) rfl (by decide) (by simp) fun q2 hqf hql hqn => ?_
      have hle := hql q (by simp)
      have hq2 := hqn (by simp) (by simp; exact hq)
      have hsl := SlS.own (hqf 2 _ (by simp) rfl)
      exact XK.weak [0, 1, 2, 3] rfl (by decide) (by simp) (XK.envS [(8, .int .i64 (k + 1)), (3, .int .i64 1), (7, .string ⟨#[112, 100, 103, 109, 103]⟩), (6, .pointer (some ⟨g4, 0, none⟩)), (4, .slice (some ⟨g2, 0, none⟩) 120 120), (2, .pointer (some ⟨g1, 0, none⟩))] (XK.round (9 - (k + 1)) (by omega) ⟨k + 1, cs ++ [cl], A1n, c1n, q2, rows1 ++ [_], by omega, rfl, by simp [hcl], hcf.snoc hclf, (hcr.mono (fun c r => ClkR.mono (slq_le hle))).snoc (r := [.int .u8 cl.kind, .slice Af cl.src.length cf, .int .u64 cl.rate, .int .i64 cl.mul, .int .i64 cl.div, .int .i64 cl.lock]) rfl ⟨Af, _, cf, rfl, rfl, hsl⟩, hq2, rfl, rfl, by simp⟩))
    ·
      refine XK.exit ?_
      refine XK.norm ?_
      exact XK.envS [(6, .pointer (some ⟨g4, 0, none⟩)), (4, .slice (some ⟨g2, 0, none⟩) 120 120), (2, .pointer (some ⟨g1, 0, none⟩))] (XK.meet ⟨cs, A1, c1, q, rows1, by omega, by omega, hcf, hcr, hq, rfl, rfl, rfl⟩)
  rintro _ _ _ ⟨cs, A1, c1, q, rows1, hc1, hc9, hcf, hcr, hq, rfl, rfl, rfl⟩
  have dd := hd.at_
  have b2 := hd.bd 2
  have b3 := hd.bd 3
  have b4 := hd.bd 4
  refine XK.cut (fun e R H => ∃ (dm : List Dom) (A2 : Option Addr) (c2 : Nat) (rows2 : List (List Value)), 1 ≤ dm.length ∧ dm.length ≤ 4 ∧ Fits Dom.fit dm ∧ Rows DomR 3 dm rows2 ∧ e = [(6, .pointer (some ⟨g4, 0, none⟩)), (4, .slice (some ⟨g2, 0, none⟩) 120 120), (2, .pointer (some ⟨g1, 0, none⟩))] ∧ R = [q, all w] ∧ H = [HP.blk g4 50 [.slice A1 cs.length c1, .slice A2 dm.length c2, .slice none 0 0, .slice none 0 0], HP.own 61 3 (.slice A2 dm.length c2) dm.length rows2.flatten, HP.own 65 6 (.slice A1 cs.length c1) cs.length rows1.flatten, HP.blk g2 3 (intCells ds), HP.blk g1 50 [.slice none 0 0, .slice none 0 0, .slice none 0 0, .slice none 0 0]]) ?_ ?_
  ·
    refine XK.seq ?_

    refine XK.region ?_
    refine xk_assign rfl (by decide) ?_
    refine XK.nilN ?_
    refine XK.nilrow 61 3 ?_
    refine XK.weak [1, 0, 2, 3, 4] rfl (by decide) (fun _ h => h) ?_
    refine XK.envS [(11, .int .i64 0), (6, .pointer (some ⟨g4, 0, none⟩)), (4, .slice (some ⟨g2, 0, none⟩) 120 120), (2, .pointer (some ⟨g1, 0, none⟩))] ?_
    refine XK.block ?_
    refine XK.loop (fun m e R H => ∃ (dm : List Dom) (A2 : Option Addr) (c2 : Nat) (rows2 : List (List Value)), (dm.length : Int) ≤ 1 + dv ds 2 % 4 ∧ m = 5 - dm.length ∧ Fits Dom.fit dm ∧ Rows DomR 3 dm rows2 ∧ e = [(11, .int .i64 dm.length), (6, .pointer (some ⟨g4, 0, none⟩)), (4, .slice (some ⟨g2, 0, none⟩) 120 120), (2, .pointer (some ⟨g1, 0, none⟩))] ∧ R = [q, all w] ∧ H = [HP.blk g4 50 [.slice A1 cs.length c1, .slice A2 dm.length c2, .slice none 0 0, .slice none 0 0], HP.own 61 3 (.slice A2 dm.length c2) dm.length rows2.flatten, HP.own 65 6 (.slice A1 cs.length c1) cs.length rows1.flatten, HP.blk g2 3 (intCells ds), HP.blk g1 50 [.slice none 0 0, .slice none 0 0, .slice none 0 0, .slice none 0 0]]) 5 ⟨[], none, 0, [], by simp; omega, rfl, Fits.nil _, trivial, rfl, rfl, rfl⟩ fun m e R H hI => ?_
    obtain ⟨dm, A2, c2, rows2, hk, rfl, hdf, hdr, rfl, rfl, rfl⟩ := hI
    refine XK.seq ?_
    refine XK.seq ?_

    refine XK.region ?_
    refine xk_move rfl (by decide) ?_
    refine xk_move rfl (by decide) ?_
    refine xk_at 2 2 (el := 3) (sz := 1) (by kernel_rfl) (by kernel_rfl) rfl rfl (by rfl) (by omega) (by omega) (by decide) ?_
    refine xk_load (by kernel_rfl) rfl (by first | assumption | exact Rd.blk 0 rfl (dd _ (by omega)) | exact Rd.blk 1 rfl (dd _ (by omega)) | exact Rd.blk 2 rfl (dd _ (by omega)) | exact Rd.blk 3 rfl (dd _ (by omega)) | exact Rd.blk 4 rfl (dd _ (by omega)) | exact Rd.blk 5 rfl (dd _ (by omega)) | exact Rd.blk 6 rfl (dd _ (by omega)) | exact Rd.blk 7 rfl (dd _ (by omega)) | exact Rd.blk 8 rfl (dd _ (by omega)) | exact Rd.blk 9 rfl (dd _ (by omega)) | exact Rd.blk 0 rfl rfl | exact Rd.blk 1 rfl rfl | exact Rd.blk 2 rfl rfl | exact Rd.blk 3 rfl rfl | exact Rd.blk 4 rfl rfl | exact Rd.blk 5 rfl rfl | exact Rd.blk 6 rfl rfl | exact Rd.blk 7 rfl rfl | exact Rd.blk 8 rfl rfl | exact Rd.blk 9 rfl rfl) (by decide) ?_
    refine xk_rem rfl rfl (by omega) (rem_in (by omega)) (by decide) ?_
    refine xk_add rfl rfl (wrap_in (by omega)) (by decide) ?_
    refine xk_lss rfl rfl (by decide) ?_
    refine XK.nilN ?_
    refine XK.if_ rfl (fun h => ?_) (fun h => ?_)
    ·
      refine XK.skip ?_
      refine XK.norm ?_
      refine XK.seq ?_
      refine XK.block ?_
      refine XK.seq ?_

      have hk2 : dm.length < 4 := by omega
      have p1 := hd.bd (40 + dm.length)
      have p2 := hd.bd (44 + dm.length)
      refine XK.draw 16 (by kernel_rfl) (by kernel_rfl) ?_
      refine XA.dA 0 rfl rfl rfl (does_move rfl) ?_
      refine XA.dA 1 rfl rfl rfl (does_move rfl) ?_
      refine XA.dA 2 rfl rfl rfl (does_add rfl rfl (wrap_in (by omega))) ?_
      refine XA.dA 3 rfl rfl rfl (does_at (40 + dm.length) (40 + dm.length) (el := 3) (sz := 1) (by kernel_rfl) (by kernel_rfl) rfl rfl (by omega) (by omega) (by omega)) ?_
      refine XA.dA 4 rfl rfl rfl (does_load (by kernel_rfl) rfl (by first | assumption | exact Rd.blk 0 rfl (dd _ (by omega)) | exact Rd.blk 1 rfl (dd _ (by omega)) | exact Rd.blk 2 rfl (dd _ (by omega)) | exact Rd.blk 3 rfl (dd _ (by omega)) | exact Rd.blk 4 rfl (dd _ (by omega)) | exact Rd.blk 5 rfl (dd _ (by omega)) | exact Rd.blk 6 rfl (dd _ (by omega)) | exact Rd.blk 7 rfl (dd _ (by omega)) | exact Rd.blk 8 rfl (dd _ (by omega)) | exact Rd.blk 9 rfl (dd _ (by omega)) | exact Rd.blk 0 rfl rfl | exact Rd.blk 1 rfl rfl | exact Rd.blk 2 rfl rfl | exact Rd.blk 3 rfl rfl | exact Rd.blk 4 rfl rfl | exact Rd.blk 5 rfl rfl | exact Rd.blk 6 rfl rfl | exact Rd.blk 7 rfl rfl | exact Rd.blk 8 rfl rfl | exact Rd.blk 9 rfl rfl)) ?_
      refine XA.dA 5 rfl rfl rfl (does_rem rfl rfl (by omega) (rem_in (by omega))) ?_
      refine XA.dA 6 rfl rfl rfl (does_move rfl) ?_
      refine XA.dA 7 rfl rfl rfl (does_move rfl) ?_
      refine XA.dA 8 rfl rfl rfl (does_add rfl rfl (wrap_in (by omega))) ?_
      refine XA.dA 9 rfl rfl rfl (does_at (40 + dm.length) (40 + dm.length) (el := 3) (sz := 1) (by kernel_rfl) (by kernel_rfl) rfl rfl (by omega) (by omega) (by omega)) ?_
      refine XA.dA 10 rfl rfl rfl (does_load (by kernel_rfl) rfl (by first | assumption | exact Rd.blk 0 rfl (dd _ (by omega)) | exact Rd.blk 1 rfl (dd _ (by omega)) | exact Rd.blk 2 rfl (dd _ (by omega)) | exact Rd.blk 3 rfl (dd _ (by omega)) | exact Rd.blk 4 rfl (dd _ (by omega)) | exact Rd.blk 5 rfl (dd _ (by omega)) | exact Rd.blk 6 rfl (dd _ (by omega)) | exact Rd.blk 7 rfl (dd _ (by omega)) | exact Rd.blk 8 rfl (dd _ (by omega)) | exact Rd.blk 9 rfl (dd _ (by omega)) | exact Rd.blk 0 rfl rfl | exact Rd.blk 1 rfl rfl | exact Rd.blk 2 rfl rfl | exact Rd.blk 3 rfl rfl | exact Rd.blk 4 rfl rfl | exact Rd.blk 5 rfl rfl | exact Rd.blk 6 rfl rfl | exact Rd.blk 7 rfl rfl | exact Rd.blk 8 rfl rfl | exact Rd.blk 9 rfl rfl)) ?_
      refine XA.dA 11 rfl rfl rfl (does_quo rfl rfl (by omega) (quo_in (by omega) (by omega) (by omega))) ?_
      refine XA.dA 12 rfl rfl rfl (does_rem rfl rfl (by omega) (rem_in (by omega))) ?_
      refine XA.dA 13 rfl rfl rfl (does_eql rfl rfl) ?_
      refine XA.dA 14 rfl rfl rfl (does_buildS (zs := [.int .i64 0, .int .i64 0, .bool false]) (L := [(0, 1), (1, 1), (2, 1)]) (zeroB_of (by kernel_rfl)) (by kernel_rfl) rfl (by simp [fillL, setN, Value.cells]; rfl)) ?_
      refine XA.next 15 rfl (by kernel_rfl) ?_
      refine xk_alloc (cs := [.int .i64 0, .int .i64 0, .bool false]) (zeroB_of (by kernel_rfl)) (by decide) fun g9 => ?_
      refine XA.bk ?_
      refine XA.next 16 rfl (by kernel_rfl) ?_
      (first | (refine xk_storeN 0 rfl rfl rfl (by kernel_rfl) (by simp [Value.cells, Value.oneCell']) (by simp [Value.cells]) ?_) | (refine xk_storeN 1 rfl rfl rfl (by kernel_rfl) (by simp [Value.cells, Value.oneCell']) (by simp [Value.cells]) ?_) | (refine xk_storeN 2 rfl rfl rfl (by kernel_rfl) (by simp [Value.cells, Value.oneCell']) (by simp [Value.cells]) ?_) | (refine xk_storeN 3 rfl rfl rfl (by kernel_rfl) (by simp [Value.cells, Value.oneCell']) (by simp [Value.cells]) ?_) | (refine xk_storeN 4 rfl rfl rfl (by kernel_rfl) (by simp [Value.cells, Value.oneCell']) (by simp [Value.cells]) ?_) | (refine xk_storeN 5 rfl rfl rfl (by kernel_rfl) (by simp [Value.cells, Value.oneCell']) (by simp [Value.cells]) ?_) | (refine xk_storeN 6 rfl rfl rfl (by kernel_rfl) (by simp [Value.cells, Value.oneCell']) (by simp [Value.cells]) ?_) | (refine xk_storeN 7 rfl rfl rfl (by kernel_rfl) (by simp [Value.cells, Value.oneCell']) (by simp [Value.cells]) ?_) | (refine xk_storeN 8 rfl rfl rfl (by kernel_rfl) (by simp [Value.cells, Value.oneCell']) (by simp [Value.cells]) ?_)); simp only [putN, Value.cells, List.set, List.take, List.drop, List.nil_append, List.append_nil, List.length_cons, List.length_nil, List.cons_append, Nat.reduceAdd]
      refine XA.bt ?_
      refine XA.done (by kernel_rfl) ?_
      refine XK.norm ?_
      refine XK.cut (fun e R H => ∃ ab : Int, (ab = -1 ∨ (0 ≤ ab ∧ ab < dm.length)) ∧ e = [(12, .pointer (some ⟨g9, 0, none⟩)), (11, .int .i64 dm.length), (6, .pointer (some ⟨g4, 0, none⟩)), (4, .slice (some ⟨g2, 0, none⟩) 120 120), (2, .pointer (some ⟨g1, 0, none⟩))] ∧ R = [q, all w] ∧ H = [HP.blk g9 61 [.int .i64 ab, .int .i64 (dv ds (40 + dm.length) % 4), .bool (decide (dv ds (40 + dm.length) / 4 % 2 = 1))], HP.blk g4 50 [.slice A1 cs.length c1, .slice A2 dm.length c2, .slice none 0 0, .slice none 0 0], HP.own 61 3 (.slice A2 dm.length c2) dm.length rows2.flatten, HP.own 65 6 (.slice A1 cs.length c1) cs.length rows1.flatten, HP.blk g2 3 (intCells ds), HP.blk g1 50 [.slice none 0 0, .slice none 0 0, .slice none 0 0, .slice none 0 0]]) ?_ ?_
      ·
        refine XK.seq ?_

        refine XK.region ?_
        refine xk_move rfl (by decide) ?_
        refine xk_gtr rfl rfl (by decide) ?_
        refine xk_move rfl (by decide) ?_
        refine xk_split (t := 172) rfl (fun hg => ?_) (fun hg => ?_)
        ·
          refine xk_guardT rfl rfl ?_; refine xk_move rfl (by decide) ?_
          refine xk_guardT rfl rfl ?_; refine xk_move rfl (by decide) ?_
          refine xk_guardT rfl rfl ?_; refine xk_add rfl rfl (wrap_in (by omega)) (by decide) ?_
          refine xk_guardT rfl rfl ?_; refine xk_at (44 + dm.length) (44 + dm.length) (el := 3) (sz := 1) (by kernel_rfl) (by kernel_rfl) rfl rfl (by omega) (by omega) (by omega) (by decide) ?_
          refine xk_guardT rfl rfl ?_; refine xk_load (by kernel_rfl) rfl (by first | assumption | exact Rd.blk 0 rfl (dd _ (by omega)) | exact Rd.blk 1 rfl (dd _ (by omega)) | exact Rd.blk 2 rfl (dd _ (by omega)) | exact Rd.blk 3 rfl (dd _ (by omega)) | exact Rd.blk 4 rfl (dd _ (by omega)) | exact Rd.blk 5 rfl (dd _ (by omega)) | exact Rd.blk 6 rfl (dd _ (by omega)) | exact Rd.blk 7 rfl (dd _ (by omega)) | exact Rd.blk 8 rfl (dd _ (by omega)) | exact Rd.blk 9 rfl (dd _ (by omega)) | exact Rd.blk 0 rfl rfl | exact Rd.blk 1 rfl rfl | exact Rd.blk 2 rfl rfl | exact Rd.blk 3 rfl rfl | exact Rd.blk 4 rfl rfl | exact Rd.blk 5 rfl rfl | exact Rd.blk 6 rfl rfl | exact Rd.blk 7 rfl rfl | exact Rd.blk 8 rfl rfl | exact Rd.blk 9 rfl rfl) (by decide) ?_
          refine xk_guardT rfl rfl ?_; refine xk_rem rfl rfl (by omega) (rem_in (by omega)) (by decide) ?_
          refine xk_guardT rfl rfl ?_; refine xk_gtr rfl rfl (by decide) ?_
          (first | refine xk_pickT rfl rfl (by decide) ?_ | refine xk_pickF rfl rfl (by decide) ?_)
          refine XK.nilN ?_
          refine XK.if_ rfl (fun h => ?_) (fun h => ?_)
          ·

            refine XK.region ?_
            refine xk_move rfl (by decide) ?_
            refine xk_move rfl (by decide) ?_
            refine xk_add rfl rfl (wrap_in (by omega)) (by decide) ?_
            refine xk_at (44 + dm.length) (44 + dm.length) (el := 3) (sz := 1) (by kernel_rfl) (by kernel_rfl) rfl rfl (by omega) (by omega) (by omega) (by decide) ?_
            refine xk_load (by kernel_rfl) rfl (by first | assumption | exact Rd.blk 0 rfl (dd _ (by omega)) | exact Rd.blk 1 rfl (dd _ (by omega)) | exact Rd.blk 2 rfl (dd _ (by omega)) | exact Rd.blk 3 rfl (dd _ (by omega)) | exact Rd.blk 4 rfl (dd _ (by omega)) | exact Rd.blk 5 rfl (dd _ (by omega)) | exact Rd.blk 6 rfl (dd _ (by omega)) | exact Rd.blk 7 rfl (dd _ (by omega)) | exact Rd.blk 8 rfl (dd _ (by omega)) | exact Rd.blk 9 rfl (dd _ (by omega)) | exact Rd.blk 0 rfl rfl | exact Rd.blk 1 rfl rfl | exact Rd.blk 2 rfl rfl | exact Rd.blk 3 rfl rfl | exact Rd.blk 4 rfl rfl | exact Rd.blk 5 rfl rfl | exact Rd.blk 6 rfl rfl | exact Rd.blk 7 rfl rfl | exact Rd.blk 8 rfl rfl | exact Rd.blk 9 rfl rfl) (by decide) ?_
            refine xk_quo rfl rfl (by omega) (quo_in (by omega) (by omega) (by omega)) (by decide) ?_
            refine xk_move rfl (by decide) ?_
            refine xk_rem rfl rfl (by omega) (rem_in (by omega)) (by decide) ?_
            refine xk_field (off := 0) (by kernel_rfl) rfl (by decide) ?_
            refine xk_st rfl rfl ?_; dsimp only [List.set]
            refine XK.nilN ?_
            exact XK.envS [(12, .pointer (some ⟨g9, 0, none⟩)), (11, .int .i64 dm.length), (6, .pointer (some ⟨g4, 0, none⟩)), (4, .slice (some ⟨g2, 0, none⟩) 120 120), (2, .pointer (some ⟨g1, 0, none⟩))] (XK.meet ⟨dv ds (44 + dm.length) / 3 % dm.length, .inr (emod_bd _ hg), rfl, rfl, rfl⟩)
          ·
            refine XK.skip ?_
            refine XK.norm ?_
            exact XK.envS [(12, .pointer (some ⟨g9, 0, none⟩)), (11, .int .i64 dm.length), (6, .pointer (some ⟨g4, 0, none⟩)), (4, .slice (some ⟨g2, 0, none⟩) 120 120), (2, .pointer (some ⟨g1, 0, none⟩))] (XK.meet ⟨-1, .inl rfl, rfl, rfl, rfl⟩)
        ·
          refine xk_guardF rfl rfl rfl (by decide) ?_
          refine xk_guardF rfl rfl rfl (by decide) ?_
          refine xk_guardF rfl rfl rfl (by decide) ?_
          refine xk_guardF rfl rfl rfl (by decide) ?_
          refine xk_guardF rfl rfl rfl (by decide) ?_
          refine xk_guardF rfl rfl rfl (by decide) ?_
          refine xk_guardF rfl rfl rfl (by decide) ?_
          (first | refine xk_pickT rfl rfl (by decide) ?_ | refine xk_pickF rfl rfl (by decide) ?_)
          refine XK.nilN ?_
          refine XK.cond rfl (fun h => by cases h) (fun _ => ?_)
          refine XK.skip ?_
          refine XK.norm ?_
          exact XK.envS [(12, .pointer (some ⟨g9, 0, none⟩)), (11, .int .i64 dm.length), (6, .pointer (some ⟨g4, 0, none⟩)), (4, .slice (some ⟨g2, 0, none⟩) 120 120), (2, .pointer (some ⟨g1, 0, none⟩))] (XK.meet ⟨-1, .inl rfl, rfl, rfl, rfl⟩)
      rintro _ _ _ ⟨ab, hab, rfl, rfl, rfl⟩

      refine XK.region ?_
      refine xk_field (off := 1) (by kernel_rfl) rfl (by decide) ?_
      refine xk_load (by kernel_rfl) rfl (by first | assumption | exact Rd.blk 0 rfl (dd _ (by omega)) | exact Rd.blk 1 rfl (dd _ (by omega)) | exact Rd.blk 2 rfl (dd _ (by omega)) | exact Rd.blk 3 rfl (dd _ (by omega)) | exact Rd.blk 4 rfl (dd _ (by omega)) | exact Rd.blk 5 rfl (dd _ (by omega)) | exact Rd.blk 6 rfl (dd _ (by omega)) | exact Rd.blk 7 rfl (dd _ (by omega)) | exact Rd.blk 8 rfl (dd _ (by omega)) | exact Rd.blk 9 rfl (dd _ (by omega)) | exact Rd.blk 0 rfl rfl | exact Rd.blk 1 rfl rfl | exact Rd.blk 2 rfl rfl | exact Rd.blk 3 rfl rfl | exact Rd.blk 4 rfl rfl | exact Rd.blk 5 rfl rfl | exact Rd.blk 6 rfl rfl | exact Rd.blk 7 rfl rfl | exact Rd.blk 8 rfl rfl | exact Rd.blk 9 rfl rfl) (by decide) ?_
      refine xk_ldN 3 rfl ?_
      refine xk_slice (el := 61) (sz := 3) (zs := [.int .i64 0, .int .i64 0, .bool false]) (by kernel_rfl) (zeroB_of (by kernel_rfl)) (by kernel_rfl) rfl (by decide) (by decide) rfl (by simp [fillL, setN, Value.cells, List.range_succ, List.set]; rfl) (by decide) fun g10 => ?_
      refine xk_appendT 3 3 24 1 (n' := dm.length + 1) (el := 61) (by kernel_rfl) (by kernel_rfl) (by decide) rfl rfl rfl (sl_blk 0 rfl rfl) (by simp [Value.oneCell']) rfl (by omega) (by omega) (by decide) fun A2n c2n => ?_
      refine xk_field (off := 1) (by kernel_rfl) rfl (by decide) ?_
      refine xk_st rfl rfl ?_; dsimp only [List.set]
      refine XK.nilN ?_

      refine XK.region ?_
      refine xk_move rfl (by decide) ?_
      refine xk_add rfl rfl (wrap_in (by omega)) (by decide) ?_
      refine xk_assign rfl (by decide) ?_
      refine XK.nilN ?_
      exact XK.weak [2, 3, 4, 5, 6] rfl (by decide) (fun _ h => h) (XK.envS [(11, .int .i64 (dm.length + 1)), (6, .pointer (some ⟨g4, 0, none⟩)), (4, .slice (some ⟨g2, 0, none⟩) 120 120), (2, .pointer (some ⟨g1, 0, none⟩))] (XK.round (5 - (dm.length + 1)) (by omega) ⟨dm ++ [⟨ab, dv ds (40 + dm.length) % 4, decide (dv ds (40 + dm.length) / 4 % 2 = 1)⟩], A2n, c2n, rows2 ++ [_], by simp; omega, by simp, hdf.snoc ⟨hab, by dsimp only; omega, by dsimp only; omega⟩, hdr.snoc (r := [.int .i64 ab, .int .i64 (dv ds (40 + dm.length) % 4), .bool (decide (dv ds (40 + dm.length) / 4 % 2 = 1))]) rfl rfl, by simp, rfl, by simp⟩))
    ·
      refine XK.exit ?_
      refine XK.norm ?_
      exact XK.envS [(6, .pointer (some ⟨g4, 0, none⟩)), (4, .slice (some ⟨g2, 0, none⟩) 120 120), (2, .pointer (some ⟨g1, 0, none⟩))] (XK.meet ⟨dm, A2, c2, rows2, by omega, by omega, hdf, hdr, rfl, rfl, rfl⟩)
  rintro _ _ _ ⟨dm, A2, c2, rows2, hd1, hd4, hdf, hdr, rfl, rfl, rfl⟩
  refine XK.cut (fun e R H => ∃ (rs : List Int) (A3 : Option Addr) (c3 : Nat) (rows3 : List (List Value)), 1 ≤ rs.length ∧ rs.length ≤ 3 ∧ (∀ r ∈ rs, 0 ≤ r ∧ r ≤ 3) ∧ Rows RstR 1 rs rows3 ∧ e = [(6, .pointer (some ⟨g4, 0, none⟩)), (4, .slice (some ⟨g2, 0, none⟩) 120 120), (2, .pointer (some ⟨g1, 0, none⟩))] ∧ R = [q, all w] ∧ H = [HP.blk g4 50 [.slice A1 cs.length c1, .slice A2 dm.length c2, .slice A3 rs.length c3, .slice none 0 0], HP.own 102 1 (.slice A3 rs.length c3) rs.length rows3.flatten, HP.own 61 3 (.slice A2 dm.length c2) dm.length rows2.flatten, HP.own 65 6 (.slice A1 cs.length c1) cs.length rows1.flatten, HP.blk g2 3 (intCells ds), HP.blk g1 50 [.slice none 0 0, .slice none 0 0, .slice none 0 0, .slice none 0 0]]) ?_ ?_
  ·
    refine XK.seq ?_

    refine XK.region ?_
    refine xk_assign rfl (by decide) ?_
    refine XK.nilN ?_
    refine XK.nilrow 102 1 ?_
    refine XK.weak [1, 0, 2, 3, 4, 5] rfl (by decide) (fun _ h => h) ?_
    refine XK.envS [(13, .int .i64 0), (6, .pointer (some ⟨g4, 0, none⟩)), (4, .slice (some ⟨g2, 0, none⟩) 120 120), (2, .pointer (some ⟨g1, 0, none⟩))] ?_
    refine XK.block ?_
    refine XK.loop (fun m e R H => ∃ (rs : List Int) (A3 : Option Addr) (c3 : Nat) (rows3 : List (List Value)), (rs.length : Int) ≤ 1 + dv ds 3 % 3 ∧ m = 4 - rs.length ∧ (∀ r ∈ rs, 0 ≤ r ∧ r ≤ 3) ∧ Rows RstR 1 rs rows3 ∧ e = [(13, .int .i64 rs.length), (6, .pointer (some ⟨g4, 0, none⟩)), (4, .slice (some ⟨g2, 0, none⟩) 120 120), (2, .pointer (some ⟨g1, 0, none⟩))] ∧ R = [q, all w] ∧ H = [HP.blk g4 50 [.slice A1 cs.length c1, .slice A2 dm.length c2, .slice A3 rs.length c3, .slice none 0 0], HP.own 102 1 (.slice A3 rs.length c3) rs.length rows3.flatten, HP.own 61 3 (.slice A2 dm.length c2) dm.length rows2.flatten, HP.own 65 6 (.slice A1 cs.length c1) cs.length rows1.flatten, HP.blk g2 3 (intCells ds), HP.blk g1 50 [.slice none 0 0, .slice none 0 0, .slice none 0 0, .slice none 0 0]]) 4 ⟨[], none, 0, [], by simp; omega, rfl, by simp, trivial, rfl, rfl, rfl⟩ fun m e R H hI => ?_
    obtain ⟨rs, A3, c3, rows3, hk, rfl, hrf, hrr, rfl, rfl, rfl⟩ := hI
    refine XK.seq ?_
    refine XK.seq ?_

    refine XK.region ?_
    refine xk_move rfl (by decide) ?_
    refine xk_move rfl (by decide) ?_
    refine xk_at 3 3 (el := 3) (sz := 1) (by kernel_rfl) (by kernel_rfl) rfl rfl (by rfl) (by omega) (by omega) (by decide) ?_
    refine xk_load (by kernel_rfl) rfl (by first | assumption | exact Rd.blk 0 rfl (dd _ (by omega)) | exact Rd.blk 1 rfl (dd _ (by omega)) | exact Rd.blk 2 rfl (dd _ (by omega)) | exact Rd.blk 3 rfl (dd _ (by omega)) | exact Rd.blk 4 rfl (dd _ (by omega)) | exact Rd.blk 5 rfl (dd _ (by omega)) | exact Rd.blk 6 rfl (dd _ (by omega)) | exact Rd.blk 7 rfl (dd _ (by omega)) | exact Rd.blk 8 rfl (dd _ (by omega)) | exact Rd.blk 9 rfl (dd _ (by omega)) | exact Rd.blk 0 rfl rfl | exact Rd.blk 1 rfl rfl | exact Rd.blk 2 rfl rfl | exact Rd.blk 3 rfl rfl | exact Rd.blk 4 rfl rfl | exact Rd.blk 5 rfl rfl | exact Rd.blk 6 rfl rfl | exact Rd.blk 7 rfl rfl | exact Rd.blk 8 rfl rfl | exact Rd.blk 9 rfl rfl) (by decide) ?_
    refine xk_rem rfl rfl (by omega) (rem_in (by omega)) (by decide) ?_
    refine xk_add rfl rfl (wrap_in (by omega)) (by decide) ?_
    refine xk_lss rfl rfl (by decide) ?_
    refine XK.nilN ?_
    refine XK.if_ rfl (fun h => ?_) (fun h => ?_)
    ·
      refine XK.skip ?_
      refine XK.norm ?_
      refine XK.seq ?_
      refine XK.block ?_

      have hk2 : rs.length < 3 := by omega
      have p1 := hd.bd (50 + rs.length)
      refine XK.draw 10 (by kernel_rfl) (by kernel_rfl) ?_
      refine XA.dA 0 rfl rfl rfl (does_field (off := 2) (by kernel_rfl) rfl) ?_
      refine XA.dA 1 rfl rfl rfl (does_load (by kernel_rfl) rfl (by first | assumption | exact Rd.blk 0 rfl (dd _ (by omega)) | exact Rd.blk 1 rfl (dd _ (by omega)) | exact Rd.blk 2 rfl (dd _ (by omega)) | exact Rd.blk 3 rfl (dd _ (by omega)) | exact Rd.blk 4 rfl (dd _ (by omega)) | exact Rd.blk 5 rfl (dd _ (by omega)) | exact Rd.blk 6 rfl (dd _ (by omega)) | exact Rd.blk 7 rfl (dd _ (by omega)) | exact Rd.blk 8 rfl (dd _ (by omega)) | exact Rd.blk 9 rfl (dd _ (by omega)) | exact Rd.blk 0 rfl rfl | exact Rd.blk 1 rfl rfl | exact Rd.blk 2 rfl rfl | exact Rd.blk 3 rfl rfl | exact Rd.blk 4 rfl rfl | exact Rd.blk 5 rfl rfl | exact Rd.blk 6 rfl rfl | exact Rd.blk 7 rfl rfl | exact Rd.blk 8 rfl rfl | exact Rd.blk 9 rfl rfl)) ?_
      refine XA.dA 2 rfl rfl rfl (does_move rfl) ?_
      refine XA.dA 3 rfl rfl rfl (does_move rfl) ?_
      refine XA.dA 4 rfl rfl rfl (does_add rfl rfl (wrap_in (by omega))) ?_
      refine XA.dA 5 rfl rfl rfl (does_at (50 + rs.length) (50 + rs.length) (el := 3) (sz := 1) (by kernel_rfl) (by kernel_rfl) rfl rfl (by omega) (by omega) (by omega)) ?_
      refine XA.dA 6 rfl rfl rfl (does_load (by kernel_rfl) rfl (by first | assumption | exact Rd.blk 0 rfl (dd _ (by omega)) | exact Rd.blk 1 rfl (dd _ (by omega)) | exact Rd.blk 2 rfl (dd _ (by omega)) | exact Rd.blk 3 rfl (dd _ (by omega)) | exact Rd.blk 4 rfl (dd _ (by omega)) | exact Rd.blk 5 rfl (dd _ (by omega)) | exact Rd.blk 6 rfl (dd _ (by omega)) | exact Rd.blk 7 rfl (dd _ (by omega)) | exact Rd.blk 8 rfl (dd _ (by omega)) | exact Rd.blk 9 rfl (dd _ (by omega)) | exact Rd.blk 0 rfl rfl | exact Rd.blk 1 rfl rfl | exact Rd.blk 2 rfl rfl | exact Rd.blk 3 rfl rfl | exact Rd.blk 4 rfl rfl | exact Rd.blk 5 rfl rfl | exact Rd.blk 6 rfl rfl | exact Rd.blk 7 rfl rfl | exact Rd.blk 8 rfl rfl | exact Rd.blk 9 rfl rfl)) ?_
      refine XA.dA 7 rfl rfl rfl (does_rem rfl rfl (by omega) (rem_in (by omega))) ?_
      refine XA.dA 8 rfl rfl rfl (does_buildS (zs := [.int .i64 0]) (L := [(0, 1)]) (zeroB_of (by kernel_rfl)) (by kernel_rfl) rfl (by simp [fillL, setN, Value.cells]; rfl)) ?_
      refine XA.next 9 rfl (by kernel_rfl) ?_
      refine xk_slice (el := 102) (sz := 1) (zs := [.int .i64 0]) (by kernel_rfl) (zeroB_of (by kernel_rfl)) (by kernel_rfl) rfl (by decide) (by decide) rfl (by simp [fillL, setN, Value.cells, List.range_succ, List.set]; rfl) (by decide) fun g11 => ?_
      refine XA.bk ?_
      refine XA.next 10 rfl (by kernel_rfl) ?_
      refine xk_appendT 2 1 8 1 (n' := rs.length + 1) (el := 102) (by kernel_rfl) (by kernel_rfl) (by decide) rfl rfl rfl (sl_blk 0 rfl rfl) (by simp [Value.oneCell']) rfl (by omega) (by omega) (by decide) fun A3n c3n => ?_
      refine XA.bt ?_
      refine XA.next 11 rfl (by kernel_rfl) ?_
      refine xk_field (off := 2) (by kernel_rfl) rfl (by decide) ?_
      refine XA.bt ?_
      refine XA.next 12 rfl (by kernel_rfl) ?_
      refine xk_st rfl rfl ?_; dsimp only [List.set]
      refine XA.bt ?_
      refine XA.done (by kernel_rfl) ?_
      refine XK.norm ?_

      refine XK.region ?_
      refine xk_move rfl (by decide) ?_
      refine xk_add rfl rfl (wrap_in (by omega)) (by decide) ?_
      refine xk_assign rfl (by decide) ?_
      refine XK.nilN ?_
      exact XK.weak [1, 2, 3, 4, 5, 6] rfl (by decide) (fun _ h => h) (XK.envS [(13, .int .i64 (rs.length + 1)), (6, .pointer (some ⟨g4, 0, none⟩)), (4, .slice (some ⟨g2, 0, none⟩) 120 120), (2, .pointer (some ⟨g1, 0, none⟩))] (XK.round (4 - (rs.length + 1)) (by omega) ⟨rs ++ [dv ds (50 + rs.length) % 4], A3n, c3n, rows3 ++ [_], by simp; omega, by simp, by intro r hr; simp at hr; rcases hr with hr | hr; exact hrf r hr; omega, hrr.snoc (r := [.int .i64 (dv ds (50 + rs.length) % 4)]) rfl rfl, by simp, rfl, by simp⟩))
    ·
      refine XK.exit ?_
      refine XK.norm ?_
      exact XK.envS [(6, .pointer (some ⟨g4, 0, none⟩)), (4, .slice (some ⟨g2, 0, none⟩) 120 120), (2, .pointer (some ⟨g1, 0, none⟩))] (XK.meet ⟨rs, A3, c3, rows3, by omega, by omega, hrf, hrr, rfl, rfl, rfl⟩)
  rintro _ _ _ ⟨rs, A3, c3, rows3, hr1, hr3, hrf, hrr, rfl, rfl, rfl⟩
  refine XK.cut (fun e R H => ∃ (vs : List Dev) (A4 : Option Addr) (c4 : Nat) (q : Piece) (rows4 : List (List Value)), 1 ≤ vs.length ∧ vs.length ≤ 4 ∧ Rows (ClkR (slq q)) 6 cs rows1 ∧ Fits (Dev.fit cs.length dm.length rs.length) vs ∧ Rows (DevR (slq q)) 6 vs rows4 ∧ Fresh w q ∧ e = [(6, .pointer (some ⟨g4, 0, none⟩)), (4, .slice (some ⟨g2, 0, none⟩) 120 120), (2, .pointer (some ⟨g1, 0, none⟩))] ∧ R = [q, all w] ∧ H = [HP.blk g4 50 [.slice A1 cs.length c1, .slice A2 dm.length c2, .slice A3 rs.length c3, .slice A4 vs.length c4], HP.own 83 6 (.slice A4 vs.length c4) vs.length rows4.flatten, HP.own 102 1 (.slice A3 rs.length c3) rs.length rows3.flatten, HP.own 61 3 (.slice A2 dm.length c2) dm.length rows2.flatten, HP.own 65 6 (.slice A1 cs.length c1) cs.length rows1.flatten, HP.blk g2 3 (intCells ds), HP.blk g1 50 [.slice none 0 0, .slice none 0 0, .slice none 0 0, .slice none 0 0]]) ?_ ?_
  ·
    refine XK.seq ?_

    refine XK.region ?_
    refine xk_assign rfl (by decide) ?_
    refine XK.nilN ?_
    refine XK.nilrow 83 6 ?_
    refine XK.weak [1, 0, 2, 3, 4, 5, 6] rfl (by decide) (fun _ h => h) ?_
    refine XK.envS [(14, .int .i64 0), (6, .pointer (some ⟨g4, 0, none⟩)), (4, .slice (some ⟨g2, 0, none⟩) 120 120), (2, .pointer (some ⟨g1, 0, none⟩))] ?_
    refine XK.block ?_
    refine XK.loop (fun m e R H => ∃ (vs : List Dev) (A4 : Option Addr) (c4 : Nat) (q : Piece) (rows4 : List (List Value)), (vs.length : Int) ≤ 1 + dv ds 4 % 4 ∧ m = 5 - vs.length ∧ Rows (ClkR (slq q)) 6 cs rows1 ∧ Fits (Dev.fit cs.length dm.length rs.length) vs ∧ Rows (DevR (slq q)) 6 vs rows4 ∧ Fresh w q ∧ e = [(14, .int .i64 vs.length), (6, .pointer (some ⟨g4, 0, none⟩)), (4, .slice (some ⟨g2, 0, none⟩) 120 120), (2, .pointer (some ⟨g1, 0, none⟩))] ∧ R = [q, all w] ∧ H = [HP.blk g4 50 [.slice A1 cs.length c1, .slice A2 dm.length c2, .slice A3 rs.length c3, .slice A4 vs.length c4], HP.own 83 6 (.slice A4 vs.length c4) vs.length rows4.flatten, HP.own 102 1 (.slice A3 rs.length c3) rs.length rows3.flatten, HP.own 61 3 (.slice A2 dm.length c2) dm.length rows2.flatten, HP.own 65 6 (.slice A1 cs.length c1) cs.length rows1.flatten, HP.blk g2 3 (intCells ds), HP.blk g1 50 [.slice none 0 0, .slice none 0 0, .slice none 0 0, .slice none 0 0]]) 5 ⟨[], none, 0, q, [], by simp; omega, rfl, hcr, Fits.nil _, trivial, hq, rfl, rfl, rfl⟩ fun m e R H hI => ?_
    obtain ⟨vs, A4, c4, q, rows4, hk, rfl, hcr, hvf, hvr, hq, rfl, rfl, rfl⟩ := hI
    refine XK.seq ?_
    refine XK.seq ?_

    refine XK.region ?_
    refine xk_move rfl (by decide) ?_
    refine xk_move rfl (by decide) ?_
    refine xk_at 4 4 (el := 3) (sz := 1) (by kernel_rfl) (by kernel_rfl) rfl rfl (by rfl) (by omega) (by omega) (by decide) ?_
    refine xk_load (by kernel_rfl) rfl (by first | assumption | exact Rd.blk 0 rfl (dd _ (by omega)) | exact Rd.blk 1 rfl (dd _ (by omega)) | exact Rd.blk 2 rfl (dd _ (by omega)) | exact Rd.blk 3 rfl (dd _ (by omega)) | exact Rd.blk 4 rfl (dd _ (by omega)) | exact Rd.blk 5 rfl (dd _ (by omega)) | exact Rd.blk 6 rfl (dd _ (by omega)) | exact Rd.blk 7 rfl (dd _ (by omega)) | exact Rd.blk 8 rfl (dd _ (by omega)) | exact Rd.blk 9 rfl (dd _ (by omega)) | exact Rd.blk 0 rfl rfl | exact Rd.blk 1 rfl rfl | exact Rd.blk 2 rfl rfl | exact Rd.blk 3 rfl rfl | exact Rd.blk 4 rfl rfl | exact Rd.blk 5 rfl rfl | exact Rd.blk 6 rfl rfl | exact Rd.blk 7 rfl rfl | exact Rd.blk 8 rfl rfl | exact Rd.blk 9 rfl rfl) (by decide) ?_
    refine xk_rem rfl rfl (by omega) (rem_in (by omega)) (by decide) ?_
    refine xk_add rfl rfl (wrap_in (by omega)) (by decide) ?_
    refine xk_lss rfl rfl (by decide) ?_
    refine XK.nilN ?_
    refine XK.if_ rfl (fun h => ?_) (fun h => ?_)
    ·
      refine XK.skip ?_
      refine XK.norm ?_
      refine XK.seq ?_
      refine XK.block ?_
      refine XK.seq ?_
      have hk2 : vs.length < 4 := by omega
      have p0 := hd.bd (60 + 12 * vs.length)
      have p1 := hd.bd (61 + 12 * vs.length)
      have p2 := hd.bd (62 + 12 * vs.length)
      have p3 := hd.bd (63 + 12 * vs.length)
      have p4 := hd.bd (64 + 12 * vs.length)
      have p9 := hd.bd (69 + 12 * vs.length)
      have p10 := hd.bd (70 + 12 * vs.length)
      have p11 := hd.bd (71 + 12 * vs.length)
      have q0 := emod_bd (dv ds (60 + 12 * vs.length)) (n := (cs.length : Int)) (by omega)
      have q1 := emod_bd (dv ds (61 + 12 * vs.length)) (n := (dm.length : Int)) (by omega)
      have q2 := emod_bd (dv ds (62 + 12 * vs.length)) (n := (rs.length : Int)) (by omega)

      refine XK.region ?_
      refine xk_move rfl (by decide) ?_
      refine xk_mul rfl rfl (wrap_in (by omega)) (by decide) ?_
      refine xk_add rfl rfl (wrap_in (by omega)) (by decide) ?_
      refine xk_assign rfl (by decide) ?_
      refine XK.nilN ?_
      refine XK.seq ?_

      refine XK.draw 35 (by kernel_rfl) (by kernel_rfl) ?_
      refine XA.dA 0 rfl rfl rfl (does_move rfl) ?_
      refine XA.dA 1 rfl rfl rfl (does_move rfl) ?_
      refine XA.dA 2 rfl rfl rfl (does_at (60 + 12 * vs.length) (60 + 12 * vs.length) (el := 3) (sz := 1) (by kernel_rfl) (by kernel_rfl) rfl rfl (by omega) (by omega) (by omega)) ?_
      refine XA.dA 3 rfl rfl rfl (does_load (by kernel_rfl) rfl (by first | assumption | exact Rd.blk 0 rfl (dd _ (by omega)) | exact Rd.blk 1 rfl (dd _ (by omega)) | exact Rd.blk 2 rfl (dd _ (by omega)) | exact Rd.blk 3 rfl (dd _ (by omega)) | exact Rd.blk 4 rfl (dd _ (by omega)) | exact Rd.blk 5 rfl (dd _ (by omega)) | exact Rd.blk 6 rfl (dd _ (by omega)) | exact Rd.blk 7 rfl (dd _ (by omega)) | exact Rd.blk 8 rfl (dd _ (by omega)) | exact Rd.blk 9 rfl (dd _ (by omega)) | exact Rd.blk 0 rfl rfl | exact Rd.blk 1 rfl rfl | exact Rd.blk 2 rfl rfl | exact Rd.blk 3 rfl rfl | exact Rd.blk 4 rfl rfl | exact Rd.blk 5 rfl rfl | exact Rd.blk 6 rfl rfl | exact Rd.blk 7 rfl rfl | exact Rd.blk 8 rfl rfl | exact Rd.blk 9 rfl rfl)) ?_
      refine XA.dA 4 rfl rfl rfl (does_field (off := 0) (by kernel_rfl) rfl) ?_
      refine XA.dA 5 rfl rfl rfl (does_load (by kernel_rfl) rfl (by first | assumption | exact Rd.blk 0 rfl (dd _ (by omega)) | exact Rd.blk 1 rfl (dd _ (by omega)) | exact Rd.blk 2 rfl (dd _ (by omega)) | exact Rd.blk 3 rfl (dd _ (by omega)) | exact Rd.blk 4 rfl (dd _ (by omega)) | exact Rd.blk 5 rfl (dd _ (by omega)) | exact Rd.blk 6 rfl (dd _ (by omega)) | exact Rd.blk 7 rfl (dd _ (by omega)) | exact Rd.blk 8 rfl (dd _ (by omega)) | exact Rd.blk 9 rfl (dd _ (by omega)) | exact Rd.blk 0 rfl rfl | exact Rd.blk 1 rfl rfl | exact Rd.blk 2 rfl rfl | exact Rd.blk 3 rfl rfl | exact Rd.blk 4 rfl rfl | exact Rd.blk 5 rfl rfl | exact Rd.blk 6 rfl rfl | exact Rd.blk 7 rfl rfl | exact Rd.blk 8 rfl rfl | exact Rd.blk 9 rfl rfl)) ?_
      refine XA.dA 6 rfl rfl rfl (does_len (el := 65) (by kernel_rfl) rfl) ?_
      refine XA.dA 7 rfl rfl rfl (does_rem rfl rfl (by omega) (rem_in (by omega))) ?_
      refine XA.dA 8 rfl rfl rfl (does_move rfl) ?_
      refine XA.dA 9 rfl rfl rfl (does_move rfl) ?_
      refine XA.dA 10 rfl rfl rfl (does_add rfl rfl (wrap_in (by omega))) ?_
      refine XA.dA 11 rfl rfl rfl (does_at (61 + 12 * vs.length) (61 + 12 * vs.length) (el := 3) (sz := 1) (by kernel_rfl) (by kernel_rfl) rfl rfl (by omega) (by omega) (by omega)) ?_
      refine XA.dA 12 rfl rfl rfl (does_load (by kernel_rfl) rfl (by first | assumption | exact Rd.blk 0 rfl (dd _ (by omega)) | exact Rd.blk 1 rfl (dd _ (by omega)) | exact Rd.blk 2 rfl (dd _ (by omega)) | exact Rd.blk 3 rfl (dd _ (by omega)) | exact Rd.blk 4 rfl (dd _ (by omega)) | exact Rd.blk 5 rfl (dd _ (by omega)) | exact Rd.blk 6 rfl (dd _ (by omega)) | exact Rd.blk 7 rfl (dd _ (by omega)) | exact Rd.blk 8 rfl (dd _ (by omega)) | exact Rd.blk 9 rfl (dd _ (by omega)) | exact Rd.blk 0 rfl rfl | exact Rd.blk 1 rfl rfl | exact Rd.blk 2 rfl rfl | exact Rd.blk 3 rfl rfl | exact Rd.blk 4 rfl rfl | exact Rd.blk 5 rfl rfl | exact Rd.blk 6 rfl rfl | exact Rd.blk 7 rfl rfl | exact Rd.blk 8 rfl rfl | exact Rd.blk 9 rfl rfl)) ?_
      refine XA.dA 13 rfl rfl rfl (does_field (off := 1) (by kernel_rfl) rfl) ?_
      refine XA.dA 14 rfl rfl rfl (does_load (by kernel_rfl) rfl (by first | assumption | exact Rd.blk 0 rfl (dd _ (by omega)) | exact Rd.blk 1 rfl (dd _ (by omega)) | exact Rd.blk 2 rfl (dd _ (by omega)) | exact Rd.blk 3 rfl (dd _ (by omega)) | exact Rd.blk 4 rfl (dd _ (by omega)) | exact Rd.blk 5 rfl (dd _ (by omega)) | exact Rd.blk 6 rfl (dd _ (by omega)) | exact Rd.blk 7 rfl (dd _ (by omega)) | exact Rd.blk 8 rfl (dd _ (by omega)) | exact Rd.blk 9 rfl (dd _ (by omega)) | exact Rd.blk 0 rfl rfl | exact Rd.blk 1 rfl rfl | exact Rd.blk 2 rfl rfl | exact Rd.blk 3 rfl rfl | exact Rd.blk 4 rfl rfl | exact Rd.blk 5 rfl rfl | exact Rd.blk 6 rfl rfl | exact Rd.blk 7 rfl rfl | exact Rd.blk 8 rfl rfl | exact Rd.blk 9 rfl rfl)) ?_
      refine XA.dA 15 rfl rfl rfl (does_len (el := 61) (by kernel_rfl) rfl) ?_
      refine XA.dA 16 rfl rfl rfl (does_rem rfl rfl (by omega) (rem_in (by omega))) ?_
      refine XA.dA 17 rfl rfl rfl (does_move rfl) ?_
      refine XA.dA 18 rfl rfl rfl (does_move rfl) ?_
      refine XA.dA 19 rfl rfl rfl (does_add rfl rfl (wrap_in (by omega))) ?_
      refine XA.dA 20 rfl rfl rfl (does_at (62 + 12 * vs.length) (62 + 12 * vs.length) (el := 3) (sz := 1) (by kernel_rfl) (by kernel_rfl) rfl rfl (by omega) (by omega) (by omega)) ?_
      refine XA.dA 21 rfl rfl rfl (does_load (by kernel_rfl) rfl (by first | assumption | exact Rd.blk 0 rfl (dd _ (by omega)) | exact Rd.blk 1 rfl (dd _ (by omega)) | exact Rd.blk 2 rfl (dd _ (by omega)) | exact Rd.blk 3 rfl (dd _ (by omega)) | exact Rd.blk 4 rfl (dd _ (by omega)) | exact Rd.blk 5 rfl (dd _ (by omega)) | exact Rd.blk 6 rfl (dd _ (by omega)) | exact Rd.blk 7 rfl (dd _ (by omega)) | exact Rd.blk 8 rfl (dd _ (by omega)) | exact Rd.blk 9 rfl (dd _ (by omega)) | exact Rd.blk 0 rfl rfl | exact Rd.blk 1 rfl rfl | exact Rd.blk 2 rfl rfl | exact Rd.blk 3 rfl rfl | exact Rd.blk 4 rfl rfl | exact Rd.blk 5 rfl rfl | exact Rd.blk 6 rfl rfl | exact Rd.blk 7 rfl rfl | exact Rd.blk 8 rfl rfl | exact Rd.blk 9 rfl rfl)) ?_
      refine XA.dA 22 rfl rfl rfl (does_field (off := 2) (by kernel_rfl) rfl) ?_
      refine XA.dA 23 rfl rfl rfl (does_load (by kernel_rfl) rfl (by first | assumption | exact Rd.blk 0 rfl (dd _ (by omega)) | exact Rd.blk 1 rfl (dd _ (by omega)) | exact Rd.blk 2 rfl (dd _ (by omega)) | exact Rd.blk 3 rfl (dd _ (by omega)) | exact Rd.blk 4 rfl (dd _ (by omega)) | exact Rd.blk 5 rfl (dd _ (by omega)) | exact Rd.blk 6 rfl (dd _ (by omega)) | exact Rd.blk 7 rfl (dd _ (by omega)) | exact Rd.blk 8 rfl (dd _ (by omega)) | exact Rd.blk 9 rfl (dd _ (by omega)) | exact Rd.blk 0 rfl rfl | exact Rd.blk 1 rfl rfl | exact Rd.blk 2 rfl rfl | exact Rd.blk 3 rfl rfl | exact Rd.blk 4 rfl rfl | exact Rd.blk 5 rfl rfl | exact Rd.blk 6 rfl rfl | exact Rd.blk 7 rfl rfl | exact Rd.blk 8 rfl rfl | exact Rd.blk 9 rfl rfl)) ?_
      refine XA.dA 24 rfl rfl rfl (does_len (el := 102) (by kernel_rfl) rfl) ?_
      refine XA.dA 25 rfl rfl rfl (does_rem rfl rfl (by omega) (rem_in (by omega))) ?_
      refine XA.dA 26 rfl rfl rfl (does_move rfl) ?_
      refine XA.dA 27 rfl rfl rfl (does_move rfl) ?_
      refine XA.dA 28 rfl rfl rfl (does_add rfl rfl (wrap_in (by omega))) ?_
      refine XA.dA 29 rfl rfl rfl (does_at (63 + 12 * vs.length) (63 + 12 * vs.length) (el := 3) (sz := 1) (by kernel_rfl) (by kernel_rfl) rfl rfl (by omega) (by omega) (by omega)) ?_
      refine XA.dA 30 rfl rfl rfl (does_load (by kernel_rfl) rfl (by first | assumption | exact Rd.blk 0 rfl (dd _ (by omega)) | exact Rd.blk 1 rfl (dd _ (by omega)) | exact Rd.blk 2 rfl (dd _ (by omega)) | exact Rd.blk 3 rfl (dd _ (by omega)) | exact Rd.blk 4 rfl (dd _ (by omega)) | exact Rd.blk 5 rfl (dd _ (by omega)) | exact Rd.blk 6 rfl (dd _ (by omega)) | exact Rd.blk 7 rfl (dd _ (by omega)) | exact Rd.blk 8 rfl (dd _ (by omega)) | exact Rd.blk 9 rfl (dd _ (by omega)) | exact Rd.blk 0 rfl rfl | exact Rd.blk 1 rfl rfl | exact Rd.blk 2 rfl rfl | exact Rd.blk 3 rfl rfl | exact Rd.blk 4 rfl rfl | exact Rd.blk 5 rfl rfl | exact Rd.blk 6 rfl rfl | exact Rd.blk 7 rfl rfl | exact Rd.blk 8 rfl rfl | exact Rd.blk 9 rfl rfl)) ?_
      refine XA.dA 31 rfl rfl rfl (does_rem rfl rfl (by omega) (rem_in (by omega))) ?_
      refine XA.dA 32 rfl rfl rfl (does_conv (ds := .int .i64) (by kernel_rfl) (by kernel_rfl) rfl (wrap_u32 (by omega))) ?_
      refine XA.dA 33 rfl rfl rfl (does_buildS (zs := [.int .i64 0, .int .i64 0, .int .i64 0, .int .u32 0, .slice none 0 0, .slice none 0 0]) (L := [(0, 1), (1, 1), (2, 1), (3, 1), (4, 1), (5, 1)]) (zeroB_of (by kernel_rfl)) (by kernel_rfl) rfl (by simp [fillL, setN, Value.cells]; rfl)) ?_
      refine XA.next 34 rfl (by kernel_rfl) ?_
      refine xk_alloc (cs := [.int .i64 0, .int .i64 0, .int .i64 0, .int .u32 0, .slice none 0 0, .slice none 0 0]) (zeroB_of (by kernel_rfl)) (by decide) fun g12 => ?_
      refine XA.bk ?_
      refine XA.next 35 rfl (by kernel_rfl) ?_
      (first | (refine xk_storeN 0 rfl rfl rfl (by kernel_rfl) (by simp [Value.cells, Value.oneCell']) (by simp [Value.cells]) ?_) | (refine xk_storeN 1 rfl rfl rfl (by kernel_rfl) (by simp [Value.cells, Value.oneCell']) (by simp [Value.cells]) ?_) | (refine xk_storeN 2 rfl rfl rfl (by kernel_rfl) (by simp [Value.cells, Value.oneCell']) (by simp [Value.cells]) ?_) | (refine xk_storeN 3 rfl rfl rfl (by kernel_rfl) (by simp [Value.cells, Value.oneCell']) (by simp [Value.cells]) ?_) | (refine xk_storeN 4 rfl rfl rfl (by kernel_rfl) (by simp [Value.cells, Value.oneCell']) (by simp [Value.cells]) ?_) | (refine xk_storeN 5 rfl rfl rfl (by kernel_rfl) (by simp [Value.cells, Value.oneCell']) (by simp [Value.cells]) ?_) | (refine xk_storeN 6 rfl rfl rfl (by kernel_rfl) (by simp [Value.cells, Value.oneCell']) (by simp [Value.cells]) ?_) | (refine xk_storeN 7 rfl rfl rfl (by kernel_rfl) (by simp [Value.cells, Value.oneCell']) (by simp [Value.cells]) ?_) | (refine xk_storeN 8 rfl rfl rfl (by kernel_rfl) (by simp [Value.cells, Value.oneCell']) (by simp [Value.cells]) ?_)); simp only [putN, Value.cells, List.set, List.take, List.drop, List.nil_append, List.append_nil, List.length_cons, List.length_nil, List.cons_append, Nat.reduceAdd]
      refine XA.bt ?_
      refine XA.done (by kernel_rfl) ?_
      refine XK.norm ?_
      refine XK.cut (fun e R H => ∃ (rg : List Rg) (A5 : Option Addr) (c5 : Nat), rg.length ≤ 4 ∧ (∀ r ∈ rg, 0 ≤ r.reset ∧ r.reset ≤ 6) ∧ e = [(16, .pointer (some ⟨g12, 0, none⟩)), (15, .int .i64 (60 + 12 * vs.length)), (14, .int .i64 vs.length), (6, .pointer (some ⟨g4, 0, none⟩)), (4, .slice (some ⟨g2, 0, none⟩) 120 120), (2, .pointer (some ⟨g1, 0, none⟩))] ∧ R = [q, all w] ∧ H = [HP.blk g12 83 [.int .i64 (dv ds (60 + 12 * vs.length) % cs.length), .int .i64 (dv ds (61 + 12 * vs.length) % dm.length), .int .i64 (dv ds (62 + 12 * vs.length) % rs.length), .int .u32 (dv ds (63 + 12 * vs.length) % 3), .slice A5 rg.length c5, .slice none 0 0], HP.own 104 2 (.slice A5 rg.length c5) rg.length (rg.flatMap Rg.cells), HP.blk g4 50 [.slice A1 cs.length c1, .slice A2 dm.length c2, .slice A3 rs.length c3, .slice A4 vs.length c4], HP.own 83 6 (.slice A4 vs.length c4) vs.length rows4.flatten, HP.own 102 1 (.slice A3 rs.length c3) rs.length rows3.flatten, HP.own 61 3 (.slice A2 dm.length c2) dm.length rows2.flatten, HP.own 65 6 (.slice A1 cs.length c1) cs.length rows1.flatten, HP.blk g2 3 (intCells ds), HP.blk g1 50 [.slice none 0 0, .slice none 0 0, .slice none 0 0, .slice none 0 0]]) ?_ ?_
      ·
        refine XK.seq ?_

        refine XK.region ?_
        refine xk_assign rfl (by decide) ?_
        refine XK.nilN ?_
        refine XK.nilrow 104 2 ?_
        refine XK.weak [1, 0, 2, 3, 4, 5, 6, 7, 8] rfl (by decide) (fun _ h => h) ?_
        refine XK.envS [(17, .int .i64 0), (16, .pointer (some ⟨g12, 0, none⟩)), (15, .int .i64 (60 + 12 * vs.length)), (14, .int .i64 vs.length), (6, .pointer (some ⟨g4, 0, none⟩)), (4, .slice (some ⟨g2, 0, none⟩) 120 120), (2, .pointer (some ⟨g1, 0, none⟩))] ?_
        refine XK.block ?_
        refine XK.loop (fun m e R H => ∃ (rg : List Rg) (A5 : Option Addr) (c5 : Nat), (rg.length : Int) ≤ dv ds (64 + 12 * vs.length) % 5 ∧ m = 5 - rg.length ∧ (∀ r ∈ rg, 0 ≤ r.reset ∧ r.reset ≤ 6) ∧ e = [(17, .int .i64 rg.length), (16, .pointer (some ⟨g12, 0, none⟩)), (15, .int .i64 (60 + 12 * vs.length)), (14, .int .i64 vs.length), (6, .pointer (some ⟨g4, 0, none⟩)), (4, .slice (some ⟨g2, 0, none⟩) 120 120), (2, .pointer (some ⟨g1, 0, none⟩))] ∧ R = [q, all w] ∧ H = [HP.blk g12 83 [.int .i64 (dv ds (60 + 12 * vs.length) % cs.length), .int .i64 (dv ds (61 + 12 * vs.length) % dm.length), .int .i64 (dv ds (62 + 12 * vs.length) % rs.length), .int .u32 (dv ds (63 + 12 * vs.length) % 3), .slice A5 rg.length c5, .slice none 0 0], HP.own 104 2 (.slice A5 rg.length c5) rg.length (rg.flatMap Rg.cells), HP.blk g4 50 [.slice A1 cs.length c1, .slice A2 dm.length c2, .slice A3 rs.length c3, .slice A4 vs.length c4], HP.own 83 6 (.slice A4 vs.length c4) vs.length rows4.flatten, HP.own 102 1 (.slice A3 rs.length c3) rs.length rows3.flatten, HP.own 61 3 (.slice A2 dm.length c2) dm.length rows2.flatten, HP.own 65 6 (.slice A1 cs.length c1) cs.length rows1.flatten, HP.blk g2 3 (intCells ds), HP.blk g1 50 [.slice none 0 0, .slice none 0 0, .slice none 0 0, .slice none 0 0]]) 5 ⟨[], none, 0, by simp; omega, rfl, by simp, rfl, rfl, rfl⟩ fun m e R H hI => ?_
        obtain ⟨rg, A5, c5, hj, rfl, hgf, rfl, rfl, rfl⟩ := hI
        refine XK.seq ?_
        refine XK.seq ?_

        refine XK.region ?_
        refine xk_move rfl (by decide) ?_
        refine xk_move rfl (by decide) ?_
        refine xk_move rfl (by decide) ?_
        refine xk_add rfl rfl (wrap_in (by omega)) (by decide) ?_
        refine xk_at (64 + 12 * vs.length) (64 + 12 * vs.length) (el := 3) (sz := 1) (by kernel_rfl) (by kernel_rfl) rfl rfl (by omega) (by omega) (by omega) (by decide) ?_
        refine xk_load (by kernel_rfl) rfl (by first | assumption | exact Rd.blk 0 rfl (dd _ (by omega)) | exact Rd.blk 1 rfl (dd _ (by omega)) | exact Rd.blk 2 rfl (dd _ (by omega)) | exact Rd.blk 3 rfl (dd _ (by omega)) | exact Rd.blk 4 rfl (dd _ (by omega)) | exact Rd.blk 5 rfl (dd _ (by omega)) | exact Rd.blk 6 rfl (dd _ (by omega)) | exact Rd.blk 7 rfl (dd _ (by omega)) | exact Rd.blk 8 rfl (dd _ (by omega)) | exact Rd.blk 9 rfl (dd _ (by omega)) | exact Rd.blk 0 rfl rfl | exact Rd.blk 1 rfl rfl | exact Rd.blk 2 rfl rfl | exact Rd.blk 3 rfl rfl | exact Rd.blk 4 rfl rfl | exact Rd.blk 5 rfl rfl | exact Rd.blk 6 rfl rfl | exact Rd.blk 7 rfl rfl | exact Rd.blk 8 rfl rfl | exact Rd.blk 9 rfl rfl) (by decide) ?_
        refine xk_rem rfl rfl (by omega) (rem_in (by omega)) (by decide) ?_
        refine xk_lss rfl rfl (by decide) ?_
        refine XK.nilN ?_
        refine XK.if_ rfl (fun h => ?_) (fun h => ?_)
        ·
          refine XK.skip ?_
          refine XK.norm ?_
          refine XK.seq ?_
          refine XK.block ?_

          have hj2 : rg.length < 4 := by omega
          have r1 := hd.bd (65 + 12 * vs.length + rg.length)
          refine XK.draw 23 (by kernel_rfl) (by kernel_rfl) ?_
          refine XA.dA 0 rfl rfl rfl (does_field (off := 4) (by kernel_rfl) rfl) ?_
          refine XA.dA 1 rfl rfl rfl (does_load (by kernel_rfl) rfl (by first | assumption | exact Rd.blk 0 rfl (dd _ (by omega)) | exact Rd.blk 1 rfl (dd _ (by omega)) | exact Rd.blk 2 rfl (dd _ (by omega)) | exact Rd.blk 3 rfl (dd _ (by omega)) | exact Rd.blk 4 rfl (dd _ (by omega)) | exact Rd.blk 5 rfl (dd _ (by omega)) | exact Rd.blk 6 rfl (dd _ (by omega)) | exact Rd.blk 7 rfl (dd _ (by omega)) | exact Rd.blk 8 rfl (dd _ (by omega)) | exact Rd.blk 9 rfl (dd _ (by omega)) | exact Rd.blk 0 rfl rfl | exact Rd.blk 1 rfl rfl | exact Rd.blk 2 rfl rfl | exact Rd.blk 3 rfl rfl | exact Rd.blk 4 rfl rfl | exact Rd.blk 5 rfl rfl | exact Rd.blk 6 rfl rfl | exact Rd.blk 7 rfl rfl | exact Rd.blk 8 rfl rfl | exact Rd.blk 9 rfl rfl)) ?_
          refine XA.dA 2 rfl rfl rfl (does_move rfl) ?_
          refine XA.dA 3 rfl rfl rfl (does_move rfl) ?_
          refine XA.dA 4 rfl rfl rfl (does_add rfl rfl (wrap_in (by omega))) ?_
          refine XA.dA 5 rfl rfl rfl (does_move rfl) ?_
          refine XA.dA 6 rfl rfl rfl (does_add rfl rfl (wrap_in (by omega))) ?_
          refine XA.dA 7 rfl rfl rfl (does_at (65 + 12 * vs.length + rg.length) (65 + 12 * vs.length + rg.length) (el := 3) (sz := 1) (by kernel_rfl) (by kernel_rfl) rfl rfl (by omega) (by omega) (by omega)) ?_
          refine XA.dA 8 rfl rfl rfl (does_load (by kernel_rfl) rfl (by first | assumption | exact Rd.blk 0 rfl (dd _ (by omega)) | exact Rd.blk 1 rfl (dd _ (by omega)) | exact Rd.blk 2 rfl (dd _ (by omega)) | exact Rd.blk 3 rfl (dd _ (by omega)) | exact Rd.blk 4 rfl (dd _ (by omega)) | exact Rd.blk 5 rfl (dd _ (by omega)) | exact Rd.blk 6 rfl (dd _ (by omega)) | exact Rd.blk 7 rfl (dd _ (by omega)) | exact Rd.blk 8 rfl (dd _ (by omega)) | exact Rd.blk 9 rfl (dd _ (by omega)) | exact Rd.blk 0 rfl rfl | exact Rd.blk 1 rfl rfl | exact Rd.blk 2 rfl rfl | exact Rd.blk 3 rfl rfl | exact Rd.blk 4 rfl rfl | exact Rd.blk 5 rfl rfl | exact Rd.blk 6 rfl rfl | exact Rd.blk 7 rfl rfl | exact Rd.blk 8 rfl rfl | exact Rd.blk 9 rfl rfl)) ?_
          refine XA.dA 9 rfl rfl rfl (does_rem rfl rfl (by omega) (rem_in (by omega))) ?_
          refine XA.dA 10 rfl rfl rfl (does_conv (ds := .int .i64) (by kernel_rfl) (by kernel_rfl) rfl (wrap_u32 (by omega))) ?_
          refine XA.dA 11 rfl rfl rfl (does_move rfl) ?_
          refine XA.dA 12 rfl rfl rfl (does_move rfl) ?_
          refine XA.dA 13 rfl rfl rfl (does_add rfl rfl (wrap_in (by omega))) ?_
          refine XA.dA 14 rfl rfl rfl (does_move rfl) ?_
          refine XA.dA 15 rfl rfl rfl (does_add rfl rfl (wrap_in (by omega))) ?_
          refine XA.dA 16 rfl rfl rfl (does_at (65 + 12 * vs.length + rg.length) (65 + 12 * vs.length + rg.length) (el := 3) (sz := 1) (by kernel_rfl) (by kernel_rfl) rfl rfl (by omega) (by omega) (by omega)) ?_
          refine XA.dA 17 rfl rfl rfl (does_load (by kernel_rfl) rfl (by first | assumption | exact Rd.blk 0 rfl (dd _ (by omega)) | exact Rd.blk 1 rfl (dd _ (by omega)) | exact Rd.blk 2 rfl (dd _ (by omega)) | exact Rd.blk 3 rfl (dd _ (by omega)) | exact Rd.blk 4 rfl (dd _ (by omega)) | exact Rd.blk 5 rfl (dd _ (by omega)) | exact Rd.blk 6 rfl (dd _ (by omega)) | exact Rd.blk 7 rfl (dd _ (by omega)) | exact Rd.blk 8 rfl (dd _ (by omega)) | exact Rd.blk 9 rfl (dd _ (by omega)) | exact Rd.blk 0 rfl rfl | exact Rd.blk 1 rfl rfl | exact Rd.blk 2 rfl rfl | exact Rd.blk 3 rfl rfl | exact Rd.blk 4 rfl rfl | exact Rd.blk 5 rfl rfl | exact Rd.blk 6 rfl rfl | exact Rd.blk 7 rfl rfl | exact Rd.blk 8 rfl rfl | exact Rd.blk 9 rfl rfl)) ?_
          refine XA.dA 18 rfl rfl rfl (does_quo rfl rfl (by omega) (quo_in (by omega) (by omega) (by omega))) ?_
          refine XA.dA 19 rfl rfl rfl (does_rem rfl rfl (by omega) (rem_in (by omega))) ?_
          refine XA.dA 20 rfl rfl rfl (does_eql rfl rfl) ?_
          refine XA.dA 21 rfl rfl rfl (does_buildS (zs := [.int .u32 0, .bool false]) (L := [(0, 1), (1, 1)]) (zeroB_of (by kernel_rfl)) (by kernel_rfl) rfl (by simp [fillL, setN, Value.cells]; rfl)) ?_
          refine XA.next 22 rfl (by kernel_rfl) ?_
          refine xk_slice (el := 104) (sz := 2) (zs := [.int .u32 0, .bool false]) (by kernel_rfl) (zeroB_of (by kernel_rfl)) (by kernel_rfl) rfl (by decide) (by decide) rfl (by simp [fillL, setN, Value.cells, List.range_succ, List.set]; rfl) (by decide) fun g13 => ?_
          refine XA.bk ?_
          refine XA.next 23 rfl (by kernel_rfl) ?_
          refine xk_appendT 2 2 8 1 (n' := rg.length + 1) (el := 104) (by kernel_rfl) (by kernel_rfl) (by decide) rfl rfl rfl (sl_blk 0 rfl rfl) (by simp [Value.oneCell']) rfl (by omega) (by omega) (by decide) fun A5n c5n => ?_
          refine XA.bt ?_
          refine XA.next 24 rfl (by kernel_rfl) ?_
          refine xk_field (off := 4) (by kernel_rfl) rfl (by decide) ?_
          refine XA.bt ?_
          refine XA.next 25 rfl (by kernel_rfl) ?_
          refine xk_st rfl rfl ?_; dsimp only [List.set]
          refine XA.bt ?_
          refine XA.done (by kernel_rfl) ?_
          refine XK.norm ?_

          refine XK.region ?_
          refine xk_move rfl (by decide) ?_
          refine xk_add rfl rfl (wrap_in (by omega)) (by decide) ?_
          refine xk_assign rfl (by decide) ?_
          refine XK.nilN ?_
          exact XK.weak [1, 2, 3, 4, 5, 6, 7, 8, 9] rfl (by decide) (fun _ h => h) (XK.envS [(17, .int .i64 (rg.length + 1)), (16, .pointer (some ⟨g12, 0, none⟩)), (15, .int .i64 (60 + 12 * vs.length)), (14, .int .i64 vs.length), (6, .pointer (some ⟨g4, 0, none⟩)), (4, .slice (some ⟨g2, 0, none⟩) 120 120), (2, .pointer (some ⟨g1, 0, none⟩))] (XK.round (5 - (rg.length + 1)) (by omega) ⟨rg ++ [⟨dv ds (65 + 12 * vs.length + rg.length) % 7, decide (dv ds (65 + 12 * vs.length + rg.length) / 7 % 2 = 0)⟩], A5n, c5n, by simp; omega, by simp, by intro r hr; simp at hr; rcases hr with hr | hr; exact hgf r hr; subst hr; dsimp only; omega, by simp, rfl, by simp [Rg.cells]⟩))
        ·
          refine XK.exit ?_
          refine XK.norm ?_
          exact XK.envS [(16, .pointer (some ⟨g12, 0, none⟩)), (15, .int .i64 (60 + 12 * vs.length)), (14, .int .i64 vs.length), (6, .pointer (some ⟨g4, 0, none⟩)), (4, .slice (some ⟨g2, 0, none⟩) 120 120), (2, .pointer (some ⟨g1, 0, none⟩))] (XK.meet ⟨rg, A5, c5, by omega, hgf, rfl, rfl, rfl⟩)
      rintro _ _ _ ⟨rg, A5, c5, hg4, hgf, rfl, rfl, rfl⟩
      refine XK.nilrow 3 1 ?_
      refine XK.weak [1, 0, 2, 3, 4, 5, 6, 7, 8, 9] rfl (by decide) (fun _ h => h) ?_
      refine XK.cut (fun e R H => ∃ (nd : List Int) (A6 : Option Addr) (c6 : Nat), nd.length ≤ 1 ∧ (∀ f ∈ nd, 0 ≤ f ∧ f < vs.length) ∧ e = [(16, .pointer (some ⟨g12, 0, none⟩)), (15, .int .i64 (60 + 12 * vs.length)), (14, .int .i64 vs.length), (6, .pointer (some ⟨g4, 0, none⟩)), (4, .slice (some ⟨g2, 0, none⟩) 120 120), (2, .pointer (some ⟨g1, 0, none⟩))] ∧ R = [q, all w] ∧ H = [HP.blk g12 83 [.int .i64 (dv ds (60 + 12 * vs.length) % cs.length), .int .i64 (dv ds (61 + 12 * vs.length) % dm.length), .int .i64 (dv ds (62 + 12 * vs.length) % rs.length), .int .u32 (dv ds (63 + 12 * vs.length) % 3), .slice A5 rg.length c5, .slice A6 nd.length c6], HP.own 3 1 (.slice A6 nd.length c6) nd.length (intCells nd), HP.own 104 2 (.slice A5 rg.length c5) rg.length (rg.flatMap Rg.cells), HP.blk g4 50 [.slice A1 cs.length c1, .slice A2 dm.length c2, .slice A3 rs.length c3, .slice A4 vs.length c4], HP.own 83 6 (.slice A4 vs.length c4) vs.length rows4.flatten, HP.own 102 1 (.slice A3 rs.length c3) rs.length rows3.flatten, HP.own 61 3 (.slice A2 dm.length c2) dm.length rows2.flatten, HP.own 65 6 (.slice A1 cs.length c1) cs.length rows1.flatten, HP.blk g2 3 (intCells ds), HP.blk g1 50 [.slice none 0 0, .slice none 0 0, .slice none 0 0, .slice none 0 0]]) ?_ ?_
      ·
        refine XK.seq ?_

        refine XK.region ?_
        refine xk_move rfl (by decide) ?_
        refine xk_gtr rfl rfl (by decide) ?_
        refine xk_move rfl (by decide) ?_
        refine xk_split (t := 300) rfl (fun hg => ?_) (fun hg => ?_)
        ·
          refine xk_guardT rfl rfl ?_; refine xk_move rfl (by decide) ?_
          refine xk_guardT rfl rfl ?_; refine xk_move rfl (by decide) ?_
          refine xk_guardT rfl rfl ?_; refine xk_add rfl rfl (wrap_in (by omega)) (by decide) ?_
          refine xk_guardT rfl rfl ?_; refine xk_at (69 + 12 * vs.length) (69 + 12 * vs.length) (el := 3) (sz := 1) (by kernel_rfl) (by kernel_rfl) rfl rfl (by omega) (by omega) (by omega) (by decide) ?_
          refine xk_guardT rfl rfl ?_; refine xk_load (by kernel_rfl) rfl (by first | assumption | exact Rd.blk 0 rfl (dd _ (by omega)) | exact Rd.blk 1 rfl (dd _ (by omega)) | exact Rd.blk 2 rfl (dd _ (by omega)) | exact Rd.blk 3 rfl (dd _ (by omega)) | exact Rd.blk 4 rfl (dd _ (by omega)) | exact Rd.blk 5 rfl (dd _ (by omega)) | exact Rd.blk 6 rfl (dd _ (by omega)) | exact Rd.blk 7 rfl (dd _ (by omega)) | exact Rd.blk 8 rfl (dd _ (by omega)) | exact Rd.blk 9 rfl (dd _ (by omega)) | exact Rd.blk 0 rfl rfl | exact Rd.blk 1 rfl rfl | exact Rd.blk 2 rfl rfl | exact Rd.blk 3 rfl rfl | exact Rd.blk 4 rfl rfl | exact Rd.blk 5 rfl rfl | exact Rd.blk 6 rfl rfl | exact Rd.blk 7 rfl rfl | exact Rd.blk 8 rfl rfl | exact Rd.blk 9 rfl rfl) (by decide) ?_
          refine xk_guardT rfl rfl ?_; refine xk_rem rfl rfl (by omega) (rem_in (by omega)) (by decide) ?_
          refine xk_guardT rfl rfl ?_; refine xk_eql rfl rfl (by decide) ?_
          (first | refine xk_pickT rfl rfl (by decide) ?_ | refine xk_pickF rfl rfl (by decide) ?_)
          refine XK.nilN ?_
          refine XK.if_ rfl (fun h => ?_) (fun h => ?_)
          ·

            refine XK.draw 10 (by kernel_rfl) (by kernel_rfl) ?_
            refine XA.dA 0 rfl rfl rfl (does_field (off := 5) (by kernel_rfl) rfl) ?_
            refine XA.dA 1 rfl rfl rfl (does_load (by kernel_rfl) rfl (by first | assumption | exact Rd.blk 0 rfl (dd _ (by omega)) | exact Rd.blk 1 rfl (dd _ (by omega)) | exact Rd.blk 2 rfl (dd _ (by omega)) | exact Rd.blk 3 rfl (dd _ (by omega)) | exact Rd.blk 4 rfl (dd _ (by omega)) | exact Rd.blk 5 rfl (dd _ (by omega)) | exact Rd.blk 6 rfl (dd _ (by omega)) | exact Rd.blk 7 rfl (dd _ (by omega)) | exact Rd.blk 8 rfl (dd _ (by omega)) | exact Rd.blk 9 rfl (dd _ (by omega)) | exact Rd.blk 0 rfl rfl | exact Rd.blk 1 rfl rfl | exact Rd.blk 2 rfl rfl | exact Rd.blk 3 rfl rfl | exact Rd.blk 4 rfl rfl | exact Rd.blk 5 rfl rfl | exact Rd.blk 6 rfl rfl | exact Rd.blk 7 rfl rfl | exact Rd.blk 8 rfl rfl | exact Rd.blk 9 rfl rfl)) ?_
            refine XA.dA 2 rfl rfl rfl (does_move rfl) ?_
            refine XA.dA 3 rfl rfl rfl (does_move rfl) ?_
            refine XA.dA 4 rfl rfl rfl (does_add rfl rfl (wrap_in (by omega))) ?_
            refine XA.dA 5 rfl rfl rfl (does_at (70 + 12 * vs.length) (70 + 12 * vs.length) (el := 3) (sz := 1) (by kernel_rfl) (by kernel_rfl) rfl rfl (by omega) (by omega) (by omega)) ?_
            refine XA.dA 6 rfl rfl rfl (does_load (by kernel_rfl) rfl (by first | assumption | exact Rd.blk 0 rfl (dd _ (by omega)) | exact Rd.blk 1 rfl (dd _ (by omega)) | exact Rd.blk 2 rfl (dd _ (by omega)) | exact Rd.blk 3 rfl (dd _ (by omega)) | exact Rd.blk 4 rfl (dd _ (by omega)) | exact Rd.blk 5 rfl (dd _ (by omega)) | exact Rd.blk 6 rfl (dd _ (by omega)) | exact Rd.blk 7 rfl (dd _ (by omega)) | exact Rd.blk 8 rfl (dd _ (by omega)) | exact Rd.blk 9 rfl (dd _ (by omega)) | exact Rd.blk 0 rfl rfl | exact Rd.blk 1 rfl rfl | exact Rd.blk 2 rfl rfl | exact Rd.blk 3 rfl rfl | exact Rd.blk 4 rfl rfl | exact Rd.blk 5 rfl rfl | exact Rd.blk 6 rfl rfl | exact Rd.blk 7 rfl rfl | exact Rd.blk 8 rfl rfl | exact Rd.blk 9 rfl rfl)) ?_
            refine XA.dA 7 rfl rfl rfl (does_move rfl) ?_
            refine XA.dA 8 rfl rfl rfl (does_rem rfl rfl (by omega) (rem_in (by omega))) ?_
            refine XA.next 9 rfl (by kernel_rfl) ?_
            refine xk_slice (el := 3) (sz := 1) (zs := [.int .i64 0]) (by kernel_rfl) (zeroB_of (by kernel_rfl)) (by kernel_rfl) rfl (by decide) (by decide) rfl (by simp [fillL, setN, Value.cells, List.range_succ, List.set]; rfl) (by decide) fun g14 => ?_
            refine XA.bk ?_
            refine XA.next 10 rfl (by kernel_rfl) ?_
            refine xk_appendT 2 1 8 1 (n' := 1) (el := 3) (by kernel_rfl) (by kernel_rfl) (by decide) rfl rfl rfl (sl_blk 0 rfl rfl) (by simp [Value.oneCell']) rfl (by omega) (by omega) (by decide) fun A6 c6 => ?_
            refine XA.bt ?_
            refine XA.next 11 rfl (by kernel_rfl) ?_
            refine xk_field (off := 5) (by kernel_rfl) rfl (by decide) ?_
            refine XA.bt ?_
            refine XA.next 12 rfl (by kernel_rfl) ?_
            refine xk_st rfl rfl ?_; dsimp only [List.set]
            refine XA.bt ?_
            refine XA.done (by kernel_rfl) ?_
            refine XK.norm ?_
            exact XK.weak [1, 2, 3, 4, 5, 6, 7, 8, 9, 10] rfl (by decide) (by simp) (XK.envS [(16, .pointer (some ⟨g12, 0, none⟩)), (15, .int .i64 (60 + 12 * vs.length)), (14, .int .i64 vs.length), (6, .pointer (some ⟨g4, 0, none⟩)), (4, .slice (some ⟨g2, 0, none⟩) 120 120), (2, .pointer (some ⟨g1, 0, none⟩))] (XK.meet ⟨[dv ds (70 + 12 * vs.length) % vs.length], A6, c6, by simp, by intro f hf; simp at hf; subst hf; exact emod_bd _ hg, rfl, rfl, rfl⟩))
          ·
            refine XK.skip ?_
            refine XK.norm ?_
            exact XK.envS [(16, .pointer (some ⟨g12, 0, none⟩)), (15, .int .i64 (60 + 12 * vs.length)), (14, .int .i64 vs.length), (6, .pointer (some ⟨g4, 0, none⟩)), (4, .slice (some ⟨g2, 0, none⟩) 120 120), (2, .pointer (some ⟨g1, 0, none⟩))] (XK.meet ⟨[], none, 0, by simp, by simp, rfl, rfl, rfl⟩)
        ·
          refine xk_guardF rfl rfl rfl (by decide) ?_
          refine xk_guardF rfl rfl rfl (by decide) ?_
          refine xk_guardF rfl rfl rfl (by decide) ?_
          refine xk_guardF rfl rfl rfl (by decide) ?_
          refine xk_guardF rfl rfl rfl (by decide) ?_
          refine xk_guardF rfl rfl rfl (by decide) ?_
          refine xk_guardF rfl rfl rfl (by decide) ?_
          (first | refine xk_pickT rfl rfl (by decide) ?_ | refine xk_pickF rfl rfl (by decide) ?_)
          refine XK.nilN ?_
          refine XK.cond rfl (fun h => by cases h) (fun _ => ?_)
          refine XK.skip ?_
          refine XK.norm ?_
          exact XK.envS [(16, .pointer (some ⟨g12, 0, none⟩)), (15, .int .i64 (60 + 12 * vs.length)), (14, .int .i64 vs.length), (6, .pointer (some ⟨g4, 0, none⟩)), (4, .slice (some ⟨g2, 0, none⟩) 120 120), (2, .pointer (some ⟨g1, 0, none⟩))] (XK.meet ⟨[], none, 0, by simp, by simp, rfl, rfl, rfl⟩)
      rintro _ _ _ ⟨nd, A6, c6, hn1, hnf, rfl, rfl, rfl⟩
      refine XK.cut (fun e R H => ∃ (nd : List Int) (A6 : Option Addr) (c6 : Nat), nd.length ≤ 2 ∧ (∀ f ∈ nd, 0 ≤ f ∧ f < vs.length) ∧ e = [(16, .pointer (some ⟨g12, 0, none⟩)), (15, .int .i64 (60 + 12 * vs.length)), (14, .int .i64 vs.length), (6, .pointer (some ⟨g4, 0, none⟩)), (4, .slice (some ⟨g2, 0, none⟩) 120 120), (2, .pointer (some ⟨g1, 0, none⟩))] ∧ R = [q, all w] ∧ H = [HP.blk g12 83 [.int .i64 (dv ds (60 + 12 * vs.length) % cs.length), .int .i64 (dv ds (61 + 12 * vs.length) % dm.length), .int .i64 (dv ds (62 + 12 * vs.length) % rs.length), .int .u32 (dv ds (63 + 12 * vs.length) % 3), .slice A5 rg.length c5, .slice A6 nd.length c6], HP.own 3 1 (.slice A6 nd.length c6) nd.length (intCells nd), HP.own 104 2 (.slice A5 rg.length c5) rg.length (rg.flatMap Rg.cells), HP.blk g4 50 [.slice A1 cs.length c1, .slice A2 dm.length c2, .slice A3 rs.length c3, .slice A4 vs.length c4], HP.own 83 6 (.slice A4 vs.length c4) vs.length rows4.flatten, HP.own 102 1 (.slice A3 rs.length c3) rs.length rows3.flatten, HP.own 61 3 (.slice A2 dm.length c2) dm.length rows2.flatten, HP.own 65 6 (.slice A1 cs.length c1) cs.length rows1.flatten, HP.blk g2 3 (intCells ds), HP.blk g1 50 [.slice none 0 0, .slice none 0 0, .slice none 0 0, .slice none 0 0]]) ?_ ?_
      ·
        refine XK.seq ?_

        refine XK.region ?_
        refine xk_move rfl (by decide) ?_
        refine xk_gtr rfl rfl (by decide) ?_
        refine xk_move rfl (by decide) ?_
        refine xk_split (t := 323) rfl (fun hg => ?_) (fun hg => ?_)
        ·
          refine xk_guardT rfl rfl ?_; refine xk_move rfl (by decide) ?_
          refine xk_guardT rfl rfl ?_; refine xk_move rfl (by decide) ?_
          refine xk_guardT rfl rfl ?_; refine xk_add rfl rfl (wrap_in (by omega)) (by decide) ?_
          refine xk_guardT rfl rfl ?_; refine xk_at (71 + 12 * vs.length) (71 + 12 * vs.length) (el := 3) (sz := 1) (by kernel_rfl) (by kernel_rfl) rfl rfl (by omega) (by omega) (by omega) (by decide) ?_
          refine xk_guardT rfl rfl ?_; refine xk_load (by kernel_rfl) rfl (by first | assumption | exact Rd.blk 0 rfl (dd _ (by omega)) | exact Rd.blk 1 rfl (dd _ (by omega)) | exact Rd.blk 2 rfl (dd _ (by omega)) | exact Rd.blk 3 rfl (dd _ (by omega)) | exact Rd.blk 4 rfl (dd _ (by omega)) | exact Rd.blk 5 rfl (dd _ (by omega)) | exact Rd.blk 6 rfl (dd _ (by omega)) | exact Rd.blk 7 rfl (dd _ (by omega)) | exact Rd.blk 8 rfl (dd _ (by omega)) | exact Rd.blk 9 rfl (dd _ (by omega)) | exact Rd.blk 0 rfl rfl | exact Rd.blk 1 rfl rfl | exact Rd.blk 2 rfl rfl | exact Rd.blk 3 rfl rfl | exact Rd.blk 4 rfl rfl | exact Rd.blk 5 rfl rfl | exact Rd.blk 6 rfl rfl | exact Rd.blk 7 rfl rfl | exact Rd.blk 8 rfl rfl | exact Rd.blk 9 rfl rfl) (by decide) ?_
          refine xk_guardT rfl rfl ?_; refine xk_rem rfl rfl (by omega) (rem_in (by omega)) (by decide) ?_
          refine xk_guardT rfl rfl ?_; refine xk_eql rfl rfl (by decide) ?_
          (first | refine xk_pickT rfl rfl (by decide) ?_ | refine xk_pickF rfl rfl (by decide) ?_)
          refine XK.nilN ?_
          refine XK.if_ rfl (fun h => ?_) (fun h => ?_)
          ·

            refine XK.draw 11 (by kernel_rfl) (by kernel_rfl) ?_
            refine XA.dA 0 rfl rfl rfl (does_field (off := 5) (by kernel_rfl) rfl) ?_
            refine XA.dA 1 rfl rfl rfl (does_load (by kernel_rfl) rfl (by first | assumption | exact Rd.blk 0 rfl (dd _ (by omega)) | exact Rd.blk 1 rfl (dd _ (by omega)) | exact Rd.blk 2 rfl (dd _ (by omega)) | exact Rd.blk 3 rfl (dd _ (by omega)) | exact Rd.blk 4 rfl (dd _ (by omega)) | exact Rd.blk 5 rfl (dd _ (by omega)) | exact Rd.blk 6 rfl (dd _ (by omega)) | exact Rd.blk 7 rfl (dd _ (by omega)) | exact Rd.blk 8 rfl (dd _ (by omega)) | exact Rd.blk 9 rfl (dd _ (by omega)) | exact Rd.blk 0 rfl rfl | exact Rd.blk 1 rfl rfl | exact Rd.blk 2 rfl rfl | exact Rd.blk 3 rfl rfl | exact Rd.blk 4 rfl rfl | exact Rd.blk 5 rfl rfl | exact Rd.blk 6 rfl rfl | exact Rd.blk 7 rfl rfl | exact Rd.blk 8 rfl rfl | exact Rd.blk 9 rfl rfl)) ?_
            refine XA.dA 2 rfl rfl rfl (does_move rfl) ?_
            refine XA.dA 3 rfl rfl rfl (does_move rfl) ?_
            refine XA.dA 4 rfl rfl rfl (does_add rfl rfl (wrap_in (by omega))) ?_
            refine XA.dA 5 rfl rfl rfl (does_at (71 + 12 * vs.length) (71 + 12 * vs.length) (el := 3) (sz := 1) (by kernel_rfl) (by kernel_rfl) rfl rfl (by omega) (by omega) (by omega)) ?_
            refine XA.dA 6 rfl rfl rfl (does_load (by kernel_rfl) rfl (by first | assumption | exact Rd.blk 0 rfl (dd _ (by omega)) | exact Rd.blk 1 rfl (dd _ (by omega)) | exact Rd.blk 2 rfl (dd _ (by omega)) | exact Rd.blk 3 rfl (dd _ (by omega)) | exact Rd.blk 4 rfl (dd _ (by omega)) | exact Rd.blk 5 rfl (dd _ (by omega)) | exact Rd.blk 6 rfl (dd _ (by omega)) | exact Rd.blk 7 rfl (dd _ (by omega)) | exact Rd.blk 8 rfl (dd _ (by omega)) | exact Rd.blk 9 rfl (dd _ (by omega)) | exact Rd.blk 0 rfl rfl | exact Rd.blk 1 rfl rfl | exact Rd.blk 2 rfl rfl | exact Rd.blk 3 rfl rfl | exact Rd.blk 4 rfl rfl | exact Rd.blk 5 rfl rfl | exact Rd.blk 6 rfl rfl | exact Rd.blk 7 rfl rfl | exact Rd.blk 8 rfl rfl | exact Rd.blk 9 rfl rfl)) ?_
            refine XA.dA 7 rfl rfl rfl (does_quo rfl rfl (by omega) (quo_in (by omega) (by omega) (by omega))) ?_
            refine XA.dA 8 rfl rfl rfl (does_move rfl) ?_
            refine XA.dA 9 rfl rfl rfl (does_rem rfl rfl (by omega) (rem_in (by omega))) ?_
            refine XA.next 10 rfl (by kernel_rfl) ?_
            refine xk_slice (el := 3) (sz := 1) (zs := [.int .i64 0]) (by kernel_rfl) (zeroB_of (by kernel_rfl)) (by kernel_rfl) rfl (by decide) (by decide) rfl (by simp [fillL, setN, Value.cells, List.range_succ, List.set]; rfl) (by decide) fun g15 => ?_
            refine XA.bk ?_
            refine XA.next 11 rfl (by kernel_rfl) ?_
            refine xk_appendT 2 1 8 1 (n' := nd.length + 1) (el := 3) (by kernel_rfl) (by kernel_rfl) (by decide) rfl rfl rfl (sl_blk 0 rfl rfl) (by simp [Value.oneCell']) rfl (by omega) (by omega) (by decide) fun A6n c6n => ?_
            refine XA.bt ?_
            refine XA.next 12 rfl (by kernel_rfl) ?_
            refine xk_field (off := 5) (by kernel_rfl) rfl (by decide) ?_
            refine XA.bt ?_
            refine XA.next 13 rfl (by kernel_rfl) ?_
            refine xk_st rfl rfl ?_; dsimp only [List.set]
            refine XA.bt ?_
            refine XA.done (by kernel_rfl) ?_
            refine XK.norm ?_
            exact XK.weak [1, 2, 3, 4, 5, 6, 7, 8, 9, 10] rfl (by decide) (by simp) (XK.envS [(16, .pointer (some ⟨g12, 0, none⟩)), (15, .int .i64 (60 + 12 * vs.length)), (14, .int .i64 vs.length), (6, .pointer (some ⟨g4, 0, none⟩)), (4, .slice (some ⟨g2, 0, none⟩) 120 120), (2, .pointer (some ⟨g1, 0, none⟩))] (XK.meet ⟨nd ++ [dv ds (71 + 12 * vs.length) / 3 % vs.length], A6n, c6n, by simp; omega, by intro f hf; simp at hf; rcases hf with hf | hf; exact hnf f hf; subst hf; exact emod_bd _ (by omega), rfl, rfl, by simp [intCells]⟩))
          ·
            refine XK.skip ?_
            refine XK.norm ?_
            exact XK.envS [(16, .pointer (some ⟨g12, 0, none⟩)), (15, .int .i64 (60 + 12 * vs.length)), (14, .int .i64 vs.length), (6, .pointer (some ⟨g4, 0, none⟩)), (4, .slice (some ⟨g2, 0, none⟩) 120 120), (2, .pointer (some ⟨g1, 0, none⟩))] (XK.meet ⟨nd, A6, c6, by omega, hnf, rfl, rfl, rfl⟩)
        ·
          refine xk_guardF rfl rfl rfl (by decide) ?_
          refine xk_guardF rfl rfl rfl (by decide) ?_
          refine xk_guardF rfl rfl rfl (by decide) ?_
          refine xk_guardF rfl rfl rfl (by decide) ?_
          refine xk_guardF rfl rfl rfl (by decide) ?_
          refine xk_guardF rfl rfl rfl (by decide) ?_
          refine xk_guardF rfl rfl rfl (by decide) ?_
          (first | refine xk_pickT rfl rfl (by decide) ?_ | refine xk_pickF rfl rfl (by decide) ?_)
          refine XK.nilN ?_
          refine XK.cond rfl (fun h => by cases h) (fun _ => ?_)
          refine XK.skip ?_
          refine XK.norm ?_
          exact XK.envS [(16, .pointer (some ⟨g12, 0, none⟩)), (15, .int .i64 (60 + 12 * vs.length)), (14, .int .i64 vs.length), (6, .pointer (some ⟨g4, 0, none⟩)), (4, .slice (some ⟨g2, 0, none⟩) 120 120), (2, .pointer (some ⟨g1, 0, none⟩))] (XK.meet ⟨nd, A6, c6, by omega, hnf, rfl, rfl, rfl⟩)
      rintro _ _ _ ⟨nd, A6, c6, hn2b, hnf, rfl, rfl, rfl⟩

      refine XK.region ?_
      refine xk_field (off := 3) (by kernel_rfl) rfl (by decide) ?_
      refine xk_load (by kernel_rfl) rfl (by first | assumption | exact Rd.blk 0 rfl (dd _ (by omega)) | exact Rd.blk 1 rfl (dd _ (by omega)) | exact Rd.blk 2 rfl (dd _ (by omega)) | exact Rd.blk 3 rfl (dd _ (by omega)) | exact Rd.blk 4 rfl (dd _ (by omega)) | exact Rd.blk 5 rfl (dd _ (by omega)) | exact Rd.blk 6 rfl (dd _ (by omega)) | exact Rd.blk 7 rfl (dd _ (by omega)) | exact Rd.blk 8 rfl (dd _ (by omega)) | exact Rd.blk 9 rfl (dd _ (by omega)) | exact Rd.blk 0 rfl rfl | exact Rd.blk 1 rfl rfl | exact Rd.blk 2 rfl rfl | exact Rd.blk 3 rfl rfl | exact Rd.blk 4 rfl rfl | exact Rd.blk 5 rfl rfl | exact Rd.blk 6 rfl rfl | exact Rd.blk 7 rfl rfl | exact Rd.blk 8 rfl rfl | exact Rd.blk 9 rfl rfl) (by decide) ?_
      refine xk_ldN 6 rfl ?_
      refine xk_slice (el := 83) (sz := 6) (zs := [.int .i64 0, .int .i64 0, .int .i64 0, .int .u32 0, .slice none 0 0, .slice none 0 0]) (by kernel_rfl) (zeroB_of (by kernel_rfl)) (by kernel_rfl) rfl (by decide) (by decide) rfl (by simp [fillL, setN, Value.cells, List.range_succ, List.set]; rfl) (by decide) fun g16 => ?_
      refine xk_appendT 5 6 80 1 (n' := vs.length + 1) (el := 83) (by kernel_rfl) (by kernel_rfl) (by decide) rfl rfl rfl (sl_blk 0 rfl rfl) (by simp [Value.oneCell']) rfl (by omega) (by omega) (by decide) fun A4n c4n => ?_
      refine xk_field (off := 3) (by kernel_rfl) rfl (by decide) ?_
      refine xk_st rfl rfl ?_; dsimp only [List.set]
      refine XK.nilN ?_

      refine XK.region ?_
      refine xk_move rfl (by decide) ?_
      refine xk_add rfl rfl (wrap_in (by omega)) (by decide) ?_
      refine xk_assign rfl (by decide) ?_
      refine XK.nilN ?_
      refine XK.still [q] [2, 3] [4, 5, 6, 7, 8, 9, 10] (by simp) rfl (by decide) (by simp) fun qn hqf hql hqn => ?_
      have hle := hql q (by simp)
      have hq2 := hqn (by simp) (by simp; exact hq)
      have hs1 := SlS.own (hqf 3 _ (by simp) rfl)
      have hs2 := SlS.own (hqf 2 _ (by simp) rfl)
      exact XK.weak [0, 1, 2, 3, 4, 5, 6] rfl (by decide) (by simp) (XK.envS [(14, .int .i64 (vs.length + 1)), (6, .pointer (some ⟨g4, 0, none⟩)), (4, .slice (some ⟨g2, 0, none⟩) 120 120), (2, .pointer (some ⟨g1, 0, none⟩))] (XK.round (5 - (vs.length + 1)) (by omega) ⟨vs ++ [⟨dv ds (60 + 12 * vs.length) % cs.length, dv ds (61 + 12 * vs.length) % dm.length, dv ds (62 + 12 * vs.length) % rs.length, dv ds (63 + 12 * vs.length) % 3, rg, nd⟩], A4n, c4n, qn, rows4 ++ [_], by simp; omega, by simp, hcr.mono (fun c r => ClkR.mono (slq_le hle)), hvf.snoc ⟨q0.1, q0.2, q1.1, q1.2, q2.1, q2.2, by dsimp only; omega, by dsimp only; omega, hg4, hgf, hn2b, hnf⟩, (hvr.mono (fun c r => DevR.mono (slq_le hle))).snoc (r := [.int .i64 (dv ds (60 + 12 * vs.length) % cs.length), .int .i64 (dv ds (61 + 12 * vs.length) % dm.length), .int .i64 (dv ds (62 + 12 * vs.length) % rs.length), .int .u32 (dv ds (63 + 12 * vs.length) % 3), .slice A5 rg.length c5, .slice A6 nd.length c6]) rfl ⟨A5, _, c5, A6, _, c6, rfl, rfl, rfl, hs1, hs2⟩, hq2, by simp, rfl, by simp⟩))
    ·
      refine XK.exit ?_
      refine XK.norm ?_
      exact XK.envS [(6, .pointer (some ⟨g4, 0, none⟩)), (4, .slice (some ⟨g2, 0, none⟩) 120 120), (2, .pointer (some ⟨g1, 0, none⟩))] (XK.meet ⟨vs, A4, c4, q, rows4, by omega, by omega, hcr, hvf, hvr, hq, rfl, rfl, rfl⟩)
  rintro _ _ _ ⟨vs, A4, c4, q, rows4, hv1, hv4, hcr, hvf, hvr, hq, rfl, rfl, rfl⟩
  refine XK.seq ?_

  refine XK.region ?_
  refine xk_ldN 4 rfl ?_
  (first | (refine xk_storeN 0 rfl rfl rfl (by kernel_rfl) (by simp [Value.cells, Value.oneCell']) (by simp [Value.cells]) ?_) | (refine xk_storeN 1 rfl rfl rfl (by kernel_rfl) (by simp [Value.cells, Value.oneCell']) (by simp [Value.cells]) ?_) | (refine xk_storeN 2 rfl rfl rfl (by kernel_rfl) (by simp [Value.cells, Value.oneCell']) (by simp [Value.cells]) ?_) | (refine xk_storeN 3 rfl rfl rfl (by kernel_rfl) (by simp [Value.cells, Value.oneCell']) (by simp [Value.cells]) ?_) | (refine xk_storeN 4 rfl rfl rfl (by kernel_rfl) (by simp [Value.cells, Value.oneCell']) (by simp [Value.cells]) ?_) | (refine xk_storeN 5 rfl rfl rfl (by kernel_rfl) (by simp [Value.cells, Value.oneCell']) (by simp [Value.cells]) ?_) | (refine xk_storeN 6 rfl rfl rfl (by kernel_rfl) (by simp [Value.cells, Value.oneCell']) (by simp [Value.cells]) ?_) | (refine xk_storeN 7 rfl rfl rfl (by kernel_rfl) (by simp [Value.cells, Value.oneCell']) (by simp [Value.cells]) ?_) | (refine xk_storeN 8 rfl rfl rfl (by kernel_rfl) (by simp [Value.cells, Value.oneCell']) (by simp [Value.cells]) ?_)); simp only [putN, Value.cells, List.set, List.take, List.drop, List.nil_append, List.append_nil, List.length_cons, List.length_nil, List.cons_append, Nat.reduceAdd]
  refine XK.nilN ?_
  refine XK.ret ?_
  refine XK.norm ?_
  refine XK.still [q] [1, 2, 3, 4] [6] (by simp) rfl (by decide) (by simp) fun qn hqf hql hqn => ?_
  have hle := hql q (by simp)
  have hq2 := hqn (by simp) (by simp; exact hq)
  have hs4 := SlS.own (hqf 1 _ (by simp) rfl)
  have hs3 := SlS.own (hqf 2 _ (by simp) rfl)
  have hs2 := SlS.own (hqf 3 _ (by simp) rfl)
  have hs1 := SlS.own (hqf 4 _ (by simp) rfl)
  have hS : SocR (slq qn) ⟨cs, dm, rs, vs⟩ #[.slice A1 cs.length c1, .slice A2 dm.length c2, .slice A3 rs.length c3, .slice A4 vs.length c4] :=
    ⟨A1, _, c1, A2, _, c2, A3, _, c3, A4, _, c4, rfl, ⟨rows1, hcr.mono (fun c r => ClkR.mono (slq_le hle)), rfl, hs1⟩, ⟨rows2, hdr, rfl, hs2⟩, ⟨rows3, hrr, rfl, hs3⟩, ⟨rows4, hvr.mono (fun c r => DevR.mono (slq_le hle)), rfl, hs4⟩⟩
  exact XK.retC rfl (by kernel_rfl) rfl rfl (RdN.whole 0 rfl) fun w1 st => ⟨⟨_, rfl, _, ⟨cs, dm, rs, vs⟩, rfl, hS.mono (slq_le (st.fresh_le (by simp) hq2)), ⟨hcf, hdf, hrf, hvf, ⟨hc1, hc9⟩, ⟨hd1, hd4⟩, ⟨hr1, hr3⟩, ⟨hv1, hv4⟩⟩⟩, st.below (by simp)⟩
end Go.Proofs.Ytbgibbbggajgaaa
/- chapter 17's laws: their head; the steps of a chip that is made. -/
namespace Go.Proofs.Ytbgibbbggajgaaa
set_option linter.all false
open Go.RowKit
/-- a chip that a piece shows -/
structure SocP (p : Piece) (s : Soc) (A1 : Option Addr) (n1 : Nat) (A2 : Option Addr) (n2 : Nat) (A3 : Option Addr) (n3 : Nat) (A4 : Option Addr) (n4 : Nat) : Prop where
  clk : RsR (slq p) (ClkR (slq p)) 65 6 A1 n1 s.clocks
  dom : RsR (slq p) DomR 61 3 A2 n2 s.domains
  rst : RsR (slq p) RstR 102 1 A3 n3 s.resets
  dev : RsR (slq p) (DevR (slq p)) 83 6 A4 n4 s.devs
section
variable {p q : Piece} {w : World} {s : Soc} {A1 A2 A3 A4 : Option Addr} {n1 n2 n3 n4 : Nat}
theorem SocP.le (h : SocP p s A1 n1 A2 n2 A3 n3 A4 n4) (hl : p.Le q) : SocP q s A1 n1 A2 n2 A3 n3 A4 n4 :=
  ⟨h.clk.mono (slq_le hl) (fun _ _ => ClkR.mono (slq_le hl)), h.dom.mono (slq_le hl) (fun _ _ h => h), h.rst.mono (slq_le hl) (fun _ _ h => h), h.dev.mono (slq_le hl) (fun _ _ => DevR.mono (slq_le hl))⟩
theorem SocP.W (h : SocP p s A1 n1 A2 n2 A3 n3 A4 n4) (hl : p.Le (all w)) (hs : s.small) : SocW w s A1 n1 A2 n2 A3 n3 A4 n4 := ⟨(h.le hl).clk, (h.le hl).dom, (h.le hl).rst, (h.le hl).dev, hs⟩
theorem SocP.len (h : SocP p s A1 n1 A2 n2 A3 n3 A4 n4) : n1 = s.clocks.length ∧ n2 = s.domains.length ∧ n3 = s.resets.length ∧ n4 = s.devs.length := by
  obtain ⟨⟨_, _, h1, _⟩, ⟨_, _, h2, _⟩, ⟨_, _, h3, _⟩, ⟨_, _, h4, _⟩⟩ := h
  exact ⟨h1, h2, h3, h4⟩
theorem SocR.P {cs : Array Value} (h : SocR (slq p) s cs) : ∃ A1 n1 k1 A2 n2 k2 A3 n3 k3 A4 n4 k4, cs = #[.slice A1 n1 k1, .slice A2 n2 k2, .slice A3 n3 k3, .slice A4 n4 k4] ∧ SocP p s A1 n1 A2 n2 A3 n3 A4 n4 := by
  obtain ⟨A1, n1, k1, A2, n2, k2, A3, n3, k3, A4, n4, k4, h0, h1, h2, h3, h4⟩ := h
  exact ⟨A1, n1, k1, A2, n2, k2, A3, n3, k3, A4, n4, k4, h0, h1, h2, h3, h4⟩
end
/-- the steps of a chip whose orders are 0, 1, .. -/
def allM (s : Soc) (x y : Wsh) : List Stp := allL s (List.range s.domains.length) (List.range s.clocks.length) (List.range s.resets.length) x.d x.c x.l y.d y.c y.l
def StepsR (l : List Stp) (v : Value) (w w' : World) : Prop := ∃ A c, v = .slice A l.length c ∧ SlS (fresh w w') 4 A l.length (l.flatMap Stp.cells)
theorem stepsM_any {q qx qy : Piece} {s : Soc} {A1 A2 A3 A4 : Option Addr} {n1 k1 n2 k2 n3 k3 n4 k4 : Nat} {x y : Wsh} {v1 v2 : Value} {w : World} (hS : SocP q s A1 n1 A2 n2 A3 n3 A4 n4) (hm : s.made) (hq : q.Le (all w)) (hx : WshR qx x v1) (hqx : qx.Le (all w)) (hy : WshR qy y v2) (hqy : qy.Le (all w)) :
    Calls Try.prog 19 #[.agg #[.slice A1 n1 k1, .slice A2 n2 k2, .slice A3 n3 k3, .slice A4 n4 k4], v1, v2] w (RtW (StepsR (allM s x y)) w) := by
  obtain ⟨o1, o2, o3⟩ := made_orders hm
  obtain ⟨rfl, rfl, rfl, rfl⟩ := hS.len
  obtain ⟨B1, b1, B2, b2, B3, b3, rfl, hx1, hx2, hx3⟩ := hx
  obtain ⟨C1, c1, C2, c2, C3, c3, rfl, hy1, hy2, hy3⟩ := hy
  have h1 := hm.nc
  have h2 := hm.nd
  have h := steps_S s A1 A2 A3 A4 B1 B2 B3 C1 C2 C3 _ k1 _ k2 _ k3 _ k4 _ b1 _ b2 _ b3 _ c1 _ c2 _ c3 x.d x.c x.l y.d y.c y.l w (hS.W hq (made_small hm)) (made_check hm) (by rw [o2]; simp; omega) (by rw [o1]; simp; omega)
    (fun i hi => by rw [o2] at hi; have := List.mem_range.1 hi; omega) (fun i hi => by rw [o1] at hi; have := List.mem_range.1 hi; omega)
    (hx1.le hqx) rfl (hy1.le hqy) rfl (hx2.le hqx) rfl (hy2.le hqy) rfl (hx3.le hqx) rfl (hy3.le hqy) rfl
  rw [o1, o2] at h
  have hL : allL s ((0 : Int), List.range s.domains.length).2 ((0 : Int), List.range s.clocks.length).2 (List.range s.resets.length) x.d x.c x.l y.d y.c y.l = allM s x y := rfl
  rw [hL] at h
  clear hL
  generalize allM s x y = L at h ⊢
  refine Calls.mono h ?_
  rintro z w' ⟨⟨A, c, hz, hs⟩, hb⟩
  exact ⟨⟨_, hz, ⟨A, c, rfl, hs⟩⟩, hb⟩
theorem Wsh.same_self (x : Wsh) : x.same x = true := by simp [Wsh.same, sameB]
def soc1 : Soc := ⟨[], [⟨-1, 0, false⟩], [], []⟩
theorem soc1_steps : allL soc1 (orderE (domsG soc1)).2 (orderE (clocksG soc1)).2 (List.range 0) [false] [] [] [true] [] [] = [⟨17, 4, 0, 1⟩] := by rfl
theorem soc1_check : checkS soc1 = 0 := by rfl
theorem soc1_doms : orderE (domsG soc1) = (0, [0]) := by rfl
theorem soc1_clks : orderE (clocksG soc1) = (0, []) := by rfl
theorem soc1_W {w : World} {g : Nat} (h : SlS (all w) 3 (some ⟨g, 0, none⟩) 1 [.int .i64 (-1), .int .i64 0, .bool false]) : SocW w soc1 none 0 (some ⟨g, 0, none⟩) 1 none 0 none 0 :=
  ⟨⟨[], trivial, rfl, SlS.nil _ _⟩, ⟨[[.int .i64 (-1), .int .i64 0, .bool false]], ⟨rfl, rfl, trivial⟩, rfl, h⟩, ⟨[], trivial, rfl, SlS.nil _ _⟩, ⟨[], trivial, rfl, SlS.nil _ _⟩,
    ⟨by decide, by decide, by decide, by decide, (fun c hc => by cases hc), (fun c hc => by cases hc)⟩⟩

theorem shown17_any (w : World) :
    Calls Try.prog 17 #[] w (Rt (.bool true) w) := by
  refine XK.enter (vs := []) Try.func17 rfl Try.ntmps17 (by simp) ?_
  refine XK.seq ?_

  refine XK.region ?_
  refine xk_assign rfl (by decide) ?_
  refine XK.nilN ?_
  refine XK.seq ?_

  refine XK.region ?_
  refine xk_buildS (zs := [.int .i64 0, .int .i64 0, .bool false]) (L := [(0, 1), (1, 1), (2, 1)]) (zeroB_of (by kernel_rfl)) (by kernel_rfl) rfl (by simp [fillL, setN, Value.cells]; rfl) (by decide) ?_
  refine xk_slice (el := 61) (sz := 3) (zs := [.int .i64 0, .int .i64 0, .bool false]) (by kernel_rfl) (zeroB_of (by kernel_rfl)) (by kernel_rfl) rfl (by decide) (by decide) rfl (by simp [fillL, setN, Value.cells, List.range_succ, List.set]; rfl) (by decide) fun g1 => ?_
  refine xk_buildS (zs := [.slice none 0 0, .slice none 0 0, .slice none 0 0, .slice none 0 0]) (L := [(0, 1), (1, 1), (2, 1), (3, 1)]) (zeroB_of (by kernel_rfl)) (by kernel_rfl) rfl (by simp [fillL, setN, Value.cells]; rfl) (by decide) ?_
  refine xk_alloc (cs := [.slice none 0 0, .slice none 0 0, .slice none 0 0, .slice none 0 0]) (zeroB_of (by kernel_rfl)) (by decide) fun g2 => ?_
  (first | (refine xk_storeN 0 rfl rfl rfl (by kernel_rfl) (by simp [Value.cells, Value.oneCell']) (by simp [Value.cells]) ?_) | (refine xk_storeN 1 rfl rfl rfl (by kernel_rfl) (by simp [Value.cells, Value.oneCell']) (by simp [Value.cells]) ?_) | (refine xk_storeN 2 rfl rfl rfl (by kernel_rfl) (by simp [Value.cells, Value.oneCell']) (by simp [Value.cells]) ?_) | (refine xk_storeN 3 rfl rfl rfl (by kernel_rfl) (by simp [Value.cells, Value.oneCell']) (by simp [Value.cells]) ?_) | (refine xk_storeN 4 rfl rfl rfl (by kernel_rfl) (by simp [Value.cells, Value.oneCell']) (by simp [Value.cells]) ?_) | (refine xk_storeN 5 rfl rfl rfl (by kernel_rfl) (by simp [Value.cells, Value.oneCell']) (by simp [Value.cells]) ?_) | (refine xk_storeN 6 rfl rfl rfl (by kernel_rfl) (by simp [Value.cells, Value.oneCell']) (by simp [Value.cells]) ?_) | (refine xk_storeN 7 rfl rfl rfl (by kernel_rfl) (by simp [Value.cells, Value.oneCell']) (by simp [Value.cells]) ?_) | (refine xk_storeN 8 rfl rfl rfl (by kernel_rfl) (by simp [Value.cells, Value.oneCell']) (by simp [Value.cells]) ?_)); simp only [putN, Value.cells, List.set, List.take, List.drop, List.nil_append, List.append_nil, List.length_cons, List.length_nil, List.cons_append, Nat.reduceAdd]
  refine XK.nilN ?_
  refine XK.seq ?_

  refine XK.region ?_
  refine xk_ldN 4 rfl ?_
  refine xk_slice (el := 4) (sz := 1) (zs := [.bool false]) (by kernel_rfl) (zeroB_of (by kernel_rfl)) (by kernel_rfl) rfl (by decide) (by decide) rfl (by simp [fillL, setN, Value.cells, List.range_succ, List.set]; rfl) (by decide) fun g3 => ?_
  refine xk_buildS (zs := [.slice none 0 0, .slice none 0 0, .slice none 0 0]) (L := [(0, 1), (1, 1), (2, 1)]) (zeroB_of (by kernel_rfl)) (by kernel_rfl) rfl (by simp [fillL, setN, Value.cells]; rfl) (by decide) ?_
  refine xk_slice (el := 4) (sz := 1) (zs := [.bool false]) (by kernel_rfl) (zeroB_of (by kernel_rfl)) (by kernel_rfl) rfl (by decide) (by decide) rfl (by simp [fillL, setN, Value.cells, List.range_succ, List.set]; rfl) (by decide) fun g4 => ?_
  refine xk_buildS (zs := [.slice none 0 0, .slice none 0 0, .slice none 0 0]) (L := [(0, 1), (1, 1), (2, 1)]) (zeroB_of (by kernel_rfl)) (by kernel_rfl) rfl (by simp [fillL, setN, Value.cells]; rfl) (by decide) ?_
  refine xk_call [] (f := 19) (fi := []) (ca := []) (by kernel_rfl) rfl rfl (by decide) (by simp) (StepsR [⟨17, 4, 0, 1⟩]) (fun w1 st => by
    have h := steps_S soc1 none (some ⟨g1, 0, none⟩) none none (some ⟨g3, 0, none⟩) none none (some ⟨g4, 0, none⟩) none none 0 0 1 1 0 0 0 0 1 1 0 0 0 0 1 1 0 0 0 0 [false] [] [] [true] [] [] w1 (soc1_W (st.slS (i := 3) rfl rfl)) soc1_check (by rw [soc1_doms]; decide) (by rw [soc1_clks]; decide) (by rw [soc1_doms]; decide) (by rw [soc1_clks]; decide)
      (st.slS (i := 1) rfl rfl) rfl (st.slS (i := 0) rfl rfl) rfl (SlS.nil _ _) rfl (SlS.nil _ _) rfl (SlS.nil _ _) rfl (SlS.nil _ _) rfl
    rw [soc1_steps] at h
    exact h.mono fun z w' ⟨⟨A, c, hz, hs⟩, hb⟩ => ⟨⟨_, hz, A, c, rfl, hs⟩, hb⟩) ?_
  rintro _ w1 q1 ⟨A, c, rfl, hs⟩ hf _ _
  have hs := hs.le hf
  obtain ⟨b, off, rfl, hz, hc⟩ := hs.2 (by decide)
  clear hf
  refine xk_assign rfl (by decide) ?_
  refine XK.nilN ?_
  refine XK.seq ?_

  refine XK.region ?_
  refine xk_move rfl (by decide) ?_
  refine xk_len (el := 59) (by kernel_rfl) rfl (by decide) ?_
  refine xk_eql rfl rfl (by decide) ?_
  refine xk_move rfl (by decide) ?_
  refine xk_split (t := 15) rfl (fun hg => ?_) (fun hg => ?_)
  ·
    refine xk_guardT rfl rfl ?_; refine xk_move rfl (by decide) ?_
    refine xk_guardT rfl rfl ?_; refine xk_at 0 off (el := 59) (sz := 4) (by kernel_rfl) (by kernel_rfl) rfl rfl rfl (by decide) (by omega) (by decide) ?_
    refine xk_guardT rfl rfl ?_; refine xk_loadN 4 (by kernel_rfl) rfl (RdN.of (vs := [.int .i64 17, .int .i64 4, .int .u32 0, .int .u32 1]) fun j v hj => Rd.ro (p := q1) (by simp) hz (hc j v hj)) rfl (by decide) ?_
    refine xk_guardT rfl rfl ?_; refine xk_buildS (zs := [.int .i64 0, .int .i64 0, .int .u32 0, .int .u32 0]) (L := [(0, 1), (1, 1), (2, 1), (3, 1)]) (zeroB_of (by kernel_rfl)) (by kernel_rfl) rfl (by simp [fillL, setN, Value.cells]; rfl) (by decide) ?_
    refine xk_guardT rfl rfl ?_; refine xk_eqlS (xs := [.int .i64 17, .int .i64 4, .int .u32 0, .int .u32 1]) (ys := [.int .i64 17, .int .i64 4, .int .u32 0, .int .u32 1]) (by kernel_rfl) rfl rfl (by decide) ?_
    (first | refine xk_pickT rfl rfl (by decide) ?_ | refine xk_pickF rfl rfl (by decide) ?_)
    refine xk_assign rfl (by decide) ?_
    refine XK.nilN ?_
    refine XK.ret ?_
    refine XK.norm ?_
    exact XK.ret1 rfl rfl fun w1 st => ⟨rfl, st.below (by simp)⟩
  ·
    exact absurd rfl hg

end Go.Proofs.Ytbgibbbggajgaaa
/- The steps of a chip that is made: which stands ahead of which. No walk in sight; and rows, as a piece shows them. -/
namespace Go.Proofs.Ytbgibbbggajgaaa
set_option linter.all false
open Go.RowKit
/-- element k of a row that a piece shows -/
theorem RsR.rowP {α : Type} {p : Piece} {R : α → List Value → Prop} {t : TypeId} {sz n : Nat} {A : Option Addr} {es : List α} (h : RsR (slq p) R t sz A n es) {k : Nat} {e : α} (hk : es[k]? = some e) :
    ∃ b off r, A = some ⟨b, off, none⟩ ∧ p.Z b ∧ r.length = sz ∧ R e r ∧ ∀ f u, r[f]? = some u → p.w.cell? ⟨b, off + k * sz + f, none⟩ = some u := by
  obtain ⟨rows, h1, h2, h3⟩ := h
  have hlt : k < n := by
    rw [h2]
    rcases Nat.lt_or_ge k es.length with h | h
    · exact h
    · rw [List.getElem?_eq_none h] at hk; cases hk
  obtain ⟨b, off, hA, hb, hc⟩ := SlS.at_ h3 hlt
  obtain ⟨r, h4, h5, h6⟩ := h1.get hk
  refine ⟨b, off, r, hA, hb, h4, h5, fun f u hu => hc f u ?_⟩
  have hf : f < sz := by
    rw [← h4]
    rcases Nat.lt_or_ge f r.length with h | h
    · exact h
    · rw [List.getElem?_eq_none h] at hu; cases hu
  rw [h6 f hf, hu]
theorem Stp.cells_len (p : Stp) : p.cells.length = 4 := rfl
/-- step k of a row of steps -/
theorem SlS.step {p : Piece} {A : Option Addr} {L : List Stp} (h : SlS p 4 A L.length (L.flatMap Stp.cells)) {k : Nat} {x : Stp} (hk : L[k]? = some x) :
    ∃ b off, A = some ⟨b, off, none⟩ ∧ p.Z b ∧ ∀ f u, x.cells[f]? = some u → p.w.cell? ⟨b, off + k * 4 + f, none⟩ = some u := by
  have hlt := (List.getElem?_eq_some_iff.1 hk).1
  obtain ⟨b, off, hA, hb, hc⟩ := SlS.at_ h hlt
  refine ⟨b, off, hA, hb, fun f u hu => hc f u ?_⟩
  have hf : f < 4 := by
    rw [← Stp.cells_len x]
    rcases Nat.lt_or_ge f x.cells.length with h | h
    · exact h
    · rw [List.getElem?_eq_none h] at hu; cases hu
  rw [flat_get Stp.cells 4 L (fun _ _ => rfl) k f x hk hf, hu]
theorem mem_stepL {p : Stp} {pr msg : Int} {val : Nat → Int} {ids : List Nat} (h : p ∈ stepL pr msg val ids) : ∃ i ∈ ids, p = ⟨pr, msg, i, val i⟩ := by
  simp only [stepL, List.mem_map] at h
  obtain ⟨i, hi, rfl⟩ := h
  exact ⟨i, hi, rfl⟩
theorem retV_01 (s : Soc) (k : Nat) : retV s k = 0 ∨ retV s k = 2 := by unfold retV; split <;> simp
theorem stepL_ok {pr msg : Int} {val : Nat → Int} {ids : List Nat} (h1 : pr = 17 ∨ pr = 20 ∨ pr = 22) (h2 : msg = 4 ∨ msg = 7) (hv : ∀ k, val k = 0 ∨ val k = 1 ∨ val k = 2) (hi : ∀ i ∈ ids, i < 1000) : ∀ p ∈ stepL pr msg val ids, p.ok := by
  intro p hp
  obtain ⟨i, hi', rfl⟩ := mem_stepL hp
  have h3 := hi i hi'
  have h4 := hv i
  exact ⟨by dsimp only; omega, by dsimp only; omega, by dsimp only; omega, by dsimp only; omega⟩
theorem allM_ok {s : Soc} (hm : s.made) (x y : Wsh) : ∀ p ∈ allM s x y, p.ok := by
  have h1 := hm.nc
  have h2 := hm.nd
  have h3 := hm.nr
  have mr : ∀ (n : Nat) (fr to : List Bool), n ≤ 9 → ∀ i ∈ moreL (List.range n) fr to, i < 1000 := fun n fr to hn i hi => by have := List.mem_range.1 (List.mem_filter.1 hi).1; omega
  have mv : ∀ (n : Nat) (fr to : List Bool), n ≤ 9 → ∀ i ∈ moreL (List.range n).reverse fr to, i < 1000 := fun n fr to hn i hi => by have := List.mem_range.1 (List.mem_reverse.1 (List.mem_filter.1 hi).1); omega
  intro p hp
  simp only [allM, allL, List.mem_append] at hp
  rcases hp with hp | hp | hp | hp | hp | hp
  · exact stepL_ok (by omega) (by omega) (fun _ => by omega) (mr _ _ _ (by omega)) p hp
  · exact stepL_ok (by omega) (by omega) (fun _ => by omega) (mr _ _ _ (by omega)) p hp
  · exact stepL_ok (by omega) (by omega) (fun _ => by omega) (mr _ _ _ (by omega)) p hp
  · exact stepL_ok (by omega) (by omega) (fun _ => by omega) (mr _ _ _ (by omega)) p hp
  · exact stepL_ok (by omega) (by omega) (fun _ => by omega) (mv _ _ _ (by omega)) p hp
  · exact stepL_ok (by omega) (by omega) (fun k => by have := retV_01 s k; omega) (mv _ _ _ (by omega)) p hp
theorem allM_len {s : Soc} (hm : s.made) (x y : Wsh) : (allM s x y).length ≤ 32 := by
  have h1 := hm.nc
  have h2 := hm.nd
  have h3 := hm.nr
  refine Nat.le_trans (allL_len _ _ _ _ _ _ _ _ _ _) ?_
  simp only [List.length_range]
  omega
end Go.Proofs.Ytbgibbbggajgaaa
/- The steps from some wishes to others lead there, and are as many as those back. No walk in sight. -/
namespace Go.Proofs.Ytbgibbbggajgaaa
set_option linter.all false
open Go.RowKit
theorem turn_same (l : List Bool) (i : Nat) : turnB l l i = false := by unfold turnB; cases hasB l i <;> rfl
theorem moreL_same (ids : List Nat) (l : List Bool) : moreL ids l l = [] := by
  unfold moreL
  rw [List.filter_eq_nil_iff]
  intro i _
  rw [turn_same]
  simp
theorem allM_same (s : Soc) (x : Wsh) : allM s x x = [] := by simp [allM, allL, moreL_same, stepL]
/-- many bits are as they are to be -/
theorem putB_get (l : List Bool) (i j : Nat) (b : Bool) : (putB l (i : Int) b)[j]? = if i = j then (l[j]?).map (fun _ => b) else l[j]? := by
  unfold putB
  rw [Int.toNat_natCast, List.getElem?_set]
  by_cases h : i = j
  · subst h
    rw [if_pos rfl, if_pos rfl]
    by_cases hl : i < l.length
    · rw [if_pos hl, List.getElem?_eq_getElem hl]; rfl
    · rw [if_neg hl, List.getElem?_eq_none (by omega)]; rfl
  · rw [if_neg h, if_neg h]
theorem putB_fold (b : Bool) : ∀ (ids : List Nat) (l : List Bool) (j : Nat), (ids.foldl (fun d (i : Nat) => putB d (i : Int) b) l)[j]? = if j ∈ ids then (l[j]?).map (fun _ => b) else l[j]?
  | [], l, j => by simp
  | i :: ids, l, j => by
    rw [List.foldl_cons, putB_fold b ids, putB_get]
    by_cases h2 : i = j
    · subst h2
      by_cases h1 : i ∈ ids <;> simp [h1] <;> (cases l[i]? <;> rfl)
    · have h3 : ¬ j = i := fun e => h2 e.symm
      by_cases h1 : j ∈ ids <;> simp [h1, h2, h3]
theorem fold_d {val : Nat → Int} {b : Bool} (h : ∀ k, val k ≤ 2 ∧ decide (val k = 1) = b) : ∀ (ids : List Nat) (x : Wsh), (stepL 17 4 val ids).foldl applyW x = ⟨ids.foldl (fun d (i : Nat) => putB d (i : Int) b) x.d, x.c, x.l⟩
  | [], x => rfl
  | i :: ids, x => by
    have h1 := h i
    have e : applyW x ⟨17, 4, (i : Int), val i⟩ = ⟨putB x.d (i : Int) b, x.c, x.l⟩ := by
      unfold applyW
      dsimp only
      rw [if_pos ⟨rfl, rfl, h1.1⟩, h1.2]
    show (stepL 17 4 val ids).foldl applyW (applyW x ⟨17, 4, (i : Int), val i⟩) = _
    rw [e, fold_d h ids]
    rfl
theorem fold_c {val : Nat → Int} {b : Bool} (h : ∀ k, val k ≤ 1 ∧ decide (val k = 1) = b) : ∀ (ids : List Nat) (x : Wsh), (stepL 20 7 val ids).foldl applyW x = ⟨x.d, ids.foldl (fun d (i : Nat) => putB d (i : Int) b) x.c, x.l⟩
  | [], x => rfl
  | i :: ids, x => by
    have h1 := h i
    have e : applyW x ⟨20, 7, (i : Int), val i⟩ = ⟨x.d, putB x.c (i : Int) b, x.l⟩ := by
      unfold applyW
      dsimp only
      rw [if_neg (by omega), if_pos ⟨rfl, rfl, h1.1⟩, h1.2]
    show (stepL 20 7 val ids).foldl applyW (applyW x ⟨20, 7, (i : Int), val i⟩) = _
    rw [e, fold_c h ids]
    rfl
theorem fold_l {val : Nat → Int} {b : Bool} (h : ∀ k, val k ≤ 1 ∧ decide (val k = 0) = b) : ∀ (ids : List Nat) (x : Wsh), (stepL 22 4 val ids).foldl applyW x = ⟨x.d, x.c, ids.foldl (fun d (i : Nat) => putB d (i : Int) b) x.l⟩
  | [], x => rfl
  | i :: ids, x => by
    have h1 := h i
    have e : applyW x ⟨22, 4, (i : Int), val i⟩ = ⟨x.d, x.c, putB x.l (i : Int) b⟩ := by
      unfold applyW
      dsimp only
      rw [if_neg (by omega), if_neg (by omega), if_pos ⟨rfl, rfl, h1.1⟩, h1.2]
    show (stepL 22 4 val ids).foldl applyW (applyW x ⟨22, 4, (i : Int), val i⟩) = _
    rw [e, fold_l h ids]
    rfl
theorem mem_more {n i : Nat} {a b : List Bool} : i ∈ moreL (List.range n) a b ↔ i < n ∧ turnB a b i = true := by simp [moreL]
theorem mem_moreR {n i : Nat} {a b : List Bool} : i ∈ moreL (List.range n).reverse a b ↔ i < n ∧ turnB a b i = true := by simp [moreL]
/-- up, and down: there -/
theorem turned {n : Nat} {a b : List Bool} {up dn : List Nat} (ha : a.length = n) (hb : b.length = n) (hu : ∀ i, i ∈ up ↔ i < n ∧ turnB a b i = true) (hd : ∀ i, i ∈ dn ↔ i < n ∧ turnB b a i = true) :
    dn.foldl (fun d (i : Nat) => putB d (i : Int) false) (up.foldl (fun d (i : Nat) => putB d (i : Int) true) a) = b := by
  apply List.ext_getElem?
  intro j
  rw [putB_fold, putB_fold]
  rcases Nat.lt_or_ge j n with h | h
  · have h1 := hu j
    have h2 := hd j
    have e1 : a[j]? = some (a[j]'(by omega)) := List.getElem?_eq_getElem _
    have e2 : b[j]? = some (b[j]'(by omega)) := List.getElem?_eq_getElem _
    simp only [turnB, hasB, e1, e2, Option.getD_some] at h1 h2 ⊢
    cases ha' : a[j]'(by omega) <;> cases hb' : b[j]'(by omega) <;> simp [ha', hb', h, h1, h2] at h1 h2 ⊢ <;> simp [h1, h2]
  · rw [List.getElem?_eq_none (by omega), List.getElem?_eq_none (by omega)]
    simp
structure Wsh.of (x : Wsh) (s : Soc) : Prop where
  d : x.d.length = s.domains.length
  c : x.c.length = s.clocks.length
  l : x.l.length = s.resets.length
theorem fold_all {s : Soc} {x y : Wsh} (hx : x.of s) (hy : y.of s) : (allM s x y).foldl applyW x = y := by
  unfold allM allL
  simp only [List.foldl_append]
  rw [fold_d (val := fun _ => 1) (b := true) (fun _ => ⟨by decide, rfl⟩), fold_c (val := fun _ => 1) (b := true) (fun _ => ⟨by decide, rfl⟩), fold_l (val := fun _ => 0) (b := true) (fun _ => ⟨by decide, rfl⟩), fold_l (val := fun _ => 1) (b := false) (fun _ => ⟨by decide, rfl⟩), fold_c (val := fun _ => 0) (b := false) (fun _ => ⟨by decide, rfl⟩),
    fold_d (val := retV s) (b := false) (fun k => by have := retV_01 s k; exact ⟨by omega, decide_eq_false (by omega)⟩)]
  dsimp only
  rw [turned hx.d hy.d (fun i => mem_more) (fun i => mem_moreR), turned hx.c hy.c (fun i => mem_more) (fun i => mem_moreR), turned hx.l hy.l (fun i => mem_more) (fun i => mem_more)]
theorem fold_next {L : List Stp} {k : Nat} {p : Stp} {x : Wsh} (h : L[k]? = some p) : (L.take (k + 1)).foldl applyW x = applyW ((L.take k).foldl applyW x) p := by
  rw [List.take_add_one, h, List.foldl_append]
  rfl
end Go.Proofs.Ytbgibbbggajgaaa
/- The small logic: several new blocks, in whatever order they come up. -/
namespace Go.Proofs.Ytbgibbbggajgaaa
set_option linter.all false
open Go.RowKit
/-- an operation that makes a block: its slot, the block's type and cells, what it yields -/
structure AL where
  d : Nat
  t : TypeId
  cs : List Value
  val : Nat → Value
def envA (al : Nat → AL) (g : Nat → Nat) (ds : List Nat) (e : Env) : Env := ds.map (fun i => ((al i).d, (al i).val (g i))) ++ e
def hpA (al : Nat → AL) (g : Nat → Nat) (ds : List Nat) (H : List HP) : List HP := ds.map (fun i => HP.blk (g i) (al i).t (al i).cs) ++ H
def markA (ds : List Nat) (l : Array Bool) : Array Bool := ds.foldr (fun i a => a.setIfInBounds i true) l
def subsN : List Nat → List (List Nat)
  | [] => [[]]
  | i :: l => (subsN l).map (i :: ·) ++ subsN l
theorem subsN_filter (p : Nat → Bool) : ∀ l : List Nat, l.filter p ∈ subsN l
  | [] => by simp [subsN]
  | i :: l => by
    unfold subsN
    rw [List.filter_cons]
    split
    · exact List.mem_append_left _ (List.mem_map_of_mem (subsN_filter p l))
    · exact List.mem_append_right _ (subsN_filter p l)
def readyA (ops : Array Oper) (idx : List Nat) (ex : List (List Nat)) (listed : Array Bool) : Bool :=
  (subsN idx).all fun sub => ex.contains sub || (!(Region.ready .any ops (markA sub listed)).isEmpty && (Region.ready .any ops (markA sub listed)).all fun j => idx.contains j && !sub.contains j)
theorem markA_perm {l1 l2 : List Nat} (h : l1.Perm l2) (l : Array Bool) : markA l1 l = markA l2 l := by
  induction h with
  | nil => rfl
  | cons x _ ih => show (markA _ l).setIfInBounds x true = _; rw [ih]; rfl
  | swap x y s =>
    show ((markA s l).setIfInBounds x true).setIfInBounds y true = ((markA s l).setIfInBounds y true).setIfInBounds x true
    by_cases hxy : x = y
    · rw [hxy]
    · exact Array.setIfInBounds_comm _ _ hxy
  | trans _ _ h1 h2 => exact h1.trans h2
section
variable {P : Program} {N : Nat} {w0 w : World} {e : Env} {R R0 : List Piece} {H H0 : List HP} {Q : Exit → Act → World → Prop} {ops : Array Oper} {m fuel : Nat} {listed : Array Bool} {K : Act → World → Prop}
variable {al : Nat → AL} {g g' : Nat → Nat}
theorem get_cons (k : Nat) (v : Value) (e : Env) (t : Nat) : Env.get ((k, v) :: e) t = if k = t then some v else e.get t := by
  show (match Nat.beq k t with | true => some v | false => Env.get e t) = _
  by_cases h : k = t
  · subst h; rw [if_pos rfl, Nat.beq_refl]
  · rw [if_neg h]
    cases hb : Nat.beq k t with
    | true => exact absurd (Nat.eq_of_beq_eq_true hb) h
    | false => rfl
theorem envA_perm {l1 l2 : List Nat} (h : l1.Perm l2) (hn : (l1.map fun i => (al i).d).Nodup) (t : Nat) : (envA al g l1 e).get t = (envA al g l2 e).get t := by
  induction h with
  | nil => rfl
  | cons x _ ih =>
    show Env.get ((_, _) :: envA al g _ e) t = Env.get ((_, _) :: envA al g _ e) t
    rw [get_cons, get_cons, ih (List.nodup_cons.1 (show ((al x).d :: List.map (fun i => (al i).d) _).Nodup from hn)).2]
  | swap x y s =>
    show Env.get ((_, _) :: (_, _) :: envA al g s e) t = Env.get ((_, _) :: (_, _) :: envA al g s e) t
    have hne : (al y).d ≠ (al x).d := fun he => (List.nodup_cons.1 (show ((al y).d :: (al x).d :: List.map (fun i => (al i).d) s).Nodup from hn)).1 (by rw [he]; exact List.mem_cons_self)
    simp only [get_cons]
    by_cases h1 : (al x).d = t
    · rw [if_pos h1, if_neg (fun h2 => hne (h2.trans h1.symm)), if_pos h1]
    · rw [if_neg h1, if_neg h1]
  | trans h1 h2 i1 i2 => exact (i1 hn).trans (i2 ((h1.map _).nodup_iff.1 hn))
theorem hpA_perm {l1 l2 : List Nat} (h : l1.Perm l2) : ∀ pre : List HP, St w0 R (pre ++ hpA al g l1 H) w → St w0 R (pre ++ hpA al g l2 H) w := by
  induction h with
  | nil => exact fun _ h => h
  | cons x _ ih =>
    intro pre st
    have := ih (pre ++ [HP.blk (g x) (al x).t (al x).cs]) (by rw [List.append_assoc]; exact st)
    rw [List.append_assoc] at this
    exact this
  | swap x y s =>
    intro pre st
    refine st.weak (fun _ hp => hp) (fun i => if i = pre.length then pre.length + 1 else if i = pre.length + 1 then pre.length else i) (fun i j _ _ he => ?_) (fun i p hi => ?_)
    · split at he <;> split at he <;> (try split at he) <;> (try split at he) <;> omega
    · change (pre ++ HP.blk (g x) (al x).t (al x).cs :: HP.blk (g y) (al y).t (al y).cs :: hpA al g s H)[i]? = some p at hi
      show (pre ++ HP.blk (g y) (al y).t (al y).cs :: HP.blk (g x) (al x).t (al x).cs :: hpA al g s H)[_]? = some p
      rcases Nat.lt_or_ge i pre.length with h | h
      · rw [if_neg (by omega), if_neg (by omega), List.getElem?_append_left h]
        rwa [List.getElem?_append_left h] at hi
      · obtain ⟨k, rfl⟩ : ∃ k, i = pre.length + k := ⟨i - pre.length, by omega⟩
        rw [List.getElem?_append_right (by omega), Nat.add_sub_cancel_left] at hi
        match k, hi with
        | 0, hi =>
          rw [if_pos (by omega), List.getElem?_append_right (by omega), Nat.add_sub_cancel_left]
          exact hi
        | 1, hi =>
          rw [if_neg (by omega), if_pos rfl, List.getElem?_append_right (by omega), Nat.sub_self]
          exact hi
        | k + 2, hi =>
          rw [if_neg (by omega), if_neg (by omega), List.getElem?_append_right (by omega), Nat.add_sub_cancel_left]
          exact hi
  | trans _ _ i1 i2 => exact fun pre st => i2 pre (i1 pre st)
/-- the operation makes the block, wherever the slots are so -/
def Makes (P : Program) (N : Nat) (e : Env) (o : Oper) (x : AL) : Prop := ∀ a w, Rep N e a → (execOp a.eval o).run P w = .ok (.value (x.val w.heap.size)) (w.alloc (.cells x.cs.toArray x.t))
theorem makes_alloc {t ty : TypeId} {d : Nat} {pos : String} {aft : Array Edge} {cs : List Value} (ht : zeroB P t cs) : Makes P N e ⟨some d, .alloc t, ty, pos, aft, none⟩ ⟨d, t, cs, fun g => .pointer (some ⟨g, 0, none⟩)⟩ := fun a w hr => by
  obtain ⟨i, z, hi, hz, rfl⟩ := ht
  simp [execOp, Instr.alloc, zeroValue, typeInfo, hi, hz, newVar, newRow]
theorem makes_make (bytes : Nat) {x y : Operand} {t el ty : TypeId} {d n : Nat} {z : Value} {pos : String} {aft : Array Edge} {kd kd' : IntKind} (ht : P.underlying t = some (.slice el)) (hT : (P.info? el).map (fun i => (i.zero, i.size, i.bytes)) = some (some z, 1, bytes)) (hzc : z.cells = #[z]) (hx : e.ev x = some (.int kd (n : Int))) (hy : e.ev y = some (.int kd' (n : Int)))
    (hb : bytes * n ≤ 281474976710656) (hn : (n : Int) ≤ 9223372036854775807) : Makes P N e ⟨some d, .makeSlice t x y, ty, pos, aft, none⟩ ⟨d, el, List.replicate n z, fun g => .slice (some ⟨g, 0, none⟩) n n⟩ := fun a w hr => by
  obtain ⟨i, hi, he⟩ := Option.map_eq_some_iff.1 hT
  simp only [Prod.mk.injEq] at he
  obtain ⟨h1, h2, rfl⟩ := he
  have := run_make (P := P) w t el i z ht hi h1 kd kd' n n (by omega) (Int.le_refl _) (by rw [← Int.natCast_mul]; omega) hn
  have hm : madeCells z.cells (n * i.size) = (List.replicate n z).toArray := by
    rw [h2, Nat.mul_one, hzc]
    unfold madeCells
    apply Array.ext
    · simp
    · intro j h1 h2
      simp
      rw [Nat.mod_one]
      rfl
  simp only [Int.toNat_natCast, hm] at this
  simp only [execOp, hr.ev hx, hr.ev hy, Sem.run_bind, this, Result.andThen_ok, Sem.run_pure]
structure ALok (P : Program) (N : Nat) (ops : Array Oper) (e : Env) (x : AL) (i : Nat) : Prop where
  ok : ∃ o, ops[i]? = some o ∧ o.guard = none ∧ o.dst = some x.d ∧ Makes P N e o x
  lt : x.d < N
  new : e.get x.d = none
theorem ALok.of {o : Oper} {x : AL} {i : Nat} (h1 : ops[i]? = some o) (h2 : o.guard = none) (h3 : o.dst = some x.d) (h4 : Makes P N e o x) (h5 : x.d < N) (h6 : e.get x.d = none) : ALok P N ops e x i := ⟨⟨o, h1, h2, h3, h4⟩, h5, h6⟩
theorem envA_old {ds : List Nat} (hn : ∀ i ∈ ds, e.get (al i).d = none) {t : Nat} {v : Value} (h : e.get t = some v) : (envA al g ds e).get t = some v := by
  induction ds with
  | nil => exact h
  | cons i ds ih =>
    show Env.get ((_, _) :: envA al g ds e) t = some v
    rw [get_cons, if_neg (fun he => by have := hn i (by simp); rw [he, h] at this; cases this)]
    exact ih fun j hj => hn j (by simp [hj])
theorem Rep.envA_base {a : Act} {ds : List Nat} (hn : ∀ i ∈ ds, e.get (al i).d = none) (h : Rep N (envA al g ds e) a) : Rep N e a := ⟨h.size, h.defers, fun t v ht => h.get t v (envA_old hn ht)⟩
theorem St.unA {ds : List Nat} (h : St w0 R (hpA al g ds H) w) : St w0 R H w := h.weak (fun _ hp => hp) (fun i => i + ds.length) (fun i j _ _ he => by omega) (fun i p hi => by
  show (ds.map _ ++ H)[i + ds.length]? = some p
  rw [List.getElem?_append_right (by simp)]
  simpa using hi)
theorem XA.allocs (idx : List Nat) (ex : List (List Nat)) (al : Nat → AL) (hok : ∀ i ∈ idx, ALok P N ops e (al i) i) (hd : (idx.map fun i => (al i).d).Nodup) (hr : readyA ops idx ex listed = true) (hS : ∀ w, St w0 R H w → St w0 R0 H0 w)
    (k : ∀ sub ∈ subsN idx, ex.contains sub = true → ∀ g : Nat → Nat, XA P N w0 ops Q R0 H0 m (fuel + (idx.length - sub.length)) (markA sub listed) (envA al g sub e) R (hpA al g sub H)) : XA P N w0 ops Q R0 H0 m (fuel + idx.length) listed e R H := by
  have hni : idx.Nodup := (List.pairwise_map.1 hd).imp fun h e => h (by rw [e])
  have key : ∀ (n : Nat) (ds : List Nat) (g : Nat → Nat), ds.Nodup → (∀ i ∈ ds, i ∈ idx) → ds.length + n = idx.length → XA P N w0 ops Q R0 H0 m (fuel + n) (markA ds listed) (envA al g ds e) R (hpA al g ds H) := by
    intro n
    induction n with
    | zero =>
      intro ds g hn hin hl
      have hperm : (idx.filter fun i => ds.contains i).Perm ds := by
        rw [List.perm_iff_count]
        intro a
        rw [(hni.sublist List.filter_sublist).count, hn.count]
        by_cases ha : a ∈ ds
        · rw [if_pos ha, if_pos (by simp [ha, hin a ha])]
        · rw [if_neg ha, if_neg (by simp [ha])]
      have hlen := hperm.length_eq
      have heq : (idx.filter fun i => ds.contains i) = idx := List.filter_sublist.eq_of_length (by omega)
      have hr1 := List.all_eq_true.1 hr _ (subsN_filter (fun i => ds.contains i) idx)
      rw [Bool.or_eq_true] at hr1
      rcases hr1 with hc | hc
      · have h := k _ (subsN_filter _ idx) hc g
        rw [markA_perm hperm, show fuel + (idx.length - (idx.filter fun i => ds.contains i).length) = fuel + 0 by omega] at h
        exact fun up a w hrp st => h up a w ⟨hrp.size, hrp.defers, fun t v ht => hrp.get t v (by rw [← envA_perm hperm (by rw [heq]; exact hd)]; exact ht)⟩ (hpA_perm hperm.symm [] st)
      · exfalso
        rw [Bool.and_eq_true, List.all_eq_true] at hc
        obtain ⟨h1, h2⟩ := hc
        rw [heq] at h1 h2
        cases hrd : Region.ready .any ops (markA idx listed) with
        | nil => rw [hrd] at h1; cases h1
        | cons j js =>
          rw [hrd] at h2
          have := h2 j (by simp)
          simp at this
    | succ n ih =>
      intro ds g hn hin hl
      have hperm : (idx.filter fun i => ds.contains i).Perm ds := by
        rw [List.perm_iff_count]
        intro a
        rw [(hni.sublist List.filter_sublist).count, hn.count]
        by_cases ha : a ∈ ds
        · rw [if_pos ha, if_pos (by simp [ha, hin a ha])]
        · rw [if_neg ha, if_neg (by simp [ha])]
      have hlen := hperm.length_eq
      have hr1 := List.all_eq_true.1 hr _ (subsN_filter (fun i => ds.contains i) idx)
      rw [Bool.or_eq_true] at hr1
      rcases hr1 with hc | hc
      · have h := k _ (subsN_filter _ idx) hc g
        rw [markA_perm hperm, show fuel + (idx.length - (idx.filter fun i => ds.contains i).length) = fuel + (n + 1) by omega] at h
        have hnd : ((idx.filter fun i => ds.contains i).map fun i => (al i).d).Nodup := hd.sublist (List.filter_sublist.map _)
        exact fun up a w hrp st => h up a w ⟨hrp.size, hrp.defers, fun t v ht => hrp.get t v (by rw [← envA_perm hperm hnd]; exact ht)⟩ (hpA_perm hperm.symm [] st)
      · rw [Bool.and_eq_true, List.all_eq_true, markA_perm hperm] at hc
        obtain ⟨h1, h2⟩ := hc
        intro up a w hrp st
        show wpAnyX P ops Q (St w0 R0 H0) m ((fuel + n) + 1) (markA ds listed) a w
        refine ⟨(fun h => by rw [h] at h1; exact absurd h1 (by decide)), fun j hj => ?_⟩
        have hj2 := h2 j hj
        simp only [Bool.and_eq_true, Bool.not_eq_true', List.contains_eq_mem, decide_eq_true_eq, decide_eq_false_iff_not, List.mem_filter, not_and] at hj2
        have hjd : j ∉ ds := hj2.2 hj2.1
        obtain ⟨⟨o, ho, hog, hod, hmk⟩, hlt, hnew⟩ := hok j hj2.1
        have hrun := hmk a w (hrp.envA_base fun i hi => (hok i (hin i hi)).new)
        let g' : Nat → Nat := fun i => if i = j then w.heap.size else g i
        have hg1 : envA al g' (j :: ds) e = ((al j).d, (al j).val w.heap.size) :: envA al g ds e := by
          show ((al j).d, (al j).val (g' j)) :: (ds.map _ ++ e) = _
          rw [show g' j = w.heap.size from if_pos rfl]
          congr 1
          unfold envA
          congr 1
          refine List.map_congr_left fun i hi => ?_
          rw [show g' i = g i from if_neg (fun he : i = j => hjd (he ▸ hi))]
        have hg2 : hpA al g' (j :: ds) H = HP.blk w.heap.size (al j).t (al j).cs :: hpA al g ds H := by
          show HP.blk (g' j) _ _ :: (ds.map _ ++ H) = _
          rw [show g' j = w.heap.size from if_pos rfl]
          congr 1
          unfold hpA
          congr 1
          refine List.map_congr_left fun i hi => ?_
          rw [show g' i = g i from if_neg (fun he : i = j => hjd (he ▸ hi))]
        have st' : St w0 R (hpA al g' (j :: ds) H) (w.alloc (.cells (al j).cs.toArray (al j).t)) := by
          rw [hg2]
          exact st.new (alloc_below w _) (fresh_blk w _ _)
        have h := ih (j :: ds) g' (List.nodup_cons.2 ⟨hjd, hn⟩) (fun i hi => by
          rcases List.mem_cons.1 hi with rfl | hi
          · exact hj2.1
          · exact hin i hi) (by simp only [List.length_cons]; omega)
        rw [hg1] at h
        have hfin := h (up.set_ hj) (a.put (some (al j).d) ((al j).val w.heap.size)) _ (hrp.put hlt _) st'
        unfold wpOp
        simp only [ho]
        have hw : Region.wanted o (yielded ops a.tmps) = true := by simp [Region.wanted, hog]
        simp only [hw, if_true, Oper.wp, hrun, Oper.upon, hod]
        exact .inl ⟨fun _ => hS _ st'.unA, hfin⟩
  have := key idx.length [] (fun _ => 0) List.nodup_nil (fun i hi => by cases hi) (by simp)
  exact this
end
end Go.Proofs.Ytbgibbbggajgaaa
/- What devices in use want, in plain words. No walk in sight. -/
namespace Go.Proofs.Ytbgibbbggajgaaa
set_option linter.all false
open Go.RowKit
/-- a clock, and what it comes from -/
def chainN (s : Soc) : Nat → Nat → List Nat
  | 0, _ => []
  | k + 1, c => match s.clocks[c]? with
    | some x => c :: (match x.src with
      | [] => []
      | f :: _ => chainN s k f.toNat)
    | none => []
def chainL (s : Soc) (c : Nat) : List Nat := chainN s s.clocks.length c
theorem chainN_in (s : Soc) : ∀ (k c : Nat), ∀ i ∈ chainN s k c, i < s.clocks.length
  | 0, c, i, h => by simp [chainN] at h
  | k + 1, c, i, h => by
    unfold chainN at h
    cases hc : s.clocks[c]? with
    | none => rw [hc] at h; simp at h
    | some x =>
      rw [hc] at h
      dsimp only at h
      have hlt := (List.getElem?_eq_some_iff.1 hc).1
      cases hs : x.src with
      | nil => rw [hs] at h; simp at h; omega
      | cons f fs =>
        rw [hs] at h
        rcases List.mem_cons.1 h with rfl | h
        · exact hlt
        · exact chainN_in s k _ i h
theorem chainN_len (s : Soc) : ∀ (k c : Nat), (chainN s k c).length ≤ k
  | 0, c => by simp [chainN]
  | k + 1, c => by
    unfold chainN
    split
    · rename_i x hx
      split
      · simp
      · rename_i f fs hs
        have := chainN_len s k f.toNat
        simp only [List.length_cons]
        omega
    · simp
theorem chainN_cons {s : Soc} {k c : Nat} {x : Clk} (h : s.clocks[c]? = some x) : chainN s (k + 1) c = c :: (match x.src with
      | [] => []
      | f :: _ => chainN s k f.toNat) := by
  show (match s.clocks[c]? with | some x => _ | none => _) = _
  rw [h]
/-- a domain, and those above it -/
def upsN (s : Soc) : Nat → Nat → List Nat
  | 0, _ => []
  | k + 1, d => match s.domains[d]? with
    | some x => d :: (if x.above = -1 then [] else upsN s k x.above.toNat)
    | none => []
def ups (s : Soc) (d : Nat) : List Nat := upsN s (d + 1) d
def UpsR (s : Soc) : Int → List Nat → Prop
  | d, [] => d = -1
  | d, i :: r => d = (i : Int) ∧ ∃ x, s.domains[i]? = some x ∧ UpsR s x.above r
theorem upsN_R {s : Soc} (hm : s.made) : ∀ (k d : Nat), d < k → d < s.domains.length → UpsR s d (upsN s k d)
  | k + 1, d, hk, hd => by
    have hx : s.domains[d]? = some (s.domains[d]'hd) := List.getElem?_eq_getElem _
    have hf := (hm.domains d _ hx).1
    show UpsR s d (match s.domains[d]? with | some x => d :: (if x.above = -1 then [] else upsN s k x.above.toNat) | none => [])
    rw [hx]
    refine ⟨rfl, _, hx, ?_⟩
    by_cases h1 : (s.domains[d]'hd).above = -1
    · rw [if_pos h1]; exact h1
    · rw [if_neg h1]
      have h2 : ((s.domains[d]'hd).above.toNat : Int) = (s.domains[d]'hd).above := by omega
      have := upsN_R hm k (s.domains[d]'hd).above.toNat (by omega) (by omega)
      rwa [h2] at this
theorem ups_R {s : Soc} (hm : s.made) {d : Nat} (hd : d < s.domains.length) : UpsR s d (ups s d) := upsN_R hm _ _ (by omega) hd
theorem UpsR.in_ {s : Soc} : ∀ {l : List Nat} {d : Int}, UpsR s d l → ∀ i ∈ l, i < s.domains.length
  | [], _, _, i, h => by cases h
  | j :: l, _, ⟨_, x, hx, hr⟩, i, h => by
    rcases List.mem_cons.1 h with rfl | h
    · exact (List.getElem?_eq_some_iff.1 hx).1
    · exact hr.in_ i h
/-- what is above one of the row is of the row -/
theorem UpsR.up {s : Soc} : ∀ {l : List Nat} {d : Int}, UpsR s d l → ∀ i ∈ l, ∀ x, s.domains[i]? = some x → 0 ≤ x.above → x.above.toNat ∈ l
  | [], _, _, i, h, _, _, _ => by cases h
  | j :: l, _, ⟨_, y, hy, hr⟩, i, h, x, hx, h0 => by
    rcases List.mem_cons.1 h with rfl | h
    · rw [hy] at hx
      cases hx
      cases l with
      | nil => have h2 : y.above = -1 := hr; omega
      | cons k l =>
        have h2 : y.above = (k : Int) := hr.1
        rw [h2]
        simp
    · exact List.mem_cons_of_mem _ (hr.up i h x hx h0)
/-- all of these on -/
def putAll (ids : List Nat) (l : List Bool) : List Bool := ids.foldl (fun d (i : Nat) => putB d (i : Int) true) l
theorem putAll_len (ids : List Nat) (l : List Bool) : (putAll ids l).length = l.length := by
  unfold putAll
  induction ids generalizing l with
  | nil => rfl
  | cons i ids ih => rw [List.foldl_cons, ih, putB_len]
theorem putAll_get (ids : List Nat) (l : List Bool) (j : Nat) (hj : j < l.length) : (putAll ids l)[j]?.getD false = (decide (j ∈ ids) || l[j]?.getD false) := by
  unfold putAll
  rw [putB_fold, List.getElem?_eq_getElem hj]
  by_cases h : j ∈ ids <;> simp [h]
def swK (s : Soc) (i : Nat) : Bool := match s.clocks[i]? with
  | some c => decide (c.kind = 112 ∨ c.kind = 103)
  | none => false
def zeroW (s : Soc) : Wsh := ⟨List.replicate s.domains.length false, List.replicate s.clocks.length false, List.replicate s.resets.length false⟩
def wantStep (s : Soc) (w : Wsh) (x : Dev) : Wsh := ⟨putAll (ups s x.domain.toNat) w.d, putAll ((chainL s x.clock.toNat).filter (swK s)) w.c, putB w.l x.reset true⟩
def wantN (s : Soc) (act : List Bool) : Nat → Wsh
  | 0 => zeroW s
  | j + 1 => if hasB act j then (match s.devs[j]? with
    | some x => wantStep s (wantN s act j) x
    | none => wantN s act j) else wantN s act j
def wants (s : Soc) (act : List Bool) : Wsh := wantN s act s.devs.length
theorem wantN_of (s : Soc) (act : List Bool) : ∀ j, (wantN s act j).of s
  | 0 => ⟨by simp [wantN, zeroW], by simp [wantN, zeroW], by simp [wantN, zeroW]⟩
  | j + 1 => by
    have ih := wantN_of s act j
    unfold wantN
    split
    · split
      · exact ⟨by rw [wantStep, putAll_len]; exact ih.d, by rw [wantStep, putAll_len]; exact ih.c, by rw [wantStep, putB_len]; exact ih.l⟩
      · exact ih
    · exact ih
theorem wantN_next {s : Soc} {act : List Bool} {j : Nat} {x : Dev} (hx : s.devs[j]? = some x) (ha : hasB act j = true) : wantN s act (j + 1) = wantStep s (wantN s act j) x := by
  show (if hasB act j then _ else _) = _
  rw [if_pos ha, hx]
theorem wantN_skip {s : Soc} {act : List Bool} {j : Nat} (ha : hasB act j = false) : wantN s act (j + 1) = wantN s act j := by
  show (if hasB act j then _ else _) = _
  rw [if_neg (by rw [ha]; decide)]
theorem Wsh.of.sm {x : Wsh} {s : Soc} (h : x.of s) (hm : s.made) : x.sm := by
  have h1 := hm.nc; have h2 := hm.nd; have h3 := hm.nr
  exact ⟨by rw [h.d]; omega, by rw [h.c]; omega, by rw [h.l]; omega⟩
end Go.Proofs.Ytbgibbbggajgaaa
/- The small logic: parts of structs and arrays that are values. -/
namespace Go.Proofs.Ytbgibbbggajgaaa
set_option linter.all false
open Go.RowKit
/-- a part that is itself many cells: where, and how many -/
def aggP (P : Program) (t : TypeId) : Option Nat := match P.underlying t with
  | some (.struct _) => (P.info? t).map (·.size)
  | some (.array _ _) => (P.info? t).map (·.size)
  | _ => none
def arrI (P : Program) (t : TypeId) : Option (Nat × Nat) := match P.underlying t with
  | some (.array len el) => (aggP P el).map fun n => (len, n)
  | _ => none
section
variable {P : Program} {N : Nat} {w0 w : World} {e : Env} {R : List Piece} {H : List HP} {Q : Exit → Act → World → Prop} {ops : Array Oper} {rest : List Oper}
variable {d : Nat} {ty : TypeId} {pos : String} {aft : Array Edge}
theorem run_partA {t : TypeId} {n off : Nat} {cs : Array Value} (h : aggP P t = some n) : (part t cs off).run P w = .ok (.agg (cs.extract off (off + n))) w := by
  unfold aggP at h
  split at h
  · rename_i hu
    obtain ⟨i, hi, rfl⟩ := Option.map_eq_some_iff.1 h
    simp [part, isAgg, run_underlying hu, sizeOf, typeInfo, hi]
  · rename_i hu
    obtain ⟨i, hi, rfl⟩ := Option.map_eq_some_iff.1 h
    simp [part, isAgg, run_underlying hu, sizeOf, typeInfo, hi]
  · cases h
theorem run_indexA {t : TypeId} {len n k : Nat} {kd : IntKind} {j : Int} {cs : Array Value} (h : arrI P t = some (len, n)) (hj : j = (k : Int)) (hk : k < len) : (Instr.index t (.agg cs) (.int kd j)).run P w = .ok (.agg (cs.extract (k * n) (k * n + n))) w := by
  subst hj
  unfold arrI at h
  split at h
  · rename_i l el hu
    obtain ⟨m, hm, he⟩ := Option.map_eq_some_iff.1 h
    simp only [Prod.mk.injEq] at he
    obtain ⟨rfl, rfl⟩ := he
    have hsz : (sizeOf el).run P w = .ok m w := by
      unfold aggP at hm
      split at hm
      · obtain ⟨i, hi, rfl⟩ := Option.map_eq_some_iff.1 hm; simp [sizeOf, typeInfo, hi]
      · obtain ⟨i, hi, rfl⟩ := Option.map_eq_some_iff.1 hm; simp [sizeOf, typeInfo, hi]
      · cases hm
    simp [Instr.index, asIntOf, run_underlying hu, hk, hsz, run_partA hm]
  · cases h
theorem xk_indexA (k : Nat) {x ix : Operand} {t : TypeId} {len n : Nat} {kd : IntKind} {j : Int} {cs vs : List Value} (h : arrI P t = some (len, n)) (hx : e.ev x = some (.agg cs.toArray)) (hi : e.ev ix = some (.int kd j)) (hj : j = (k : Int)) (hk : k < len) (hv : (cs.drop (k * n)).take n = vs) (hd : d < N) (kk : XK N w0 (wpList P ops Q rest) ((d, .agg vs.toArray) :: e) R H) :
    XK N w0 (wpList P ops Q (⟨some d, .index t x ix, ty, pos, aft, none⟩ :: rest)) e R H := xk_pure hd (fun a w hr => by
  simp only [execOp, hr.ev hx, hr.ev hi, Sem.run_bind, run_indexA h hj hk, Result.andThen_ok, Sem.run_pure]
  simp [← hv, List.extract_toArray, List.extract_eq_take_drop]) kk
end
end Go.Proofs.Ytbgibbbggajgaaa
/- table.Start: no wishes. -/
namespace Go.Proofs.Ytbgibbbggajgaaa
set_option linter.all false
open Go.RowKit
/-- what both agents wish, as it lies in a piece -/
def StR (p : Piece) (x y : Wsh) (v : Value) : Prop := ∃ A1 k1 A2 k2 A3 k3 B1 m1 B2 m2 B3 m3, v = .agg #[.slice A1 x.d.length k1, .slice A2 x.c.length k2, .slice A3 x.l.length k3, .slice B1 y.d.length m1, .slice B2 y.c.length m2, .slice B3 y.l.length m3] ∧
  SlS p 1 A1 x.d.length (boolCells x.d) ∧ SlS p 1 A2 x.c.length (boolCells x.c) ∧ SlS p 1 A3 x.l.length (boolCells x.l) ∧ SlS p 1 B1 y.d.length (boolCells y.d) ∧ SlS p 1 B2 y.c.length (boolCells y.c) ∧ SlS p 1 B3 y.l.length (boolCells y.l)
theorem StR.le {p q : Piece} {x y : Wsh} {v : Value} (h : StR p x y v) (hl : p.Le q) : StR q x y v := by
  obtain ⟨A1, k1, A2, k2, A3, k3, B1, m1, B2, m2, B3, m3, h0, h1, h2, h3, h4, h5, h6⟩ := h
  exact ⟨A1, k1, A2, k2, A3, k3, B1, m1, B2, m2, B3, m3, h0, h1.le hl, h2.le hl, h3.le hl, h4.le hl, h5.le hl, h6.le hl⟩
/-- the first i agents' wishes are none -/
def StC (s : Soc) (p : Piece) : Nat → List Value → Prop
  | 0, cs => cs = [.slice none 0 0, .slice none 0 0, .slice none 0 0, .slice none 0 0, .slice none 0 0, .slice none 0 0]
  | 1, cs => ∃ a b c, cs = [a, b, c, .slice none 0 0, .slice none 0 0, .slice none 0 0] ∧ WshR p (zeroW s) (.agg #[a, b, c])
  | _, cs => ∃ a b c a' b' c', cs = [a, b, c, a', b', c'] ∧ WshR p (zeroW s) (.agg #[a, b, c]) ∧ WshR p (zeroW s) (.agg #[a', b', c'])
theorem StC.len {s : Soc} {p : Piece} : ∀ {i : Nat} {cs : List Value}, StC s p i cs → cs.length = 6
  | 0, _, h => by rw [show _ = _ from h]; rfl
  | 1, _, ⟨_, _, _, h, _⟩ => by rw [h]; rfl
  | _ + 2, _, ⟨_, _, _, _, _, _, h, _⟩ => by rw [h]; rfl
theorem StC.next {s : Soc} {p q : Piece} (hl : p.Le q) {a b c : Value} (hw : WshR q (zeroW s) (.agg #[a, b, c])) {i : Nat} {cs : List Value} (hi : i < 2) (h : StC s p i cs) : StC s q (i + 1) (putN cs (i * 3) [a, b, c]) := by
  obtain rfl | rfl : i = 0 ∨ i = 1 := by omega
  · have h0 : cs = [.slice none 0 0, .slice none 0 0, .slice none 0 0, .slice none 0 0, .slice none 0 0, .slice none 0 0] := h
    subst h0
    exact ⟨a, b, c, rfl, hw⟩
  · obtain ⟨a1, b1, c1, h0, h1⟩ := h
    subst h0
    exact ⟨a1, b1, c1, a, b, c, rfl, WshR.le h1 hl, hw⟩

theorem start_any (s : Soc) (A1 A2 A3 A4 : Option Addr) (k1 k2 k3 k4 : Nat) (w : World) (hm : s.okT) :
    Calls Try.prog 29 #[.agg #[.slice A1 s.clocks.length k1, .slice A2 s.domains.length k2, .slice A3 s.resets.length k3, .slice A4 s.devs.length k4]] w (RtW (fun v w w' => StR (fresh w w') (zeroW s) (zeroW s) v) w) := by
  have hn9 := hm.nc
  have hn4 := hm.nd
  have hn3 := hm.nr
  refine XK.enter (vs := [.agg #[.slice A1 s.clocks.length k1, .slice A2 s.domains.length k2, .slice A3 s.resets.length k3, .slice A4 s.devs.length k4]]) Try.func29 rfl Try.ntmps29 (by simp) ?_
  refine XK.seq ?_

  refine XK.region ?_
  refine xk_box rfl (by decide) fun g1 => ?_
  refine xk_alloc (cs := [.slice none 0 0, .slice none 0 0, .slice none 0 0, .slice none 0 0, .slice none 0 0, .slice none 0 0]) (zeroB_of (by kernel_rfl)) (by decide) fun g2 => ?_
  refine XK.nilN ?_
  refine XK.seq ?_

  refine XK.region ?_
  refine xk_alloc (cs := [.slice none 0 0, .slice none 0 0, .slice none 0 0, .slice none 0 0, .slice none 0 0, .slice none 0 0]) (zeroB_of (by kernel_rfl)) (by decide) fun g3 => ?_
  refine XK.nilN ?_
  refine XK.seq ?_
  refine XK.seq ?_

  refine XK.region ?_
  refine xk_move rfl (by decide) ?_
  refine XK.nilN ?_
  refine XK.envS [(5, .int .i64 0), (3, .pointer (some ⟨g3, 0, none⟩)), (2, .pointer (some ⟨g2, 0, none⟩)), (1, .pointer (some ⟨g1, 0, none⟩))] ?_
  refine XK.piece ⟨w, fun _ => False⟩ (by simp) (fun _ h => h.elim) ?_
  refine XK.block ?_
  refine XK.loop (fun m e R H => ∃ (i : Nat) (cs : List Value) (qs : Piece), i ≤ 2 ∧ m = 2 - i ∧ StC s qs i cs ∧ Fresh w qs ∧ e = [(5, .int .i64 i), (3, .pointer (some ⟨g3, 0, none⟩)), (2, .pointer (some ⟨g2, 0, none⟩)), (1, .pointer (some ⟨g1, 0, none⟩))] ∧ R = [qs, all w] ∧ H = [HP.blk g3 79 cs, HP.blk g2 79 [.slice none 0 0, .slice none 0 0, .slice none 0 0, .slice none 0 0, .slice none 0 0, .slice none 0 0], HP.blk g1 50 [.slice A1 s.clocks.length k1, .slice A2 s.domains.length k2, .slice A3 s.resets.length k3, .slice A4 s.devs.length k4]]) 2 ⟨0, _, ⟨w, fun _ => False⟩, by omega, rfl, rfl, (fun _ h => h.elim), rfl, rfl, rfl⟩ fun m e R H hI => ?_
  obtain ⟨i, cs, qs, hi2, rfl, hcs, hfrs, rfl, rfl, rfl⟩ := hI
  refine XK.seq ?_

  refine XK.region ?_
  refine xk_lss rfl rfl (by decide) ?_
  refine XK.nilN ?_
  refine XK.seq ?_
  refine XK.if_ rfl (fun h => ?_) (fun h => ?_)
  ·
    refine XK.skip ?_
    refine XK.norm ?_
    refine XK.seq ?_
    refine XK.block ?_
    refine XK.seq ?_

    refine XK.region ?_
    refine xk_move rfl (by decide) ?_
    refine xk_assign rfl (by decide) ?_
    refine XK.nilN ?_

    refine XK.draw 15 (by kernel_rfl) (by kernel_rfl) ?_
    refine XA.dA 0 rfl rfl rfl (does_move rfl) ?_
    refine XA.dA 1 rfl rfl rfl (does_field (off := 1) (by kernel_rfl) rfl) ?_
    refine XA.dA 2 rfl rfl rfl (does_ld rfl) ?_
    refine XA.dA 3 rfl rfl rfl (does_len (el := 61) (by kernel_rfl) rfl) ?_
    refine XA.dA 5 rfl rfl rfl (does_field (off := 0) (by kernel_rfl) rfl) ?_
    refine XA.dA 6 rfl rfl rfl (does_ld rfl) ?_
    refine XA.dA 7 rfl rfl rfl (does_len (el := 65) (by kernel_rfl) rfl) ?_
    refine XA.dA 9 rfl rfl rfl (does_field (off := 2) (by kernel_rfl) rfl) ?_
    refine XA.dA 10 rfl rfl rfl (does_ld rfl) ?_
    refine XA.dA 11 rfl rfl rfl (does_len (el := 102) (by kernel_rfl) rfl) ?_
    refine XA.dA 14 rfl rfl rfl (does_field (off := 0) (by kernel_rfl) rfl) ?_
    refine XA.allocs (fuel := 3) [4, 8, 12] [[4, 8, 12]] (fun i => match i with | 4 => ⟨12, 4, List.replicate s.domains.length (.bool false), fun g => .slice (some ⟨g, 0, none⟩) s.domains.length s.domains.length⟩ | 8 => ⟨16, 4, List.replicate s.clocks.length (.bool false), fun g => .slice (some ⟨g, 0, none⟩) s.clocks.length s.clocks.length⟩ | _ => ⟨20, 4, List.replicate s.resets.length (.bool false), fun g => .slice (some ⟨g, 0, none⟩) s.resets.length s.resets.length⟩) (fun i hi => ?_) (by show [12, 16, 20].Nodup; decide) (by kernel_rfl) (fun _ h => h) (fun sub hsub hex g => ?_)
    · simp only [List.mem_cons, List.not_mem_nil, or_false] at hi
      rcases hi with rfl | rfl | rfl
      · exact ALok.of rfl rfl rfl (makes_make 1 (el := 4) (z := .bool false) (by kernel_rfl) (by kernel_rfl) rfl rfl rfl (by omega) (by omega)) (Nat.le_of_ble_eq_true rfl) rfl
      · exact ALok.of rfl rfl rfl (makes_make 1 (el := 4) (z := .bool false) (by kernel_rfl) (by kernel_rfl) rfl rfl rfl (by omega) (by omega)) (Nat.le_of_ble_eq_true rfl) rfl
      · exact ALok.of rfl rfl rfl (makes_make 1 (el := 4) (z := .bool false) (by kernel_rfl) (by kernel_rfl) rfl rfl rfl (by omega) (by omega)) (Nat.le_of_ble_eq_true rfl) rfl
    have hs2 : sub = [4, 8, 12] := by simpa using hex
    have er : ∀ n : Nat, List.replicate n (Value.bool false) = boolCells (List.replicate n false) := fun n => by simp [boolCells]
    have hi : i < 2 := by have h' : (i : Int) < 2 := h; omega
    have hlen := hcs.len
    subst hs2
    dsimp only [envA, hpA, markA, List.map, List.foldr, List.cons_append, List.nil_append, List.length_cons, List.length_nil, Nat.reduceAdd, Nat.reduceSub]
    refine XA.do_ 13 rfl rfl rfl (by decide) (does_buildS (zs := [.slice none 0 0, .slice none 0 0, .slice none 0 0]) (L := [(0, 1), (1, 1), (2, 1)]) (zeroB_of (by kernel_rfl)) (by kernel_rfl) rfl (by simp [fillL, setN, Value.cells]; rfl)) (by kernel_rfl) (fun _ _ _ h => h) (fun _ h => h.tail.tail.tail) ?_
    refine XA.next 15 rfl (by kernel_rfl) ?_
    refine xk_atA i (i * 3) (el := 56) (sz := 3) (by kernel_rfl) (by kernel_rfl) rfl rfl rfl hi (by omega) (by decide) ?_
    refine XA.bt ?_
    refine XA.next 16 rfl (by kernel_rfl) ?_
    refine xk_storeN 3 rfl rfl rfl (by kernel_rfl) (by simp [Value.cells, Value.oneCell']) (by simp [Value.cells]; omega) ?_
    dsimp only [List.set]
    rw [show (Value.agg [.slice (some ⟨g 4, 0, none⟩) s.domains.length s.domains.length, .slice (some ⟨g 8, 0, none⟩) s.clocks.length s.clocks.length, .slice (some ⟨g 12, 0, none⟩) s.resets.length s.resets.length].toArray).cells.toList = [.slice (some ⟨g 4, 0, none⟩) s.domains.length s.domains.length, .slice (some ⟨g 8, 0, none⟩) s.clocks.length s.clocks.length, .slice (some ⟨g 12, 0, none⟩) s.resets.length s.resets.length] from rfl]
    refine XA.bt ?_
    refine XA.done (by kernel_rfl) ?_
    refine XK.norm ?_
    refine XK.region ?_
    refine xk_add rfl rfl (wrap_in (by omega)) (by decide) ?_
    refine xk_move rfl (by decide) ?_
    refine XK.nilN ?_
    refine XK.still [qs] [0, 1, 2] [3, 4, 5] (by simp) rfl (by decide) (by decide) fun qn hqn hle hfr => ?_
    have hfn := hfr (by simp) (fun p hp => by simp only [List.mem_cons, List.not_mem_nil, or_false] at hp; subst hp; exact hfrs)
    have b1 : SlS qn 1 (some ⟨g 4, 0, none⟩) (s.domains.length) (List.replicate (s.domains.length) (Value.bool false)) := SlS.of_blk (n := s.domains.length) (sz := 1) (c := 0) (hqn 0 _ (by simp) rfl).choose_spec.1 (hqn 0 _ (by simp) rfl).choose_spec.2 (by simp)
    have b2 : SlS qn 1 (some ⟨g 8, 0, none⟩) (s.clocks.length) (List.replicate (s.clocks.length) (Value.bool false)) := SlS.of_blk (n := s.clocks.length) (sz := 1) (c := 0) (hqn 1 _ (by simp) rfl).choose_spec.1 (hqn 1 _ (by simp) rfl).choose_spec.2 (by simp)
    have b3 : SlS qn 1 (some ⟨g 12, 0, none⟩) (s.resets.length) (List.replicate (s.resets.length) (Value.bool false)) := SlS.of_blk (n := s.resets.length) (sz := 1) (c := 0) (hqn 2 _ (by simp) rfl).choose_spec.1 (hqn 2 _ (by simp) rfl).choose_spec.2 (by simp)
    rw [er] at b1 b2 b3
    have hww : WshR qn (zeroW s) (.agg #[.slice (some ⟨g 4, 0, none⟩) s.domains.length s.domains.length, .slice (some ⟨g 8, 0, none⟩) s.clocks.length s.clocks.length, .slice (some ⟨g 12, 0, none⟩) s.resets.length s.resets.length]) := by
      unfold WshR zeroW
      simp only [List.length_replicate]
      exact ⟨_, _, _, _, _, _, rfl, b1, b2, b3⟩
    refine XK.weakR (R' := [qn, all w]) (by simp) ?_
    exact XK.envS [(5, .int .i64 ((i : Int) + 1)), (3, .pointer (some ⟨g3, 0, none⟩)), (2, .pointer (some ⟨g2, 0, none⟩)), (1, .pointer (some ⟨g1, 0, none⟩))] (XK.round (2 - (i + 1)) (by omega) ⟨i + 1, _, qn, by omega, rfl, StC.next (hle qs (by simp)) hww hi hcs, hfn, rfl, rfl, rfl⟩)

  ·
    refine XK.exit ?_
    refine XK.norm ?_
    refine XK.seq ?_
    have hie : i = 2 := by have h' : ¬ (i : Int) < 2 := h; omega
    subst hie
    obtain ⟨a, b, c, a', b', c', rfl, hw1, hw2⟩ := hcs
    obtain ⟨D1, d1, D2, d2, D3, d3, e1, x1, x2, x3⟩ := hw1
    obtain ⟨F1, f1, F2, f2, F3, f3, e2, y1, y2, y3⟩ := hw2
    cases e1
    cases e2

    refine XK.region ?_
    refine xk_ldN 6 rfl ?_
    (first | (refine xk_storeN 0 rfl rfl rfl (by kernel_rfl) (by simp [Value.cells, Value.oneCell']) (by simp [Value.cells]) ?_) | (refine xk_storeN 1 rfl rfl rfl (by kernel_rfl) (by simp [Value.cells, Value.oneCell']) (by simp [Value.cells]) ?_) | (refine xk_storeN 2 rfl rfl rfl (by kernel_rfl) (by simp [Value.cells, Value.oneCell']) (by simp [Value.cells]) ?_) | (refine xk_storeN 3 rfl rfl rfl (by kernel_rfl) (by simp [Value.cells, Value.oneCell']) (by simp [Value.cells]) ?_) | (refine xk_storeN 4 rfl rfl rfl (by kernel_rfl) (by simp [Value.cells, Value.oneCell']) (by simp [Value.cells]) ?_) | (refine xk_storeN 5 rfl rfl rfl (by kernel_rfl) (by simp [Value.cells, Value.oneCell']) (by simp [Value.cells]) ?_) | (refine xk_storeN 6 rfl rfl rfl (by kernel_rfl) (by simp [Value.cells, Value.oneCell']) (by simp [Value.cells]) ?_) | (refine xk_storeN 7 rfl rfl rfl (by kernel_rfl) (by simp [Value.cells, Value.oneCell']) (by simp [Value.cells]) ?_) | (refine xk_storeN 8 rfl rfl rfl (by kernel_rfl) (by simp [Value.cells, Value.oneCell']) (by simp [Value.cells]) ?_)); simp only [putN, Value.cells, List.set, List.take, List.drop, List.nil_append, List.append_nil, List.length_cons, List.length_nil, List.cons_append, Nat.reduceAdd]
    refine XK.nilN ?_
    refine XK.ret ?_
    refine XK.norm ?_
    exact XK.retC rfl (by kernel_rfl) rfl rfl (RdN.whole 1 rfl) fun w1 st => ⟨⟨_, rfl, by
      have hl := st.fresh_le (by simp) hfrs
      exact ⟨_, _, _, _, _, _, _, _, _, _, _, _, rfl, x1.le hl, x2.le hl, x3.le hl, y1.le hl, y2.le hl, y3.le hl⟩⟩, st.below (by simp)⟩

end Go.Proofs.Ytbgibbbggajgaaa
/- Events, as they lie in memory; what an audit counts and finds of them, in plain words; dead and each, walked. -/
namespace Go.Proofs.Ytbgibbbggajgaaa
set_option linter.all false
open Go.RowKit Go.Shelf
/-- an event: its cells, one by one; wA, wc: the slice of its words ws -/
structure Ev where
  kind : Int
  task : Int
  ck : Int
  dev : Int
  reg : Int
  cv : Int
  err : Int
  rv : Int
  aid : Int
  adev : Int
  adead : Bool
  av : Int
  alive : Bool
  wA : Option Addr
  wc : Nat
  ws : List Int
def Ev.cells (e : Ev) : List Value :=
  [.int .u8 e.kind, .int .i64 e.task, .int .u8 e.ck, .int .i64 e.dev, .int .i64 e.reg, .int .u32 e.cv, .int .i64 e.err, .int .u32 e.rv, .int .i64 e.aid, .int .i64 e.adev, .bool e.adead, .int .u32 e.av, .bool e.alive, .slice e.wA e.ws.length e.wc]
theorem Ev.cells_len (e : Ev) : e.cells.length = 14 := rfl
/-- the event at a place -/
def EvAt (w : World) (b o : Nat) (e : Ev) : Prop := ∀ f u, e.cells[f]? = some u → w.cell? ⟨b, o + f, none⟩ = some u
/-- words as cells -/
def u32Cells (zs : List Int) : List Value := zs.map (Value.int .u32)
def EvWs (w : World) (B : Nat) (e : Ev) : Prop := Sl w B 1 e.wA e.ws.length (u32Cells e.ws)
/-- events in memory: a slice of 14 cells an element; their words -/
def Evs (w : World) (B : Nat) (A : Option Addr) (evs : List Ev) : Prop := Sl w B 14 A evs.length (evs.flatMap Ev.cells) ∧ ∀ e ∈ evs, EvWs w B e
theorem Evs.at_ {w : World} {B : Nat} {A : Option Addr} {evs : List Ev} (h : Evs w B A evs) {k : Nat} {e : Ev} (hk : evs[k]? = some e) :
    ∃ b off, A = some ⟨b, off, none⟩ ∧ b < B ∧ EvAt w b (off + k * 14) e := by
  have hlt : k < evs.length := by
    rcases Nat.lt_or_ge k evs.length with h | h
    · exact h
    · rw [List.getElem?_eq_none h] at hk; cases hk
  obtain ⟨b, off, hA, hb, hc⟩ := Sl.at_ h.1 hlt
  refine ⟨b, off, hA, hb, fun f u hu => ?_⟩
  have hf : f < 14 := by
    rcases Nat.lt_or_ge f 14 with h | h
    · exact h
    · rw [List.getElem?_eq_none (by rw [Ev.cells_len]; exact h)] at hu; cases hu
  exact hc f u (by rw [flat_get Ev.cells 14 evs (fun _ _ => rfl) k f e hk hf]; exact hu)
theorem Evs.below {w w' : World} {B : Nat} {A : Option Addr} {evs : List Ev} (h : Evs w B A evs) (hb : Below B w w') : Evs w' B A evs := ⟨h.1.below hb, fun e he => (h.2 e he).below hb⟩
theorem Evs.thn {w w' : World} {A : Option Addr} {evs : List Ev} (h : Evs w w.heap.size A evs) (hb : Below w.heap.size w w') : Evs w' w'.heap.size A evs := ⟨h.1.thn hb, fun e he => (h.2 e he).thn hb⟩

end Go.Proofs.Ytbgibbbggajgaaa
/- The small logic: pointers that are not nil, parts of slices, maps of counts; events that a piece shows. -/
namespace Go.Proofs.Ytbgibbbggajgaaa
set_option linter.all false
open Go.RowKit
section
variable {P : Program} {N : Nat} {w0 : World} {e : Env} {R : List Piece} {H : List HP} {Q : Exit → Act → World → Prop} {ops : Array Oper} {rest : List Oper}
variable {d : Nat} {ty : TypeId} {pos : String} {aft : Array Edge}
theorem xk_nilC {x : Operand} {a : Addr} (hx : e.ev x = some (.pointer (some a))) (hd : d < N) (k : XK N w0 (wpList P ops Q rest) ((d, .pointer (some a)) :: e) R H) : XK N w0 (wpList P ops Q (⟨some d, .nilCheck x, ty, pos, aft, none⟩ :: rest)) e R H :=
  xk_pure hd (fun b w hr => by simp [execOp, hr.ev hx]) k
end
/-- events that a piece shows -/
def EvS (p : Piece) (A : Option Addr) (evs : List Ev) : Prop := SlS p 14 A evs.length (evs.flatMap Ev.cells)
theorem EvS.le {p q : Piece} {A : Option Addr} {evs : List Ev} (h : EvS p A evs) (hl : p.Le q) : EvS q A evs := SlS.le h hl
theorem EvS.ev {p : Piece} {b off : Nat} {evs : List Ev} (h : EvS p (some ⟨b, off, none⟩) evs) {k : Nat} {x : Ev} (hk : evs[k]? = some x) : p.Z b ∧ ∀ f u, x.cells[f]? = some u → p.w.cell? ⟨b, off + k * 14 + f, none⟩ = some u := by
  have hlt := (List.getElem?_eq_some_iff.1 hk).1
  obtain ⟨b', off', hA, hb, hc⟩ := SlS.at_ h hlt
  cases hA
  refine ⟨hb, fun f u hu => hc f u ?_⟩
  have hf : f < 14 := by
    rw [← Ev.cells_len x]
    rcases Nat.lt_or_ge f x.cells.length with h | h
    · exact h
    · rw [List.getElem?_eq_none h] at hu; cases hu
  rw [flat_get Ev.cells 14 evs (fun _ _ => Ev.cells_len _) k f x hk hf, hu]
/-! counts, as a map -/
end Go.Proofs.Ytbgibbbggajgaaa
/- package table: what agents wish. -/
namespace Go.Proofs.Ytbgibbbggajgaaa
set_option linter.all false
open Go.RowKit
def onB (k : Int) : Prop := k = 117 ∨ k = 99 ∨ k = 114
instance (k : Int) : Decidable (onB k) := by unfold onB; infer_instance
def numF (s : Soc) (p : Int) : Nat := if p = 17 then s.domains.length else if p = 20 then s.clocks.length else if p = 22 then s.resets.length else 0
def listV (k : Int) (v0 v1 v2 : Value) : Value := if k = 117 ∨ k = 100 ∨ k = 107 then v0 else if k = 99 ∨ k = 111 then v1 else if k = 114 ∨ k = 97 then v2 else .slice none 0 0
def kindL (k : Int) (x : Wsh) : List Bool := if k = 117 ∨ k = 100 ∨ k = 107 then x.d else if k = 99 ∨ k = 111 then x.c else if k = 114 ∨ k = 97 then x.l else []
def wishF (x : Wsh) (k id : Int) : Bool := decide (0 ≤ id) && hasB (kindL k x) id.toNat
theorem ROc.thn {w w' : World} {g o : Nat} {v : Value} (h : ROc w g o v) (hb : Below w.heap.size w w') : ROc w' g o v := ⟨Nat.lt_of_lt_of_le h.1 hb.size, (hb.cell (p := ⟨g, o, none⟩) h.1).trans h.2⟩
/-- the wishes of an agent, at a place -/
def WshM (w : World) (g o : Nat) (x : Wsh) : Prop := ∃ A1 k1 A2 k2 A3 k3, ROc w g o (.slice A1 x.d.length k1) ∧ ROc w g (o + 1) (.slice A2 x.c.length k2) ∧ ROc w g (o + 2) (.slice A3 x.l.length k3) ∧
  SlS (all w) 1 A1 x.d.length (boolCells x.d) ∧ SlS (all w) 1 A2 x.c.length (boolCells x.c) ∧ SlS (all w) 1 A3 x.l.length (boolCells x.l)
theorem listV_S {w : World} {x : Wsh} {A1 A2 A3 : Option Addr} {k1 k2 k3 : Nat} (h1 : SlS (all w) 1 A1 x.d.length (boolCells x.d)) (h2 : SlS (all w) 1 A2 x.c.length (boolCells x.c)) (h3 : SlS (all w) 1 A3 x.l.length (boolCells x.l)) (k : Int) :
    ∃ A c, listV k (.slice A1 x.d.length k1) (.slice A2 x.c.length k2) (.slice A3 x.l.length k3) = .slice A (kindL k x).length c ∧ SlS (all w) 1 A (kindL k x).length (boolCells (kindL k x)) := by
  unfold listV kindL
  split
  · exact ⟨_, _, rfl, h1⟩
  · split
    · exact ⟨_, _, rfl, h2⟩
    · split
      · exact ⟨_, _, rfl, h3⟩
      · exact ⟨_, _, rfl, SlS.nil _ _⟩

theorem on_any (k : Int) (w : World) :
    Calls Try.prog 58 #[.int .u8 k] w (Rt (.bool (decide (onB k))) w) := by
  refine XK.enter (vs := [.int .u8 k]) Try.func58 rfl Try.ntmps58 (by simp) ?_
  refine XK.seq ?_

  refine XK.region ?_
  refine xk_assign rfl (by decide) ?_
  refine XK.nilN ?_
  refine XK.seq ?_

  refine XK.region ?_
  refine xk_move rfl (by decide) ?_
  refine xk_eql rfl rfl (by decide) ?_
  refine xk_move rfl (by decide) ?_
  (first | refine xk_split (t := 5) rfl (fun hg => ?_) (fun hg => ?_) | refine xk_splitB (t := 5) rfl (fun hg => ?_) (fun hg => ?_))
  ·
    refine xk_guardF rfl rfl rfl (by decide) ?_
    refine xk_guardF rfl rfl rfl (by decide) ?_
    (first | refine xk_pickT rfl rfl (by decide) ?_ | refine xk_pickF rfl rfl (by decide) ?_)
    refine xk_move rfl (by decide) ?_
    refine xk_guardF rfl rfl rfl (by decide) ?_
    refine xk_guardF rfl rfl rfl (by decide) ?_
    (first | refine xk_pickT rfl rfl (by decide) ?_ | refine xk_pickF rfl rfl (by decide) ?_)
    refine xk_assign rfl (by decide) ?_
    refine XK.nilN ?_
    refine XK.ret ?_
    refine XK.norm ?_
    exact XK.ret1 rfl rfl fun w1 st => ⟨by simp_all [onB], st.below (by simp)⟩
  ·
    refine xk_guardT rfl rfl ?_; refine xk_move rfl (by decide) ?_
    refine xk_guardT rfl rfl ?_; refine xk_eql rfl rfl (by decide) ?_
    (first | refine xk_pickT rfl rfl (by decide) ?_ | refine xk_pickF rfl rfl (by decide) ?_)
    refine xk_move rfl (by decide) ?_
    (first | refine xk_split (t := 9) rfl (fun hg => ?_) (fun hg => ?_) | refine xk_splitB (t := 9) rfl (fun hg => ?_) (fun hg => ?_))
    ·
      refine xk_guardF rfl rfl rfl (by decide) ?_
      refine xk_guardF rfl rfl rfl (by decide) ?_
      (first | refine xk_pickT rfl rfl (by decide) ?_ | refine xk_pickF rfl rfl (by decide) ?_)
      refine xk_assign rfl (by decide) ?_
      refine XK.nilN ?_
      refine XK.ret ?_
      refine XK.norm ?_
      exact XK.ret1 rfl rfl fun w1 st => ⟨by simp_all [onB], st.below (by simp)⟩
    ·
      refine xk_guardT rfl rfl ?_; refine xk_move rfl (by decide) ?_
      refine xk_guardT rfl rfl ?_; refine xk_eql rfl rfl (by decide) ?_
      (first | refine xk_pickT rfl rfl (by decide) ?_ | refine xk_pickF rfl rfl (by decide) ?_)
      refine xk_assign rfl (by decide) ?_
      refine XK.nilN ?_
      refine XK.ret ?_
      refine XK.norm ?_
      exact XK.ret1 rfl rfl fun w1 st => ⟨by simp_all [onB], st.below (by simp)⟩

theorem number_any (s : Soc) (A1 A2 A3 A4 : Option Addr) (k1 k2 k3 k4 : Nat) (p : Int) (w : World) :
    Calls Try.prog 109 #[.agg #[.slice A1 s.clocks.length k1, .slice A2 s.domains.length k2, .slice A3 s.resets.length k3, .slice A4 s.devs.length k4], .int .i64 p] w (Rt (.int .i64 (numF s p)) w) := by
  refine XK.enter (vs := [.agg #[.slice A1 s.clocks.length k1, .slice A2 s.domains.length k2, .slice A3 s.resets.length k3, .slice A4 s.devs.length k4], .int .i64 p]) Try.func109 rfl Try.ntmps109 (by simp) ?_
  refine XK.seq ?_

  refine XK.region ?_
  refine xk_box rfl (by decide) fun g1 => ?_
  refine xk_assign rfl (by decide) ?_
  refine XK.nilN ?_
  refine XK.seq ?_
  refine XK.seq ?_

  refine XK.region ?_
  refine xk_move rfl (by decide) ?_
  refine XK.nilN ?_
  refine XK.block ?_
  refine XK.seq ?_

  refine XK.region ?_
  refine xk_eql rfl rfl (by decide) ?_
  refine xk_assign rfl (by decide) ?_
  refine XK.nilN ?_
  refine XK.if_ rfl (fun h => ?_) (fun h => ?_)
  ·
    refine XK.seq ?_

    refine XK.region ?_
    refine xk_field (off := 1) (by kernel_rfl) rfl (by decide) ?_
    refine xk_ld rfl ?_
    refine xk_len (el := 61) (by kernel_rfl) rfl (by decide) ?_
    refine xk_assign rfl (by decide) ?_
    refine XK.nilN ?_
    refine XK.ret ?_
    refine XK.norm ?_
    exact XK.ret1 rfl rfl fun w1 st => ⟨by simp_all [numF], st.below (by simp)⟩
  ·
    refine XK.seq ?_

    refine XK.region ?_
    refine xk_eql rfl rfl (by decide) ?_
    refine xk_assign rfl (by decide) ?_
    refine XK.nilN ?_
    refine XK.if_ rfl (fun h => ?_) (fun h => ?_)
    ·
      refine XK.seq ?_

      refine XK.region ?_
      refine xk_field (off := 0) (by kernel_rfl) rfl (by decide) ?_
      refine xk_ld rfl ?_
      refine xk_len (el := 65) (by kernel_rfl) rfl (by decide) ?_
      refine xk_assign rfl (by decide) ?_
      refine XK.nilN ?_
      refine XK.ret ?_
      refine XK.norm ?_
      exact XK.ret1 rfl rfl fun w1 st => ⟨by simp_all [numF], st.below (by simp)⟩
    ·
      refine XK.seq ?_

      refine XK.region ?_
      refine xk_eql rfl rfl (by decide) ?_
      refine xk_assign rfl (by decide) ?_
      refine XK.nilN ?_
      refine XK.if_ rfl (fun h => ?_) (fun h => ?_)
      ·
        refine XK.seq ?_

        refine XK.region ?_
        refine xk_field (off := 2) (by kernel_rfl) rfl (by decide) ?_
        refine xk_ld rfl ?_
        refine xk_len (el := 102) (by kernel_rfl) rfl (by decide) ?_
        refine xk_assign rfl (by decide) ?_
        refine XK.nilN ?_
        refine XK.ret ?_
        refine XK.norm ?_
        exact XK.ret1 rfl rfl fun w1 st => ⟨by simp_all [numF], st.below (by simp)⟩
      ·
        refine XK.skip ?_
        refine XK.norm ?_
        refine XK.seq ?_

        refine XK.region ?_
        refine xk_assign rfl (by decide) ?_
        refine XK.nilN ?_
        refine XK.ret ?_
        refine XK.norm ?_
        exact XK.ret1 rfl rfl fun w1 st => ⟨by simp_all [numF], st.below (by simp)⟩

theorem list_any (g o : Nat) (k : Int) (v0 v1 v2 : Value) (w : World) (h0 : ROc w g o v0) (h1 : ROc w g (o + 1) v1) (h2 : ROc w g (o + 2) v2) :
    Calls Try.prog 62 #[.pointer (some ⟨g, o, none⟩), .int .u8 k] w (Rt (listV k v0 v1 v2) w) := by
  refine XK.enter (vs := [.pointer (some ⟨g, o, none⟩), .int .u8 k]) Try.func62 rfl Try.ntmps62 (by simp) ?_
  refine XK.seq ?_

  refine XK.region ?_
  refine xk_assign rfl (by decide) ?_
  refine XK.nilN ?_
  refine XK.seq ?_
  refine XK.seq ?_

  refine XK.region ?_
  refine xk_move rfl (by decide) ?_
  refine XK.nilN ?_
  refine XK.block ?_
  refine XK.seq ?_
  refine XK.seq ?_

  refine XK.region ?_
  refine xk_eql rfl rfl (by decide) ?_
  refine xk_assign rfl (by decide) ?_
  refine XK.nilN ?_
  refine XK.if_ rfl (fun h => ?_) (fun h => ?_)
  ·
    refine XK.skip ?_
    refine XK.norm ?_
    refine XK.if_ rfl (fun h => ?_) (fun h => ?_)
    ·
      refine XK.seq ?_

      refine XK.region ?_
      refine xk_move rfl (by decide) ?_
      refine xk_nilC rfl (by decide) ?_
      refine xk_field (off := 0) (by kernel_rfl) rfl (by decide) ?_
      refine xk_load (by kernel_rfl) rfl (Rd.roc (by simp) h0) (by decide) ?_
      refine xk_assign rfl (by decide) ?_
      refine XK.nilN ?_
      refine XK.ret ?_
      refine XK.norm ?_
      exact XK.ret1 rfl rfl fun w1 st => ⟨by simp_all [listV], st.below (by simp)⟩
    ·
      refine XK.seq ?_
      refine XK.seq ?_

      refine XK.region ?_
      refine xk_eql rfl rfl (by decide) ?_
      refine xk_assign rfl (by decide) ?_
      refine XK.nilN ?_
      refine XK.if_ rfl (fun h => ?_) (fun h => ?_)
      ·
        refine XK.skip ?_
        refine XK.norm ?_
        refine XK.if_ rfl (fun h => ?_) (fun h => ?_)
        ·
          refine XK.seq ?_

          refine XK.region ?_
          refine xk_move rfl (by decide) ?_
          refine xk_nilC rfl (by decide) ?_
          refine xk_field (off := 1) (by kernel_rfl) rfl (by decide) ?_
          refine xk_load (by kernel_rfl) rfl (Rd.roc (by simp) h1) (by decide) ?_
          refine xk_assign rfl (by decide) ?_
          refine XK.nilN ?_
          refine XK.ret ?_
          refine XK.norm ?_
          exact XK.ret1 rfl rfl fun w1 st => ⟨by simp_all [listV], st.below (by simp)⟩
        ·
          refine XK.seq ?_
          refine XK.seq ?_

          refine XK.region ?_
          refine xk_eql rfl rfl (by decide) ?_
          refine xk_assign rfl (by decide) ?_
          refine XK.nilN ?_
          refine XK.if_ rfl (fun h => ?_) (fun h => ?_)
          ·
            refine XK.skip ?_
            refine XK.norm ?_
            refine XK.if_ rfl (fun h => ?_) (fun h => ?_)
            ·
              refine XK.seq ?_

              refine XK.region ?_
              refine xk_move rfl (by decide) ?_
              refine xk_nilC rfl (by decide) ?_
              refine xk_field (off := 2) (by kernel_rfl) rfl (by decide) ?_
              refine xk_load (by kernel_rfl) rfl (Rd.roc (by simp) h2) (by decide) ?_
              refine xk_assign rfl (by decide) ?_
              refine XK.nilN ?_
              refine XK.ret ?_
              refine XK.norm ?_
              exact XK.ret1 rfl rfl fun w1 st => ⟨by simp_all [listV], st.below (by simp)⟩
            ·
              refine XK.skip ?_
              refine XK.norm ?_
              refine XK.seq ?_

              refine XK.region ?_
              refine xk_assign rfl (by decide) ?_
              refine XK.nilN ?_
              refine XK.ret ?_
              refine XK.norm ?_
              exact XK.ret1 rfl rfl fun w1 st => ⟨by simp_all [listV], st.below (by simp)⟩
          ·

            refine XK.region ?_
            refine xk_eql rfl rfl (by decide) ?_
            refine xk_assign rfl (by decide) ?_
            refine XK.nilN ?_
            refine XK.if_ rfl (fun h => ?_) (fun h => ?_)
            ·
              refine XK.seq ?_

              refine XK.region ?_
              refine xk_move rfl (by decide) ?_
              refine xk_nilC rfl (by decide) ?_
              refine xk_field (off := 2) (by kernel_rfl) rfl (by decide) ?_
              refine xk_load (by kernel_rfl) rfl (Rd.roc (by simp) h2) (by decide) ?_
              refine xk_assign rfl (by decide) ?_
              refine XK.nilN ?_
              refine XK.ret ?_
              refine XK.norm ?_
              exact XK.ret1 rfl rfl fun w1 st => ⟨by simp_all [listV], st.below (by simp)⟩
            ·
              refine XK.skip ?_
              refine XK.norm ?_
              refine XK.seq ?_

              refine XK.region ?_
              refine xk_assign rfl (by decide) ?_
              refine XK.nilN ?_
              refine XK.ret ?_
              refine XK.norm ?_
              exact XK.ret1 rfl rfl fun w1 st => ⟨by simp_all [listV], st.below (by simp)⟩
      ·

        refine XK.region ?_
        refine xk_eql rfl rfl (by decide) ?_
        refine xk_assign rfl (by decide) ?_
        refine XK.nilN ?_
        refine XK.if_ rfl (fun h => ?_) (fun h => ?_)
        ·
          refine XK.seq ?_

          refine XK.region ?_
          refine xk_move rfl (by decide) ?_
          refine xk_nilC rfl (by decide) ?_
          refine xk_field (off := 1) (by kernel_rfl) rfl (by decide) ?_
          refine xk_load (by kernel_rfl) rfl (Rd.roc (by simp) h1) (by decide) ?_
          refine xk_assign rfl (by decide) ?_
          refine XK.nilN ?_
          refine XK.ret ?_
          refine XK.norm ?_
          exact XK.ret1 rfl rfl fun w1 st => ⟨by simp_all [listV], st.below (by simp)⟩
        ·
          refine XK.seq ?_
          refine XK.seq ?_

          refine XK.region ?_
          refine xk_eql rfl rfl (by decide) ?_
          refine xk_assign rfl (by decide) ?_
          refine XK.nilN ?_
          refine XK.if_ rfl (fun h => ?_) (fun h => ?_)
          ·
            refine XK.skip ?_
            refine XK.norm ?_
            refine XK.if_ rfl (fun h => ?_) (fun h => ?_)
            ·
              refine XK.seq ?_

              refine XK.region ?_
              refine xk_move rfl (by decide) ?_
              refine xk_nilC rfl (by decide) ?_
              refine xk_field (off := 2) (by kernel_rfl) rfl (by decide) ?_
              refine xk_load (by kernel_rfl) rfl (Rd.roc (by simp) h2) (by decide) ?_
              refine xk_assign rfl (by decide) ?_
              refine XK.nilN ?_
              refine XK.ret ?_
              refine XK.norm ?_
              exact XK.ret1 rfl rfl fun w1 st => ⟨by simp_all [listV], st.below (by simp)⟩
            ·
              refine XK.skip ?_
              refine XK.norm ?_
              refine XK.seq ?_

              refine XK.region ?_
              refine xk_assign rfl (by decide) ?_
              refine XK.nilN ?_
              refine XK.ret ?_
              refine XK.norm ?_
              exact XK.ret1 rfl rfl fun w1 st => ⟨by simp_all [listV], st.below (by simp)⟩
          ·

            refine XK.region ?_
            refine xk_eql rfl rfl (by decide) ?_
            refine xk_assign rfl (by decide) ?_
            refine XK.nilN ?_
            refine XK.if_ rfl (fun h => ?_) (fun h => ?_)
            ·
              refine XK.seq ?_

              refine XK.region ?_
              refine xk_move rfl (by decide) ?_
              refine xk_nilC rfl (by decide) ?_
              refine xk_field (off := 2) (by kernel_rfl) rfl (by decide) ?_
              refine xk_load (by kernel_rfl) rfl (Rd.roc (by simp) h2) (by decide) ?_
              refine xk_assign rfl (by decide) ?_
              refine XK.nilN ?_
              refine XK.ret ?_
              refine XK.norm ?_
              exact XK.ret1 rfl rfl fun w1 st => ⟨by simp_all [listV], st.below (by simp)⟩
            ·
              refine XK.skip ?_
              refine XK.norm ?_
              refine XK.seq ?_

              refine XK.region ?_
              refine xk_assign rfl (by decide) ?_
              refine XK.nilN ?_
              refine XK.ret ?_
              refine XK.norm ?_
              exact XK.ret1 rfl rfl fun w1 st => ⟨by simp_all [listV], st.below (by simp)⟩
  ·
    refine XK.seq ?_

    refine XK.region ?_
    refine xk_eql rfl rfl (by decide) ?_
    refine xk_assign rfl (by decide) ?_
    refine XK.nilN ?_
    refine XK.if_ rfl (fun h => ?_) (fun h => ?_)
    ·
      refine XK.skip ?_
      refine XK.norm ?_
      refine XK.if_ rfl (fun h => ?_) (fun h => ?_)
      ·
        refine XK.seq ?_

        refine XK.region ?_
        refine xk_move rfl (by decide) ?_
        refine xk_nilC rfl (by decide) ?_
        refine xk_field (off := 0) (by kernel_rfl) rfl (by decide) ?_
        refine xk_load (by kernel_rfl) rfl (Rd.roc (by simp) h0) (by decide) ?_
        refine xk_assign rfl (by decide) ?_
        refine XK.nilN ?_
        refine XK.ret ?_
        refine XK.norm ?_
        exact XK.ret1 rfl rfl fun w1 st => ⟨by simp_all [listV], st.below (by simp)⟩
      ·
        refine XK.seq ?_
        refine XK.seq ?_

        refine XK.region ?_
        refine xk_eql rfl rfl (by decide) ?_
        refine xk_assign rfl (by decide) ?_
        refine XK.nilN ?_
        refine XK.if_ rfl (fun h => ?_) (fun h => ?_)
        ·
          refine XK.skip ?_
          refine XK.norm ?_
          refine XK.if_ rfl (fun h => ?_) (fun h => ?_)
          ·
            refine XK.seq ?_

            refine XK.region ?_
            refine xk_move rfl (by decide) ?_
            refine xk_nilC rfl (by decide) ?_
            refine xk_field (off := 1) (by kernel_rfl) rfl (by decide) ?_
            refine xk_load (by kernel_rfl) rfl (Rd.roc (by simp) h1) (by decide) ?_
            refine xk_assign rfl (by decide) ?_
            refine XK.nilN ?_
            refine XK.ret ?_
            refine XK.norm ?_
            exact XK.ret1 rfl rfl fun w1 st => ⟨by simp_all [listV], st.below (by simp)⟩
          ·
            refine XK.seq ?_
            refine XK.seq ?_

            refine XK.region ?_
            refine xk_eql rfl rfl (by decide) ?_
            refine xk_assign rfl (by decide) ?_
            refine XK.nilN ?_
            refine XK.if_ rfl (fun h => ?_) (fun h => ?_)
            ·
              refine XK.skip ?_
              refine XK.norm ?_
              refine XK.if_ rfl (fun h => ?_) (fun h => ?_)
              ·
                refine XK.seq ?_

                refine XK.region ?_
                refine xk_move rfl (by decide) ?_
                refine xk_nilC rfl (by decide) ?_
                refine xk_field (off := 2) (by kernel_rfl) rfl (by decide) ?_
                refine xk_load (by kernel_rfl) rfl (Rd.roc (by simp) h2) (by decide) ?_
                refine xk_assign rfl (by decide) ?_
                refine XK.nilN ?_
                refine XK.ret ?_
                refine XK.norm ?_
                exact XK.ret1 rfl rfl fun w1 st => ⟨by simp_all [listV], st.below (by simp)⟩
              ·
                refine XK.skip ?_
                refine XK.norm ?_
                refine XK.seq ?_

                refine XK.region ?_
                refine xk_assign rfl (by decide) ?_
                refine XK.nilN ?_
                refine XK.ret ?_
                refine XK.norm ?_
                exact XK.ret1 rfl rfl fun w1 st => ⟨by simp_all [listV], st.below (by simp)⟩
            ·

              refine XK.region ?_
              refine xk_eql rfl rfl (by decide) ?_
              refine xk_assign rfl (by decide) ?_
              refine XK.nilN ?_
              refine XK.if_ rfl (fun h => ?_) (fun h => ?_)
              ·
                refine XK.seq ?_

                refine XK.region ?_
                refine xk_move rfl (by decide) ?_
                refine xk_nilC rfl (by decide) ?_
                refine xk_field (off := 2) (by kernel_rfl) rfl (by decide) ?_
                refine xk_load (by kernel_rfl) rfl (Rd.roc (by simp) h2) (by decide) ?_
                refine xk_assign rfl (by decide) ?_
                refine XK.nilN ?_
                refine XK.ret ?_
                refine XK.norm ?_
                exact XK.ret1 rfl rfl fun w1 st => ⟨by simp_all [listV], st.below (by simp)⟩
              ·
                refine XK.skip ?_
                refine XK.norm ?_
                refine XK.seq ?_

                refine XK.region ?_
                refine xk_assign rfl (by decide) ?_
                refine XK.nilN ?_
                refine XK.ret ?_
                refine XK.norm ?_
                exact XK.ret1 rfl rfl fun w1 st => ⟨by simp_all [listV], st.below (by simp)⟩
        ·

          refine XK.region ?_
          refine xk_eql rfl rfl (by decide) ?_
          refine xk_assign rfl (by decide) ?_
          refine XK.nilN ?_
          refine XK.if_ rfl (fun h => ?_) (fun h => ?_)
          ·
            refine XK.seq ?_

            refine XK.region ?_
            refine xk_move rfl (by decide) ?_
            refine xk_nilC rfl (by decide) ?_
            refine xk_field (off := 1) (by kernel_rfl) rfl (by decide) ?_
            refine xk_load (by kernel_rfl) rfl (Rd.roc (by simp) h1) (by decide) ?_
            refine xk_assign rfl (by decide) ?_
            refine XK.nilN ?_
            refine XK.ret ?_
            refine XK.norm ?_
            exact XK.ret1 rfl rfl fun w1 st => ⟨by simp_all [listV], st.below (by simp)⟩
          ·
            refine XK.seq ?_
            refine XK.seq ?_

            refine XK.region ?_
            refine xk_eql rfl rfl (by decide) ?_
            refine xk_assign rfl (by decide) ?_
            refine XK.nilN ?_
            refine XK.if_ rfl (fun h => ?_) (fun h => ?_)
            ·
              refine XK.skip ?_
              refine XK.norm ?_
              refine XK.if_ rfl (fun h => ?_) (fun h => ?_)
              ·
                refine XK.seq ?_

                refine XK.region ?_
                refine xk_move rfl (by decide) ?_
                refine xk_nilC rfl (by decide) ?_
                refine xk_field (off := 2) (by kernel_rfl) rfl (by decide) ?_
                refine xk_load (by kernel_rfl) rfl (Rd.roc (by simp) h2) (by decide) ?_
                refine xk_assign rfl (by decide) ?_
                refine XK.nilN ?_
                refine XK.ret ?_
                refine XK.norm ?_
                exact XK.ret1 rfl rfl fun w1 st => ⟨by simp_all [listV], st.below (by simp)⟩
              ·
                refine XK.skip ?_
                refine XK.norm ?_
                refine XK.seq ?_

                refine XK.region ?_
                refine xk_assign rfl (by decide) ?_
                refine XK.nilN ?_
                refine XK.ret ?_
                refine XK.norm ?_
                exact XK.ret1 rfl rfl fun w1 st => ⟨by simp_all [listV], st.below (by simp)⟩
            ·

              refine XK.region ?_
              refine xk_eql rfl rfl (by decide) ?_
              refine xk_assign rfl (by decide) ?_
              refine XK.nilN ?_
              refine XK.if_ rfl (fun h => ?_) (fun h => ?_)
              ·
                refine XK.seq ?_

                refine XK.region ?_
                refine xk_move rfl (by decide) ?_
                refine xk_nilC rfl (by decide) ?_
                refine xk_field (off := 2) (by kernel_rfl) rfl (by decide) ?_
                refine xk_load (by kernel_rfl) rfl (Rd.roc (by simp) h2) (by decide) ?_
                refine xk_assign rfl (by decide) ?_
                refine XK.nilN ?_
                refine XK.ret ?_
                refine XK.norm ?_
                exact XK.ret1 rfl rfl fun w1 st => ⟨by simp_all [listV], st.below (by simp)⟩
              ·
                refine XK.skip ?_
                refine XK.norm ?_
                refine XK.seq ?_

                refine XK.region ?_
                refine xk_assign rfl (by decide) ?_
                refine XK.nilN ?_
                refine XK.ret ?_
                refine XK.norm ?_
                exact XK.ret1 rfl rfl fun w1 st => ⟨by simp_all [listV], st.below (by simp)⟩
    ·

      refine XK.region ?_
      refine xk_eql rfl rfl (by decide) ?_
      refine xk_assign rfl (by decide) ?_
      refine XK.nilN ?_
      refine XK.if_ rfl (fun h => ?_) (fun h => ?_)
      ·
        refine XK.seq ?_

        refine XK.region ?_
        refine xk_move rfl (by decide) ?_
        refine xk_nilC rfl (by decide) ?_
        refine xk_field (off := 0) (by kernel_rfl) rfl (by decide) ?_
        refine xk_load (by kernel_rfl) rfl (Rd.roc (by simp) h0) (by decide) ?_
        refine xk_assign rfl (by decide) ?_
        refine XK.nilN ?_
        refine XK.ret ?_
        refine XK.norm ?_
        exact XK.ret1 rfl rfl fun w1 st => ⟨by simp_all [listV], st.below (by simp)⟩
      ·
        refine XK.seq ?_
        refine XK.seq ?_

        refine XK.region ?_
        refine xk_eql rfl rfl (by decide) ?_
        refine xk_assign rfl (by decide) ?_
        refine XK.nilN ?_
        refine XK.if_ rfl (fun h => ?_) (fun h => ?_)
        ·
          refine XK.skip ?_
          refine XK.norm ?_
          refine XK.if_ rfl (fun h => ?_) (fun h => ?_)
          ·
            refine XK.seq ?_

            refine XK.region ?_
            refine xk_move rfl (by decide) ?_
            refine xk_nilC rfl (by decide) ?_
            refine xk_field (off := 1) (by kernel_rfl) rfl (by decide) ?_
            refine xk_load (by kernel_rfl) rfl (Rd.roc (by simp) h1) (by decide) ?_
            refine xk_assign rfl (by decide) ?_
            refine XK.nilN ?_
            refine XK.ret ?_
            refine XK.norm ?_
            exact XK.ret1 rfl rfl fun w1 st => ⟨by simp_all [listV], st.below (by simp)⟩
          ·
            refine XK.seq ?_
            refine XK.seq ?_

            refine XK.region ?_
            refine xk_eql rfl rfl (by decide) ?_
            refine xk_assign rfl (by decide) ?_
            refine XK.nilN ?_
            refine XK.if_ rfl (fun h => ?_) (fun h => ?_)
            ·
              refine XK.skip ?_
              refine XK.norm ?_
              refine XK.if_ rfl (fun h => ?_) (fun h => ?_)
              ·
                refine XK.seq ?_

                refine XK.region ?_
                refine xk_move rfl (by decide) ?_
                refine xk_nilC rfl (by decide) ?_
                refine xk_field (off := 2) (by kernel_rfl) rfl (by decide) ?_
                refine xk_load (by kernel_rfl) rfl (Rd.roc (by simp) h2) (by decide) ?_
                refine xk_assign rfl (by decide) ?_
                refine XK.nilN ?_
                refine XK.ret ?_
                refine XK.norm ?_
                exact XK.ret1 rfl rfl fun w1 st => ⟨by simp_all [listV], st.below (by simp)⟩
              ·
                refine XK.skip ?_
                refine XK.norm ?_
                refine XK.seq ?_

                refine XK.region ?_
                refine xk_assign rfl (by decide) ?_
                refine XK.nilN ?_
                refine XK.ret ?_
                refine XK.norm ?_
                exact XK.ret1 rfl rfl fun w1 st => ⟨by simp_all [listV], st.below (by simp)⟩
            ·

              refine XK.region ?_
              refine xk_eql rfl rfl (by decide) ?_
              refine xk_assign rfl (by decide) ?_
              refine XK.nilN ?_
              refine XK.if_ rfl (fun h => ?_) (fun h => ?_)
              ·
                refine XK.seq ?_

                refine XK.region ?_
                refine xk_move rfl (by decide) ?_
                refine xk_nilC rfl (by decide) ?_
                refine xk_field (off := 2) (by kernel_rfl) rfl (by decide) ?_
                refine xk_load (by kernel_rfl) rfl (Rd.roc (by simp) h2) (by decide) ?_
                refine xk_assign rfl (by decide) ?_
                refine XK.nilN ?_
                refine XK.ret ?_
                refine XK.norm ?_
                exact XK.ret1 rfl rfl fun w1 st => ⟨by simp_all [listV], st.below (by simp)⟩
              ·
                refine XK.skip ?_
                refine XK.norm ?_
                refine XK.seq ?_

                refine XK.region ?_
                refine xk_assign rfl (by decide) ?_
                refine XK.nilN ?_
                refine XK.ret ?_
                refine XK.norm ?_
                exact XK.ret1 rfl rfl fun w1 st => ⟨by simp_all [listV], st.below (by simp)⟩
        ·

          refine XK.region ?_
          refine xk_eql rfl rfl (by decide) ?_
          refine xk_assign rfl (by decide) ?_
          refine XK.nilN ?_
          refine XK.if_ rfl (fun h => ?_) (fun h => ?_)
          ·
            refine XK.seq ?_

            refine XK.region ?_
            refine xk_move rfl (by decide) ?_
            refine xk_nilC rfl (by decide) ?_
            refine xk_field (off := 1) (by kernel_rfl) rfl (by decide) ?_
            refine xk_load (by kernel_rfl) rfl (Rd.roc (by simp) h1) (by decide) ?_
            refine xk_assign rfl (by decide) ?_
            refine XK.nilN ?_
            refine XK.ret ?_
            refine XK.norm ?_
            exact XK.ret1 rfl rfl fun w1 st => ⟨by simp_all [listV], st.below (by simp)⟩
          ·
            refine XK.seq ?_
            refine XK.seq ?_

            refine XK.region ?_
            refine xk_eql rfl rfl (by decide) ?_
            refine xk_assign rfl (by decide) ?_
            refine XK.nilN ?_
            refine XK.if_ rfl (fun h => ?_) (fun h => ?_)
            ·
              refine XK.skip ?_
              refine XK.norm ?_
              refine XK.if_ rfl (fun h => ?_) (fun h => ?_)
              ·
                refine XK.seq ?_

                refine XK.region ?_
                refine xk_move rfl (by decide) ?_
                refine xk_nilC rfl (by decide) ?_
                refine xk_field (off := 2) (by kernel_rfl) rfl (by decide) ?_
                refine xk_load (by kernel_rfl) rfl (Rd.roc (by simp) h2) (by decide) ?_
                refine xk_assign rfl (by decide) ?_
                refine XK.nilN ?_
                refine XK.ret ?_
                refine XK.norm ?_
                exact XK.ret1 rfl rfl fun w1 st => ⟨by simp_all [listV], st.below (by simp)⟩
              ·
                refine XK.skip ?_
                refine XK.norm ?_
                refine XK.seq ?_

                refine XK.region ?_
                refine xk_assign rfl (by decide) ?_
                refine XK.nilN ?_
                refine XK.ret ?_
                refine XK.norm ?_
                exact XK.ret1 rfl rfl fun w1 st => ⟨by simp_all [listV], st.below (by simp)⟩
            ·

              refine XK.region ?_
              refine xk_eql rfl rfl (by decide) ?_
              refine xk_assign rfl (by decide) ?_
              refine XK.nilN ?_
              refine XK.if_ rfl (fun h => ?_) (fun h => ?_)
              ·
                refine XK.seq ?_

                refine XK.region ?_
                refine xk_move rfl (by decide) ?_
                refine xk_nilC rfl (by decide) ?_
                refine xk_field (off := 2) (by kernel_rfl) rfl (by decide) ?_
                refine xk_load (by kernel_rfl) rfl (Rd.roc (by simp) h2) (by decide) ?_
                refine xk_assign rfl (by decide) ?_
                refine XK.nilN ?_
                refine XK.ret ?_
                refine XK.norm ?_
                exact XK.ret1 rfl rfl fun w1 st => ⟨by simp_all [listV], st.below (by simp)⟩
              ·
                refine XK.skip ?_
                refine XK.norm ?_
                refine XK.seq ?_

                refine XK.region ?_
                refine xk_assign rfl (by decide) ?_
                refine XK.nilN ?_
                refine XK.ret ?_
                refine XK.norm ?_
                exact XK.ret1 rfl rfl fun w1 st => ⟨by simp_all [listV], st.below (by simp)⟩

theorem wishes_any (g ag : Nat) (x : Wsh) (k id : Int) (w : World) (hag : ag < 2) (hM : WshM w g (ag * 3) x) :
    Calls Try.prog 57 #[.pointer (some ⟨g, 0, none⟩), .int .i64 (ag : Int), .int .u8 k, .int .i64 id] w (Rt (.bool (wishF x k id)) w) := by
  obtain ⟨A1, k1, A2, k2, A3, k3, h1, h2, h3, s1, s2, s3⟩ := hM
  obtain ⟨A, c, hL, hS⟩ := listV_S (k1 := k1) (k2 := k2) (k3 := k3) s1 s2 s3 k
  refine XK.enter (vs := [.pointer (some ⟨g, 0, none⟩), .int .i64 (ag : Int), .int .u8 k, .int .i64 id]) Try.func57 rfl Try.ntmps57 (by simp) ?_
  refine XK.seq ?_

  refine XK.region ?_
  refine xk_assign rfl (by decide) ?_
  refine XK.nilN ?_
  refine XK.seq ?_

  refine XK.region ?_
  refine xk_move rfl (by decide) ?_
  refine xk_move rfl (by decide) ?_
  refine xk_nilC rfl (by decide) ?_
  refine xk_field (off := 0) (by kernel_rfl) rfl (by decide) ?_
  refine xk_atA (ag) (ag * 3) (n := 2) (el := 56) (sz := 3) (by kernel_rfl) (by kernel_rfl) rfl rfl (by omega) (by omega) (by omega) (by decide) ?_
  refine xk_move rfl (by decide) ?_
  refine xk_callR (f := 62) (fi := []) (ca := []) (by kernel_rfl) rfl rfl (by decide) (fun w1 st => list_any g (ag * 3) k _ _ _ w1 (h1.thn (st.below (by simp))) (h2.thn (st.below (by simp))) (h3.thn (st.below (by simp)))) ?_
  rw [hL]
  refine xk_assign rfl (by decide) ?_
  refine XK.nilN ?_
  refine XK.seq ?_

  refine XK.region ?_
  refine xk_move rfl (by decide) ?_
  refine xk_geq rfl rfl (by decide) ?_
  refine xk_move rfl (by decide) ?_
  (first | refine xk_split (t := 19) rfl (fun hg => ?_) (fun hg => ?_) | refine xk_splitB (t := 19) rfl (fun hg => ?_) (fun hg => ?_))
  ·
    refine xk_guardT rfl rfl ?_; refine xk_move rfl (by decide) ?_
    refine xk_guardT rfl rfl ?_; refine xk_move rfl (by decide) ?_
    refine xk_guardT rfl rfl ?_; refine xk_len (el := 4) (by kernel_rfl) rfl (by decide) ?_
    refine xk_guardT rfl rfl ?_; refine xk_lss rfl rfl (by decide) ?_
    (first | refine xk_pickT rfl rfl (by decide) ?_ | refine xk_pickF rfl rfl (by decide) ?_)
    refine xk_move rfl (by decide) ?_
    (first | refine xk_split (t := 25) rfl (fun hg => ?_) (fun hg => ?_) | refine xk_splitB (t := 25) rfl (fun hg => ?_) (fun hg => ?_))
    ·
      obtain ⟨i, rfl⟩ : ∃ i : Nat, id = (i : Int) := ⟨id.toNat, by omega⟩
      have hil : i < (kindL k x).length := by omega
      obtain ⟨b, off, rfl, hz, hc⟩ := hS.2 (by omega)
      obtain ⟨v, hv⟩ : ∃ v, (kindL k x)[i]? = some v := ⟨_, List.getElem?_eq_getElem hil⟩
      refine xk_guardT rfl rfl ?_; refine xk_move rfl (by decide) ?_
      refine xk_guardT rfl rfl ?_; refine xk_move rfl (by decide) ?_
      refine xk_guardT rfl rfl ?_; refine xk_at (i) (off + i) (el := 4) (sz := 1) (by kernel_rfl) (by kernel_rfl) rfl rfl (by omega) (by omega) (by omega) (by decide) ?_
      refine xk_guardT rfl rfl ?_; refine xk_load (by kernel_rfl) rfl (Rd.ro (p := all w) (by simp) hz (hc i _ (boolCells_at hv))) (by decide) ?_
      (first | refine xk_pickT rfl rfl (by decide) ?_ | refine xk_pickF rfl rfl (by decide) ?_)
      refine xk_assign rfl (by decide) ?_
      refine XK.nilN ?_
      refine XK.ret ?_
      refine XK.norm ?_
      exact XK.ret1 rfl rfl fun w1 st => ⟨by simp [wishF, hasB, hv], st.below (by simp)⟩
    ·
      refine xk_guardF rfl rfl rfl (by decide) ?_
      refine xk_guardF rfl rfl rfl (by decide) ?_
      refine xk_guardF rfl rfl rfl (by decide) ?_
      refine xk_guardF rfl rfl rfl (by decide) ?_
      (first | refine xk_pickT rfl rfl (by decide) ?_ | refine xk_pickF rfl rfl (by decide) ?_)
      refine xk_assign rfl (by decide) ?_
      refine XK.nilN ?_
      refine XK.ret ?_
      refine XK.norm ?_
      have hn : hasB (kindL k x) id.toNat = false := by rw [hasB, List.getElem?_eq_none (by omega)]; rfl
      exact XK.ret1 rfl rfl fun w1 st => ⟨by simp [wishF, hn], st.below (by simp)⟩
  ·
    refine xk_guardF rfl rfl rfl (by decide) ?_
    refine xk_guardF rfl rfl rfl (by decide) ?_
    refine xk_guardF rfl rfl rfl (by decide) ?_
    refine xk_guardF rfl rfl rfl (by decide) ?_
    (first | refine xk_pickT rfl rfl (by decide) ?_ | refine xk_pickF rfl rfl (by decide) ?_)
    refine xk_move rfl (by decide) ?_
    refine xk_guardF rfl rfl rfl (by decide) ?_
    refine xk_guardF rfl rfl rfl (by decide) ?_
    refine xk_guardF rfl rfl rfl (by decide) ?_
    refine xk_guardF rfl rfl rfl (by decide) ?_
    (first | refine xk_pickT rfl rfl (by decide) ?_ | refine xk_pickF rfl rfl (by decide) ?_)
    refine xk_assign rfl (by decide) ?_
    refine XK.nilN ?_
    refine XK.ret ?_
    refine XK.norm ?_
    have hn : decide (0 ≤ id) = false := by simp; omega
    exact XK.ret1 rfl rfl fun w1 st => ⟨by simp [wishF, hn], st.below (by simp)⟩

end Go.Proofs.Ytbgibbbggajgaaa
/- package table: what any agent wishes; what clocks can be turned on and off. -/
namespace Go.Proofs.Ytbgibbbggajgaaa
set_option linter.all false
open Go.RowKit
/-- what both agents wish, at a block -/
def StM (w : World) (g : Nat) (x y : Wsh) : Prop := ∀ i, i < 2 → WshM w g (i * 3) (if i = 0 then x else y)
def wishedF (x y : Wsh) (k id : Int) : Bool := wishF x k id || wishF y k id
theorem WshM.thn {w w' : World} {g o : Nat} {x : Wsh} (h : WshM w g o x) (hb : Below w.heap.size w w') : WshM w' g o x := by
  obtain ⟨A1, k1, A2, k2, A3, k3, h1, h2, h3, s1, s2, s3⟩ := h
  have hl : (all w).Le (all w') := fun b hb' => ⟨Nat.lt_of_lt_of_le hb' hb.size, hb.block b hb'⟩
  exact ⟨A1, k1, A2, k2, A3, k3, h1.thn hb, h2.thn hb, h3.thn hb, s1.le hl, s2.le hl, s3.le hl⟩
theorem StM.thn {w w' : World} {g : Nat} {x y : Wsh} (h : StM w g x y) (hb : Below w.heap.size w w') : StM w' g x y := fun i hi => (h i hi).thn hb

theorem wished_any (g : Nat) (x y : Wsh) (k id : Int) (w : World) (hM : StM w g x y) :
    Calls Try.prog 59 #[.pointer (some ⟨g, 0, none⟩), .int .u8 k, .int .i64 id] w (Rt (.bool (wishedF x y k id)) w) := by
  refine XK.enter (vs := [.pointer (some ⟨g, 0, none⟩), .int .u8 k, .int .i64 id]) Try.func59 rfl Try.ntmps59 (by simp) ?_
  refine XK.seq ?_

  refine XK.region ?_
  refine xk_assign rfl (by decide) ?_
  refine XK.nilN ?_
  refine XK.seq ?_
  refine XK.seq ?_

  refine XK.region ?_
  refine xk_move rfl (by decide) ?_
  refine XK.nilN ?_
  refine XK.envS [(8, .int .i64 0), (2, .int .i64 id), (1, .int .u8 k), (0, .pointer (some ⟨g, 0, none⟩))] ?_
  refine XK.block ?_
  refine XK.loop (fun m e R H => ∃ (i : Nat), i ≤ 2 ∧ m = 2 - i ∧ (∀ j, j < i → wishF (if j = 0 then x else y) k id = false) ∧ e = [(8, .int .i64 i), (2, .int .i64 id), (1, .int .u8 k), (0, .pointer (some ⟨g, 0, none⟩))] ∧ R = [all w] ∧ H = []) 2 ⟨0, by omega, rfl, (fun j hj => absurd hj (Nat.not_lt_zero j)), rfl, rfl, rfl⟩ fun m e R H hI => ?_
  obtain ⟨i, hi, rfl, hno, rfl, rfl, rfl⟩ := hI
  refine XK.seq ?_

  refine XK.region ?_
  refine xk_lss rfl rfl (by decide) ?_
  refine XK.nilN ?_
  refine XK.seq ?_
  refine XK.if_ rfl (fun h => ?_) (fun h => ?_)
  ·
    refine XK.skip ?_
    refine XK.norm ?_
    refine XK.seq ?_
    refine XK.block ?_
    refine XK.seq ?_

    refine XK.region ?_
    refine xk_move rfl (by decide) ?_
    refine xk_assign rfl (by decide) ?_
    refine XK.nilN ?_
    refine XK.seq ?_

    refine XK.region ?_
    refine xk_move rfl (by decide) ?_
    refine xk_move rfl (by decide) ?_
    refine xk_move rfl (by decide) ?_
    refine xk_move rfl (by decide) ?_
    have hi2 : i < 2 := by have h' : (i : Int) < 2 := h; omega
    refine xk_callR (f := 57) (fi := []) (ca := []) (by kernel_rfl) rfl rfl (by decide) (fun w1 st => wishes_any g i (if i = 0 then x else y) k id w1 hi2 ((hM i hi2).thn (st.below (by simp)))) ?_
    refine XK.nilN ?_
    refine XK.cond rfl (fun hw => ?_) (fun hw => ?_)
    ·
      refine XK.seq ?_

      refine XK.region ?_
      refine xk_assign rfl (by decide) ?_
      refine XK.nilN ?_
      refine XK.ret ?_
      refine XK.norm ?_
      have hr : wishedF x y k id = true := by
        unfold wishedF
        rcases (by omega : i = 0 ∨ i = 1) with rfl | rfl
        · simp at hw; simp [hw]
        · simp at hw; simp [hw]
      exact XK.ret1 rfl rfl fun w1 st => ⟨by rw [hr], st.below (by simp)⟩
    ·
      refine XK.skip ?_
      refine XK.norm ?_

      refine XK.region ?_
      refine xk_add rfl rfl (wrap_in (by omega)) (by decide) ?_
      refine xk_move rfl (by decide) ?_
      refine XK.nilN ?_
      exact XK.envS [(8, .int .i64 ((i : Int) + 1)), (2, .int .i64 id), (1, .int .u8 k), (0, .pointer (some ⟨g, 0, none⟩))] (XK.round (2 - (i + 1)) (by omega) ⟨i + 1, by omega, rfl, (fun j hj => by
        rcases Nat.lt_or_ge j i with h1 | h1
        · exact hno j h1
        · obtain rfl : j = i := by omega
          exact hw), rfl, rfl, rfl⟩)
  ·
    refine XK.exit ?_
    refine XK.norm ?_
    refine XK.seq ?_

    refine XK.region ?_
    refine xk_assign rfl (by decide) ?_
    refine XK.nilN ?_
    refine XK.ret ?_
    refine XK.norm ?_
    have hi2 : i = 2 := by have h' : ¬ (i : Int) < 2 := h; omega
    subst hi2
    have e0 := hno 0 (by omega)
    have e1 := hno 1 (by omega)
    have hr : wishedF x y k id = false := by
      unfold wishedF
      simp at e0 e1
      simp [e0, e1]
    exact XK.ret1 rfl rfl fun w1 st => ⟨by rw [hr], st.below (by simp)⟩

theorem switched_any (k : Int) (A : Option Addr) (n c : Nat) (r m d l : Int) (w : World) :
    Calls Try.prog 110 #[.agg #[.int .u8 k, .slice A n c, .int .u64 r, .int .i64 m, .int .i64 d, .int .i64 l]] w (Rt (.bool (decide (k = 112 ∨ k = 103))) w) := by
  refine XK.enter (vs := [.agg #[.int .u8 k, .slice A n c, .int .u64 r, .int .i64 m, .int .i64 d, .int .i64 l]]) Try.func110 rfl Try.ntmps110 (by simp) ?_
  refine XK.seq ?_

  refine XK.region ?_
  refine xk_box rfl (by decide) fun g1 => ?_
  refine xk_assign rfl (by decide) ?_
  refine XK.nilN ?_
  refine XK.seq ?_

  refine XK.region ?_
  refine xk_field (off := 0) (by kernel_rfl) rfl (by decide) ?_
  refine xk_ld rfl ?_
  refine xk_eql rfl rfl (by decide) ?_
  refine xk_move rfl (by decide) ?_
  (first | refine xk_split (t := 6) rfl (fun hg => ?_) (fun hg => ?_) | refine xk_splitB (t := 6) rfl (fun hg => ?_) (fun hg => ?_))
  ·
    refine xk_guardF rfl rfl rfl (by decide) ?_
    refine xk_guardF rfl rfl rfl (by decide) ?_
    refine xk_guardF rfl rfl rfl (by decide) ?_
    (first | refine xk_pickT rfl rfl (by decide) ?_ | refine xk_pickF rfl rfl (by decide) ?_)
    refine xk_assign rfl (by decide) ?_
    refine XK.nilN ?_
    refine XK.ret ?_
    refine XK.norm ?_
    exact XK.ret1 rfl rfl fun w1 st => ⟨by simp_all, st.below (by simp)⟩
  ·
    refine xk_guardT rfl rfl ?_; refine xk_field (off := 0) (by kernel_rfl) rfl (by decide) ?_
    refine xk_guardT rfl rfl ?_; refine xk_ld rfl ?_
    refine xk_guardT rfl rfl ?_; refine xk_eql rfl rfl (by decide) ?_
    (first | refine xk_pickT rfl rfl (by decide) ?_ | refine xk_pickF rfl rfl (by decide) ?_)
    refine xk_assign rfl (by decide) ?_
    refine XK.nilN ?_
    refine XK.ret ?_
    refine XK.norm ?_
    exact XK.ret1 rfl rfl fun w1 st => ⟨by simp_all, st.below (by simp)⟩

end Go.Proofs.Ytbgibbbggajgaaa
/- The small logic: maps whose keys are pairs of numbers. -/
namespace Go.Proofs.Ytbgibbbggajgaaa
set_option linter.all false
open Go.RowKit
def kP (p : Int × Int) : Value := .agg #[.int .i64 p.1, .int .i64 p.2]
/-- the map at r has these keys and values, in the order in which they came -/
def MapV (w : World) (r : Nat) (l : List ((Int × Int) × Value)) : Prop := ∃ es clock, w.heap[r]? = some (.map es clock) ∧ es.toList.map (fun x => (x.key, x.val)) = l.map fun p => (kP p.1, p.2)
def mgetP (l : List ((Int × Int) × Value)) (k : Int × Int) : Option Value := (l.find? fun p => decide (p.1 = k)).map (·.2)
theorem mgetP_cons (a : Int × Int) (b : Value) (l : List ((Int × Int) × Value)) (k : Int × Int) : mgetP ((a, b) :: l) k = if a = k then some b else mgetP l k := by
  unfold mgetP
  rw [List.find?_cons]
  by_cases h : a = k <;> simp [h]
section
variable {P : Program} {w : World} {kt : TypeId}
theorem eq_kP (hfl : ∀ a b c d : Int, flatB P kt [.int .i64 a, .int .i64 b] [.int .i64 c, .int .i64 d] = true) (p q : Int × Int) : (Op.equal kt (kP p) (kP q)).run P w = .ok (decide (q = p)) w := by
  obtain ⟨h, _⟩ := run_eqS (P := P) (w := w) (hfl p.1 p.2 q.1 q.2)
  rw [show kP p = .agg [Value.int .i64 p.1, .int .i64 p.2].toArray from rfl, show kP q = .agg [Value.int .i64 q.1, .int .i64 q.2].toArray from rfl, h]
  congr 1
  obtain ⟨a, b⟩ := p
  obtain ⟨c, d⟩ := q
  simp only [eqVs, eqV, Prod.mk.injEq]
  by_cases h1 : a = c
  · subst h1
    by_cases h2 : b = d
    · subst h2; simp
    · have h3 : ¬ d = b := fun e => h2 e.symm
      simp [h2, h3]
  · have h3 : ¬ c = a := fun e => h1 e.symm
    simp [h1, h3]
theorem ask_kP (hfl : ∀ a b c d : Int, flatB P kt [.int .i64 a, .int .i64 b] [.int .i64 c, .int .i64 d] = true) (k : Int × Int) : ∀ (es : List MapEntry) (l : List ((Int × Int) × Value)) (i : Nat), es.map (fun x => (x.key, x.val)) = l.map (fun p => (kP p.1, p.2)) →
    ∃ q, (Instr.findAsking kt (kP k) es i).run P w = .ok q w ∧ q.map (·.2) = mgetP l k
  | [], l, i, h => by
    cases l with
    | nil => exact ⟨none, by simp [Instr.findAsking], rfl⟩
    | cons _ _ => cases h
  | e :: es, l, i, h => by
    cases l with
    | nil => cases h
    | cons p l =>
      simp only [List.map_cons, List.cons.injEq, Prod.mk.injEq] at h
      obtain ⟨⟨h1, h2⟩, h3⟩ := h
      obtain ⟨q, hq1, hq2⟩ := ask_kP hfl k es l (i + 1) h3
      obtain ⟨a, b⟩ := p
      have he := eq_kP (w := w) hfl k a
      rw [← h1] at he
      by_cases hk : a = k
      · refine ⟨some (i, e.val), ?_, ?_⟩
        · unfold Instr.findAsking
          simp [Sem.run_bind, he, hk]
        · rw [mgetP_cons, if_pos hk]; simp [h2]
      · refine ⟨q, ?_, ?_⟩
        · unfold Instr.findAsking
          simp [Sem.run_bind, he, hk, hq1]
        · rw [mgetP_cons, if_neg hk]; exact hq2
theorem check_kP {f0 f1 : Field} {k0 k1 : IntKind} (hk : P.underlying kt = some (.struct #[f0, f1])) (h0 : P.underlying f0.type = some (.int k0)) (h1 : P.underlying f1.type = some (.int k1)) (o0 : f0.offset = 0) (o1 : f1.offset = 1) (p : Int × Int) (b : Bool) : (Instr.checkKey b 10000 kt (kP p)).run P w = .ok () w := by
  have e0 := run_part_one (P := P) (w := w) (cs := #[.int .i64 p.1, .int .i64 p.2]) (i := 0) (v := .int .i64 p.1) h0 (.inl ⟨_, rfl⟩) rfl
  have e1 := run_part_one (P := P) (w := w) (cs := #[.int .i64 p.1, .int .i64 p.2]) (i := 1) (v := .int .i64 p.2) h1 (.inl ⟨_, rfl⟩) rfl
  have c0 : (Instr.checkKey b 9999 f0.type (.int .i64 p.1)).run P w = .ok () w := by
    unfold Instr.checkKey
    simp [Sem.run_bind, run_underlying h0]
  have c1 : (Instr.checkKey b 9999 f1.type (.int .i64 p.2)).run P w = .ok () w := by
    unfold Instr.checkKey
    simp [Sem.run_bind, run_underlying h1]
  unfold Instr.checkKey kP
  by_cases n0 : f0.name = "_" <;> by_cases n1 : f1.name = "_" <;> simp [Sem.run_bind, run_underlying hk, n0, n1, o0, o1, e0, e1, c0, c1]
end
/-- what a key type of pairs asks -/
structure PairK (P : Program) (kt : TypeId) : Prop where
  st : ∃ f0 f1 k0 k1, P.underlying kt = some (.struct #[f0, f1]) ∧ P.underlying f0.type = some (.int k0) ∧ P.underlying f1.type = some (.int k1) ∧ f0.offset = 0 ∧ f1.offset = 1
  fl : ∀ a b c d : Int, flatB P kt [.int .i64 a, .int .i64 b] [.int .i64 c, .int .i64 d] = true
theorem PairK.of {P : Program} {kt : TypeId} {f0 f1 : Field} {k0 k1 : IntKind} (h : P.underlying kt = some (.struct #[f0, f1])) (h0 : P.underlying f0.type = some (.int k0)) (h1 : P.underlying f1.type = some (.int k1)) (o0 : f0.offset = 0) (o1 : f1.offset = 1) (fl : ∀ a b c d : Int, flatB P kt [.int .i64 a, .int .i64 b] [.int .i64 c, .int .i64 d] = true) : PairK P kt := ⟨⟨f0, f1, k0, k1, h, h0, h1, o0, o1⟩, fl⟩
section
variable {P : Program} {w : World} {t kt et : TypeId} {r : Nat} {l : List ((Int × Int) × Value)}
theorem find_kP (hk : PairK P kt) (k : Int × Int) (es : List MapEntry) (h : es.map (fun x => (x.key, x.val)) = l.map (fun p => (kP p.1, p.2))) : ∃ q, (Instr.findKey kt (kP k) es).run P w = .ok q w ∧ q.map (·.2) = mgetP l k := by
  obtain ⟨f0, f1, k0, k1, hu, _⟩ := hk.st
  obtain ⟨q, h1, h2⟩ := ask_kP (w := w) hk.fl k es l 0 h
  cases es with
  | nil =>
    cases l with
    | cons _ _ => cases h
    | nil => exact ⟨none, by simp [Instr.findKey, Sem.run_bind, run_underlying hu, Instr.findNow], rfl⟩
  | cons e es =>
    refine ⟨q, ?_, h2⟩
    unfold Instr.findKey
    have : Instr.findNow (.struct #[f0, f1]) (kP k) (e :: es) 0 = none := by
      unfold Instr.findNow Instr.sameNow
      rfl
    simp [Sem.run_bind, run_underlying hu, this, h1]
theorem run_lookup_kP {z : Value} (ht : P.underlying t = some (.map kt et)) (hk : PairK P kt) (hz : ∀ w, (zeroValue et).run P w = .ok z w) (h : MapV w r l) (k : Int × Int) (ok : Bool) :
    (Instr.lookup t (.map (some r)) (kP k) ok).run P w = .ok (if ok then .tuple #[(mgetP l k).getD z, .bool (mgetP l k).isSome] else (mgetP l k).getD z) w := by
  obtain ⟨es, c, h1, h2⟩ := h
  obtain ⟨q, hf, hq2⟩ := find_kP (w := w) hk k es.toList h2
  obtain ⟨f0, f1, k0, k1, hu, u0, u1, o0, o1⟩ := hk.st
  have hc := fun b => check_kP (w := w) hu u0 u1 o0 o1 k b
  unfold Instr.lookup
  rw [← hq2]
  cases q with
  | none => cases ok <;> simp [Sem.run_bind, run_underlying ht, run_getObj_map h1, hc, hf, hz]
  | some x => obtain ⟨j, v⟩ := x; cases ok <;> simp [Sem.run_bind, run_underlying ht, run_getObj_map h1, hc, hf]
theorem run_insert_kP (ht : P.underlying t = some (.map kt et)) (hk : PairK P kt) (h : MapV w r l) (k : Int × Int) (v : Value) (hno : mgetP l k = none) :
    ∃ es c, (Instr.mapUpdate t (.map (some r)) (kP k) v).run P w = .ok () { w with heap := w.heap.setIfInBounds r (.map es c) } ∧ es.toList.map (fun x => (x.key, x.val)) = (l ++ [(k, v)]).map fun p => (kP p.1, p.2) := by
  obtain ⟨es, c, h1, h2⟩ := h
  obtain ⟨q, hf, hq2⟩ := find_kP (w := w) hk k es.toList h2
  obtain ⟨f0, f1, k0, k1, hu, u0, u1, o0, o1⟩ := hk.st
  have hc := fun b => check_kP (w := w) hu u0 u1 o0 o1 k b
  have hset : ∀ o, (setObj r o).run P w = .ok () { w with heap := w.heap.setIfInBounds r o } := fun o => by simp [setObj, Sem.run, h1]
  rw [hno] at hq2
  obtain rfl : q = none := by cases q with | none => rfl | some x => cases hq2
  refine ⟨es.push { key := kP k, val := v, born := c }, c + 1, ?_, ?_⟩
  · unfold Instr.mapUpdate
    simp [Sem.run_bind, run_underlying ht, run_getObj_map h1, hc, hf, hset]
  · rw [Array.toList_push, List.map_append, h2]
    simp
end
def HP.mapV (r : Nat) (l : List ((Int × Int) × Value)) : HP := ⟨fun F w => F r ∧ MapV w r l, fun F w w' h hk => ⟨h.1, by
  obtain ⟨es, c, h1, h2⟩ := h.2
  exact ⟨es, c, (hk r h.1).trans h1, h2⟩⟩⟩
theorem MapV.lt {w : World} {r : Nat} {l : List ((Int × Int) × Value)} (h : MapV w r l) : r < w.heap.size := by
  obtain ⟨es, c, h1, _⟩ := h
  rcases Nat.lt_or_ge r w.heap.size with h | h
  · exact h
  · rw [Array.getElem?_eq_none h] at h1; cases h1
section
variable {P : Program} {N : Nat} {w0 w : World} {e : Env} {R : List Piece} {H : List HP} {Q : Exit → Act → World → Prop} {ops : Array Oper} {rest : List Oper}
variable {d : Nat} {ty : TypeId} {pos : String} {aft : Array Edge}
theorem St.mapV (st : St w0 R H w) {i r : Nat} {l : List ((Int × Int) × Value)} (hi : H[i]? = some (HP.mapV r l)) : MapV w r l := (st.sat hi).choose_spec.2
theorem xk_makeMapV {t : TypeId} (hd : d < N) (k : ∀ g, XK N w0 (wpList P ops Q rest) ((d, .map (some g)) :: e) R (HP.mapV g [] :: H)) : XK N w0 (wpList P ops Q (⟨some d, .makeMap t none, ty, pos, aft, none⟩ :: rest)) e R H :=
  xk_run rfl fun a w hr st => ⟨.map (some w.heap.size), w.alloc (.map #[] 0), by simp [execOp, Instr.makeMap], k w.heap.size _ _ (hr.put hd _) (st.new (alloc_below w _) ⟨⟨Nat.le_refl _, by simp⟩, #[], 0, heap_alloc_new w _, rfl⟩)⟩
theorem xk_lookupV {x y : Operand} {t kt et : TypeId} {z : Value} {r : Nat} {l : List ((Int × Int) × Value)} {k : Int × Int} (ok : Bool) (ht : P.underlying t = some (.map kt et)) (hk : PairK P kt) (hz : (P.info? et).bind (·.zero) = some z)
    (hx : e.ev x = some (.map (some r))) (hy : e.ev y = some (kP k)) (hm : ∀ w, St w0 R H w → MapV w r l) (hd : d < N)
    (kk : XK N w0 (wpList P ops Q rest) ((d, if ok then .tuple #[(mgetP l k).getD z, .bool (mgetP l k).isSome] else (mgetP l k).getD z) :: e) R H) : XK N w0 (wpList P ops Q (⟨some d, .lookup t x y ok, ty, pos, aft, none⟩ :: rest)) e R H :=
  xk_run rfl fun a w hr st => ⟨_, w, by simp only [execOp, hr.ev hx, hr.ev hy, Sem.run_bind, run_lookup_kP ht hk (zeroV hz) (hm w st), Result.andThen_ok, Sem.run_pure], kk _ _ (hr.put hd _) st⟩
theorem xk_lookupT {x y : Operand} {t kt et : TypeId} {z v : Value} {r : Nat} {l : List ((Int × Int) × Value)} {k : Int × Int} {b : Bool} (ht : P.underlying t = some (.map kt et)) (hk : PairK P kt) (hz : (P.info? et).bind (·.zero) = some z)
    (hx : e.ev x = some (.map (some r))) (hy : e.ev y = some (kP k)) (hm : ∀ w, St w0 R H w → MapV w r l) (hv : (mgetP l k).getD z = v) (hb : (mgetP l k).isSome = b) (hd : d < N)
    (kk : XK N w0 (wpList P ops Q rest) ((d, .tuple #[v, .bool b]) :: e) R H) : XK N w0 (wpList P ops Q (⟨some d, .lookup t x y true, ty, pos, aft, none⟩ :: rest)) e R H :=
  xk_lookupV true ht hk hz hx hy hm hd (by subst hv; subst hb; exact kk)
theorem xk_insertV (i : Nat) {x y u : Operand} {t kt et : TypeId} {r : Nat} {l : List ((Int × Int) × Value)} {k : Int × Int} {v : Value} (ht : P.underlying t = some (.map kt et)) (hk : PairK P kt) (hi : H[i]? = some (HP.mapV r l)) (hno : mgetP l k = none)
    (hx : e.ev x = some (.map (some r))) (hy : e.ev y = some (kP k)) (hu : e.ev u = some v) (kk : XK N w0 (wpList P ops Q rest) e R (H.set i (HP.mapV r (l ++ [(k, v)])))) : XK N w0 (wpList P ops Q (⟨none, .insert t x y u, ty, pos, aft, none⟩ :: rest)) e R H :=
  xk_skip rfl rfl fun a w hr st => by
    have hm := st.mapV hi
    have hlt := hm.lt
    obtain ⟨es, c, hrun, hl⟩ := run_insert_kP (P := P) ht hk hm k v hno
    refine ⟨{ w with heap := w.heap.setIfInBounds r (.map es c) }, by simp only [execOp, hr.ev hx, hr.ev hy, hr.ev hu, Sem.run_bind, hrun, Result.andThen_ok, Sem.run_pure], kk _ _ hr ?_⟩
    refine st.turn hi (by simp) rfl rfl rfl fun F hF hb => ⟨F, ⟨hF.1, es, c, by simp [Array.getElem?_setIfInBounds, hlt], hl⟩, fun b h => ⟨.inl h, by simpa using hb b h⟩, fun b hb hnb => ?_⟩
    rw [Array.getElem?_setIfInBounds]
    split
    · rename_i he; exact absurd (he ▸ hF.1) hnb
    · rfl
end
end Go.Proofs.Ytbgibbbggajgaaa
