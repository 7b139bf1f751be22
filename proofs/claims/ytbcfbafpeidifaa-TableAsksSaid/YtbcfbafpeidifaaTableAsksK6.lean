/- chapter 14's laws: their example, and messages of raw numbers. -/
import Derived.ChangeArms
import Derived.Test.YtbcfbafpeidifaaTableAsksK5
namespace Go.Proofs.Ytbcfbafpeidifaa
set_option linter.all false
open Go.RowKit

theorem rowO_any (w0 : Int) (A : Option Addr) (n c : Nat) (zs : List Int) (w : World) (hs : SlS (all w) 1 A n (u32Cells zs)) (hn : n = zs.length) (hn2 : n ≤ 1000000) : Calls Try.prog 24 #[.int .u32 w0, .slice A n c] w (fun y w' => (∃ v hs q, y = .returned v ∧ q.w = w' ∧ RowO (w0 :: zs) v hs q ∧ New w hs q) ∧ Below w.heap.size w w') := by
  refine XK.enter (vs := [.int .u32 w0, .slice A n c]) Try.func24 rfl Try.ntmps24 (by simp) ?_
  refine XK.seq ?_

  refine XK.region ?_
  refine xk_assign rfl (by decide) ?_
  refine XK.nilN ?_
  refine XK.seq ?_

  refine XK.region ?_
  refine xk_move rfl (by decide) ?_
  refine xk_len (el := 54) (by kernel_rfl) rfl (by decide) ?_
  refine xk_add rfl rfl (wrap_in (by omega)) (by decide) ?_
  refine xk_makeCapT 1 4 (el := 54) (c := n + 1) (k0 := 1) (kd' := .i64) (by kernel_rfl) (by kernel_rfl) rfl (by rw [Int.natCast_add]; rfl) (by omega) (by omega) (by decide) fun g1 => ?_
  refine xk_assign rfl (by decide) ?_
  refine XK.nilN ?_
  refine XK.seq ?_

  refine XK.region ?_
  refine xk_move rfl (by decide) ?_
  refine xk_move rfl (by decide) ?_
  refine xk_slice (el := 54) (sz := 1) (zs := [.int .u32 0]) (by kernel_rfl) (zeroB_of (by kernel_rfl)) (by kernel_rfl) rfl (by decide) (by decide) rfl (by simp [fillL, setN, Value.cells, List.range_succ, List.set]; rfl) (by decide) fun g2 => ?_
  refine xk_appendT 1 1 4 1 (n' := 1) (el := 54) (by kernel_rfl) (by kernel_rfl) (by decide) rfl rfl rfl (sl_blk 0 rfl rfl) (by simp [Value.oneCell']) rfl (by omega) (by omega) (by decide) fun A1 c1 => ?_
  dsimp only [List.set]
  refine xk_assign rfl (by decide) ?_
  refine XK.nilN ?_
  refine XK.seq ?_

  refine XK.region ?_
  refine xk_move rfl (by decide) ?_
  refine xk_move rfl (by decide) ?_
  refine xk_appendT 1 1 4 n (n' := n + 1) (el := 54) (by kernel_rfl) (by kernel_rfl) (by decide) rfl rfl rfl (sl_ro (by simp) hs) (u32Cells_one _) (by omega) (by omega) (by omega) (by decide) fun A2 c2 => ?_
  dsimp only [List.set]
  refine xk_assign rfl (by decide) ?_
  refine XK.nilN ?_
  refine XK.ret ?_
  refine XK.norm ?_
  subst hn
  refine XK.still [] [] [1] (by simp) rfl (by decide) (by decide) fun q _ _ hfr => ?_
  exact XK.ret1 rfl rfl fun w1 st => ⟨⟨_, _, ⟨w1, q.Z⟩, rfl, rfl, ⟨_, _, rfl, rfl⟩, st.newR (by simp) (by simp) (hfr (by simp) (by simp))⟩, st.below (by simp)⟩

theorem commandO_any (m t p k : Int) (A : Option Addr) (n c : Nat) (zs : List Int) (w : World) (hs : SlS (all w) 1 A n (u32Cells zs)) (hn : n = zs.length) (hn2 : n ≤ 1000000) (hok : (packZ m t p k).2 = 0) : Calls Try.prog 13 #[.agg #[.int .i64 m, .int .i64 t, .int .i64 p, .int .i64 k], .slice A n c] w (fun y w' => (∃ v hs q, y = .returned v ∧ q.w = w' ∧ CmdO ((packZ m t p k).1 :: zs) v hs q ∧ New w hs q) ∧ Below w.heap.size w w') := by
  refine XK.enter (vs := [.agg #[.int .i64 m, .int .i64 t, .int .i64 p, .int .i64 k], .slice A n c]) Try.func13 rfl Try.ntmps13 (by simp) ?_
  refine XK.seq ?_

  refine XK.region ?_
  refine xk_box rfl (by decide) fun g1 => ?_
  refine xk_assign rfl (by decide) ?_
  refine xk_assign rfl (by decide) ?_
  refine XK.nilN ?_
  refine XK.seq ?_

  refine XK.region ?_
  refine xk_ldN 4 rfl ?_
  refine xk_callR (f := 23) (fi := []) (ca := []) (by kernel_rfl) rfl rfl (by decide) (fun w1 st => pack_any m t p k w1) ?_
  refine xk_move rfl (by decide) ?_
  refine xk_extract rfl rfl (by decide) ?_
  refine xk_extract rfl rfl (by decide) ?_
  refine xk_assign rfl (by decide) ?_
  refine xk_assign rfl (by decide) ?_
  refine XK.nilN ?_
  refine XK.seq ?_
  refine XK.seq ?_

  refine XK.region ?_
  refine xk_move rfl (by decide) ?_
  refine xk_neq rfl rfl (by decide) ?_
  refine XK.nilN ?_
  refine XK.if_ rfl (fun h => ?_) (fun h => ?_)
  ·
    refine XK.seq ?_

    refine XK.region ?_
    refine xk_move rfl (by decide) ?_
    refine xk_assign rfl (by decide) ?_
    refine xk_assign rfl (by decide) ?_
    refine XK.nilN ?_
    refine XK.ret ?_
    refine XK.norm ?_
    exact absurd hok h
  ·
    refine XK.skip ?_
    refine XK.norm ?_
    refine XK.seq ?_

    refine XK.region ?_
    refine xk_move rfl (by decide) ?_
    refine xk_move rfl (by decide) ?_
    refine xk_callN (f := 24) (fi := []) (ca := []) (by kernel_rfl) rfl rfl (by decide) (RowO ((packZ m t p k).1 :: zs)) (fun w1 st => rowO_any (packZ m t p k).1 A n c zs w1 (hs.le (st.le (by simp))) hn hn2) ?_
    rintro _ _ q1 ⟨A1, c1, rfl, rfl⟩ _
    simp only [List.cons_append, List.nil_append]
    refine xk_assign rfl (by decide) ?_
    refine xk_assign rfl (by decide) ?_
    refine XK.nilN ?_
    refine XK.ret ?_
    refine XK.norm ?_
    refine XK.still [] [] [0] (by simp) rfl (by decide) (by decide) fun q _ _ hfr => ?_
    refine XK.ret2 rfl rfl rfl fun w1 st => ⟨⟨_, _, ⟨w1, q.Z⟩, rfl, rfl, ⟨_, _, rfl, rfl⟩, st.newR (by simp) (by simp) (hfr (by simp) (by simp))⟩, st.below (by simp)⟩

theorem message14_any (a1 a2 a3 a4 a5 a6 : Int) (w : World) (h1 : -9223372036854775808 ≤ a1 ∧ a1 ≤ 9223372036854775807) (h2 : -9223372036854775808 ≤ a2 ∧ a2 ≤ 9223372036854775807) (h3 : -9223372036854775808 ≤ a3 ∧ a3 ≤ 9223372036854775807) (h4 : -9223372036854775808 ≤ a4 ∧ a4 ≤ 9223372036854775807) (h5 : -9223372036854775808 ≤ a5 ∧ a5 ≤ 9223372036854775807) (h6 : -9223372036854775808 ≤ a6 ∧ a6 ≤ 9223372036854775807) :
    Calls Try.prog 11 #[.agg #[.int .i64 a1, .int .i64 a2, .int .i64 a3, .int .i64 a4, .int .i64 a5, .int .i64 a6]] w (RtW WordsOk w) := by
  refine XK.enter (vs := [.agg #[.int .i64 a1, .int .i64 a2, .int .i64 a3, .int .i64 a4, .int .i64 a5, .int .i64 a6]]) Try.func11 rfl Try.ntmps11 (by simp) ?_
  refine XK.seq ?_

  refine XK.region ?_
  refine xk_box rfl (by decide) fun g1 => ?_
  refine xk_assign rfl (by decide) ?_
  refine XK.nilN ?_
  refine XK.seq ?_

  refine XK.region ?_
  refine xk_slice (el := 3) (sz := 1) (zs := [.int .i64 0]) (by kernel_rfl) (zeroB_of (by kernel_rfl)) (by kernel_rfl) rfl (by decide) (by decide) rfl (by simp [fillL, setN, Value.cells, List.range_succ, List.set]; rfl) (by decide) fun g2 => ?_
  refine xk_assign rfl (by decide) ?_
  refine XK.nilN ?_
  refine XK.seq ?_

  refine XK.region ?_
  refine xk_move rfl (by decide) ?_
  refine xk_field (off := 1) (by kernel_rfl) rfl (by decide) ?_
  refine xk_ld rfl ?_
  refine xk_callV (f := 9) (fi := []) (ca := []) (by kernel_rfl) rfl rfl (by decide) (fun v => ∃ r : Int, v = .int .i64 r ∧ 0 ≤ r ∧ r < 8) (fun w1 st => pick14_any _ _ w1 (by assumption) (by omega)) fun v hv => ?_
  obtain ⟨r1, rfl, hr01, hr11⟩ := hv
  obtain ⟨p, hp, hpb⟩ : ∃ p : Int, ([.int .i64 17, .int .i64 20, .int .i64 22, .int .i64 17, .int .i64 20, .int .i64 22, .int .i64 16, .int .i64 19] : List Value)[r1.toNat]? = some (.int .i64 p) ∧ 0 ≤ p ∧ p < 256 := by
    rcases (by omega : r1.toNat = 0 ∨ r1.toNat = 1 ∨ r1.toNat = 2 ∨ r1.toNat = 3 ∨ r1.toNat = 4 ∨ r1.toNat = 5 ∨ r1.toNat = 6 ∨ r1.toNat = 7) with h | h | h | h | h | h | h | h <;> rw [h] <;> exact ⟨_, rfl, by decide⟩
  refine xk_at r1.toNat r1.toNat (el := 3) (sz := 1) (by kernel_rfl) (by kernel_rfl) rfl rfl (by omega) (by omega) (by omega) (by decide) ?_
  refine xk_load (by kernel_rfl) rfl (Rd.blk 0 rfl hp) (by decide) ?_
  refine xk_assign rfl (by decide) ?_
  refine XK.nilN ?_
  refine XK.seq ?_

  refine XK.region ?_
  refine xk_slice (el := 3) (sz := 1) (zs := [.int .i64 0]) (by kernel_rfl) (zeroB_of (by kernel_rfl)) (by kernel_rfl) rfl (by decide) (by decide) rfl (by simp [fillL, setN, Value.cells, List.range_succ, List.set]; rfl) (by decide) fun g3 => ?_
  refine xk_assign rfl (by decide) ?_
  refine XK.nilN ?_
  refine XK.seq ?_

  refine XK.region ?_
  refine xk_move rfl (by decide) ?_
  refine xk_field (off := 2) (by kernel_rfl) rfl (by decide) ?_
  refine xk_ld rfl ?_
  refine xk_callV (f := 9) (fi := []) (ca := []) (by kernel_rfl) rfl rfl (by decide) (fun v => ∃ r : Int, v = .int .i64 r ∧ 0 ≤ r ∧ r < 9) (fun w1 st => pick14_any _ _ w1 (by assumption) (by omega)) fun v hv => ?_
  obtain ⟨r2, rfl, hr02, hr12⟩ := hv
  obtain ⟨m, hm, hmb⟩ : ∃ m : Int, ([.int .i64 4, .int .i64 4, .int .i64 5, .int .i64 7, .int .i64 7, .int .i64 6, .int .i64 0, .int .i64 1, .int .i64 2] : List Value)[r2.toNat]? = some (.int .i64 m) ∧ 0 ≤ m ∧ m < 256 := by
    rcases (by omega : r2.toNat = 0 ∨ r2.toNat = 1 ∨ r2.toNat = 2 ∨ r2.toNat = 3 ∨ r2.toNat = 4 ∨ r2.toNat = 5 ∨ r2.toNat = 6 ∨ r2.toNat = 7 ∨ r2.toNat = 8) with h | h | h | h | h | h | h | h | h <;> rw [h] <;> exact ⟨_, rfl, by decide⟩
  refine xk_at r2.toNat r2.toNat (el := 3) (sz := 1) (by kernel_rfl) (by kernel_rfl) rfl rfl (by omega) (by omega) (by omega) (by decide) ?_
  refine xk_load (by kernel_rfl) rfl (Rd.blk 0 rfl hm) (by decide) ?_
  refine xk_assign rfl (by decide) ?_
  refine XK.nilN ?_
  refine XK.cut (fun e R H => ∃ m : Int, (0 ≤ m ∧ m < 256) ∧ e = [(6, .int .i64 m), (4, .int .i64 p), (1, .pointer (some ⟨g1, 0, none⟩))] ∧ R = [all w] ∧ H = [HP.blk g1 41 [.int .i64 a1, .int .i64 a2, .int .i64 a3, .int .i64 a4, .int .i64 a5, .int .i64 a6]]) ?_ ?_
  ·
    refine XK.seq ?_

    refine XK.region ?_
    refine xk_move rfl (by decide) ?_
    refine xk_eql rfl rfl (by decide) ?_
    refine xk_move rfl (by decide) ?_
    (first | refine xk_split (t := 25) rfl (fun hg => ?_) (fun hg => ?_) | refine xk_splitB (t := 25) rfl (fun hg => ?_) (fun hg => ?_))
    ·
      refine xk_guardT rfl rfl ?_; refine xk_field (off := 2) (by kernel_rfl) rfl (by decide) ?_
      refine xk_guardT rfl rfl ?_; refine xk_ld rfl ?_
      refine xk_guardT rfl rfl ?_; refine xk_callV (f := 9) (fi := []) (ca := []) (by kernel_rfl) rfl rfl (by decide) (fun v => ∃ r : Int, v = .int .i64 r ∧ 0 ≤ r ∧ r < 9) (fun w1 st => pick14_any _ _ w1 (by assumption) (by omega)) fun v hv => ?_
      obtain ⟨r3, rfl, hr03, hr13⟩ := hv
      refine xk_guardT rfl rfl ?_; refine xk_lss rfl rfl (by decide) ?_
      (first | refine xk_pickT rfl rfl (by decide) ?_ | refine xk_pickF rfl rfl (by decide) ?_)
      refine XK.nilN ?_
      refine XK.if_ rfl (fun h => ?_) (fun h => ?_)
      ·

        refine XK.region ?_
        refine xk_assign rfl (by decide) ?_
        refine XK.nilN ?_
        exact XK.weak [2] rfl (by decide) (by simp) (XK.envS [(6, .int .i64 7), (4, .int .i64 p), (1, .pointer (some ⟨g1, 0, none⟩))] (XK.meet ⟨7, by decide, rfl, rfl, rfl⟩))
      ·
        refine XK.skip ?_
        refine XK.norm ?_
        exact XK.weak [2] rfl (by decide) (by simp) (XK.envS [(6, .int .i64 m), (4, .int .i64 p), (1, .pointer (some ⟨g1, 0, none⟩))] (XK.meet ⟨m, hmb, rfl, rfl, rfl⟩))
    ·
      refine xk_guardF rfl rfl rfl (by decide) ?_
      refine xk_guardF rfl rfl rfl (by decide) ?_
      refine xk_guardF rfl rfl rfl (by decide) ?_
      refine xk_guardF rfl rfl rfl (by decide) ?_
      (first | refine xk_pickT rfl rfl (by decide) ?_ | refine xk_pickF rfl rfl (by decide) ?_)
      refine XK.nilN ?_
      refine XK.cond rfl (fun h => by cases h) (fun _ => ?_)
      refine XK.skip ?_
      refine XK.norm ?_
      exact XK.weak [2] rfl (by decide) (by simp) (XK.envS [(6, .int .i64 m), (4, .int .i64 p), (1, .pointer (some ⟨g1, 0, none⟩))] (XK.meet ⟨m, hmb, rfl, rfl, rfl⟩))
  rintro _ _ _ ⟨m, hmb, rfl, rfl, rfl⟩
  refine XK.seq ?_

  refine XK.region ?_
  refine xk_move rfl (by decide) ?_
  refine xk_move rfl (by decide) ?_
  refine xk_field (off := 4) (by kernel_rfl) rfl (by decide) ?_
  refine xk_ld rfl ?_
  refine xk_callV (f := 9) (fi := []) (ca := []) (by kernel_rfl) rfl rfl (by decide) (fun v => ∃ r : Int, v = .int .i64 r ∧ 0 ≤ r ∧ r < 1024) (fun w1 st => pick14_any _ _ w1 (by assumption) (by omega)) fun v hv => ?_
  obtain ⟨r4, rfl, hr04, hr14⟩ := hv
  refine xk_buildS (zs := [.int .i64 0, .int .i64 0, .int .i64 0, .int .i64 0]) (L := [(0, 1), (1, 1), (2, 1), (3, 1)]) (zeroB_of (by kernel_rfl)) (by kernel_rfl) rfl (by simp [fillL, setN, Value.cells]; rfl) (by decide) ?_
  refine xk_callN (f := 13) (fi := []) (ca := []) (by kernel_rfl) rfl rfl (by decide) (CmdO ((packZ m 0 p r4).1 :: [])) (fun w1 st => commandO_any m 0 p r4 none 0 0 [] w1 (SlS.nil _ _) rfl (by omega) (pack_ok hmb hpb ⟨hr04, hr14⟩)) ?_
  rintro _ _ q1 ⟨A1, c1, rfl, rfl⟩ _
  simp only [List.cons_append, List.nil_append]
  refine xk_move rfl (by decide) ?_
  refine xk_extract rfl rfl (by decide) ?_
  refine xk_extract rfl rfl (by decide) ?_
  refine xk_assign rfl (by decide) ?_
  refine xk_assign rfl (by decide) ?_
  refine XK.nilN ?_
  refine XK.weakR (R' := [all w]) (by simp) ?_
  generalize hl0 : (packZ m 0 p r4).1 :: [] = l at *
  have hU0 : U32s l := by rw [← hl0]; intro x hx; simp at hx; subst hx; exact pack_bd _ _ _ _
  have hln : l.length = 1 := by rw [← hl0]; rfl
  clear hl0
  refine XK.cut (fun e R H => ∃ (l : List Int) (A : Option Addr) (c : Nat), (1 ≤ l.length ∧ l.length ≤ 2) ∧ U32s l ∧ e = [(7, .slice A l.length c), (6, .int .i64 m), (1, .pointer (some ⟨g1, 0, none⟩))] ∧ R = [all w] ∧ H = [HP.own 54 1 (.slice A l.length c) l.length (u32Cells l), HP.blk g1 41 [.int .i64 a1, .int .i64 a2, .int .i64 a3, .int .i64 a4, .int .i64 a5, .int .i64 a6]]) ?_ ?_
  ·
    refine XK.seq ?_

    refine XK.region ?_
    refine xk_move rfl (by decide) ?_
    refine xk_neq rfl rfl (by decide) ?_
    refine xk_move rfl (by decide) ?_
    (first | refine xk_split (t := 43) rfl (fun hg => ?_) (fun hg => ?_) | refine xk_splitB (t := 43) rfl (fun hg => ?_) (fun hg => ?_))
    ·
      refine xk_guardT rfl rfl ?_; refine xk_move rfl (by decide) ?_
      refine xk_guardT rfl rfl ?_; refine xk_neq rfl rfl (by decide) ?_
      (first | refine xk_pickT rfl rfl (by decide) ?_ | refine xk_pickF rfl rfl (by decide) ?_)
      refine XK.nilN ?_
      refine XK.if_ rfl (fun h => ?_) (fun h => ?_)
      ·

        refine XK.region ?_
        refine xk_move rfl (by decide) ?_
        refine xk_field (off := 3) (by kernel_rfl) rfl (by decide) ?_
        refine xk_ld rfl ?_
        refine xk_callV (f := 9) (fi := []) (ca := []) (by kernel_rfl) rfl rfl (by decide) (fun v => ∃ r : Int, v = .int .i64 r ∧ 0 ≤ r ∧ r < 10) (fun w1 st => pick14_any _ _ w1 (by assumption) (by omega)) fun v hv => ?_
        obtain ⟨r5, rfl, hr05, hr15⟩ := hv
        refine xk_conv (ds := .int .i64) (by kernel_rfl) (by kernel_rfl) rfl (wrap_u32 (by omega)) (by decide) ?_
        refine xk_slice (el := 54) (sz := 1) (zs := [.int .u32 0]) (by kernel_rfl) (zeroB_of (by kernel_rfl)) (by kernel_rfl) rfl (by decide) (by decide) rfl (by simp [fillL, setN, Value.cells, List.range_succ, List.set]; rfl) (by decide) fun g4 => ?_
        refine xk_appendT 1 1 4 1 (n' := l.length + 1) (el := 54) (by kernel_rfl) (by kernel_rfl) (by decide) rfl rfl rfl (sl_blk 0 rfl rfl) (by simp [Value.oneCell']) rfl (by omega) (by omega) (by decide) fun A2 c2 => ?_
        dsimp only [List.set]
        refine xk_assign rfl (by decide) ?_
        refine XK.nilN ?_
        have hX := U32s.snoc (x := r5) hU0 (by omega)
        have e1 : u32Cells l ++ [.int .u32 r5] = u32Cells (l ++ [r5]) := u32Cells_snoc l r5
        exact XK.weak [1, 2] rfl (by decide) (by simp) (XK.envS [(7, .slice A2 (l.length + 1) c2), (6, .int .i64 m), (1, .pointer (some ⟨g1, 0, none⟩))] (XK.meet ⟨l ++ [r5], A2, c2, ⟨by simp, by simp; omega⟩, hX, by simp, rfl, by simp [e1]⟩))
      ·
        refine XK.skip ?_
        refine XK.norm ?_
        exact XK.envS [(7, .slice A1 l.length c1), (6, .int .i64 m), (1, .pointer (some ⟨g1, 0, none⟩))] (XK.meet ⟨l, _, _, ⟨by omega, by omega⟩, hU0, rfl, rfl, rfl⟩)
    ·
      refine xk_guardF rfl rfl rfl (by decide) ?_
      refine xk_guardF rfl rfl rfl (by decide) ?_
      (first | refine xk_pickT rfl rfl (by decide) ?_ | refine xk_pickF rfl rfl (by decide) ?_)
      refine XK.nilN ?_
      refine XK.cond rfl (fun h => by cases h) (fun _ => ?_)
      refine XK.skip ?_
      refine XK.norm ?_
      exact XK.envS [(7, .slice A1 l.length c1), (6, .int .i64 m), (1, .pointer (some ⟨g1, 0, none⟩))] (XK.meet ⟨l, _, _, ⟨by omega, by omega⟩, hU0, rfl, rfl, rfl⟩)
  rintro _ _ _ ⟨l, A1, c1, hln, hU0, rfl, rfl, rfl⟩
  refine XK.cut (fun e R H => ∃ (l : List Int) (A : Option Addr) (c : Nat), (1 ≤ l.length ∧ l.length ≤ 3) ∧ U32s l ∧ e = [(7, .slice A l.length c), (6, .int .i64 m), (1, .pointer (some ⟨g1, 0, none⟩))] ∧ R = [all w] ∧ H = [HP.own 54 1 (.slice A l.length c) l.length (u32Cells l), HP.blk g1 41 [.int .i64 a1, .int .i64 a2, .int .i64 a3, .int .i64 a4, .int .i64 a5, .int .i64 a6]]) ?_ ?_
  ·
    refine XK.seq ?_

    refine XK.region ?_
    refine xk_move rfl (by decide) ?_
    refine xk_eql rfl rfl (by decide) ?_
    refine xk_move rfl (by decide) ?_
    (first | refine xk_split (t := 56) rfl (fun hg => ?_) (fun hg => ?_) | refine xk_splitB (t := 56) rfl (fun hg => ?_) (fun hg => ?_))
    ·
      refine xk_guardF rfl rfl rfl (by decide) ?_
      refine xk_guardF rfl rfl rfl (by decide) ?_
      (first | refine xk_pickT rfl rfl (by decide) ?_ | refine xk_pickF rfl rfl (by decide) ?_)
      refine XK.nilN ?_
      refine XK.cond rfl (fun _ => ?_) (fun h => by cases h)

      refine XK.region ?_
      refine xk_move rfl (by decide) ?_
      refine xk_field (off := 4) (by kernel_rfl) rfl (by decide) ?_
      refine xk_ld rfl ?_
      refine xk_callV (f := 9) (fi := []) (ca := []) (by kernel_rfl) rfl rfl (by decide) (fun v => ∃ r : Int, v = .int .i64 r ∧ 0 ≤ r ∧ r < 4) (fun w1 st => pick14_any _ _ w1 (by assumption) (by omega)) fun v hv => ?_
      obtain ⟨r6, rfl, hr06, hr16⟩ := hv
      refine xk_conv (ds := .int .i64) (by kernel_rfl) (by kernel_rfl) rfl (wrap_u32 (by omega)) (by decide) ?_
      refine xk_slice (el := 54) (sz := 1) (zs := [.int .u32 0]) (by kernel_rfl) (zeroB_of (by kernel_rfl)) (by kernel_rfl) rfl (by decide) (by decide) rfl (by simp [fillL, setN, Value.cells, List.range_succ, List.set]; rfl) (by decide) fun g5 => ?_
      refine xk_appendT 1 1 4 1 (n' := l.length + 1) (el := 54) (by kernel_rfl) (by kernel_rfl) (by decide) rfl rfl rfl (sl_blk 0 rfl rfl) (by simp [Value.oneCell']) rfl (by omega) (by omega) (by decide) fun A2 c2 => ?_
      dsimp only [List.set]
      refine xk_assign rfl (by decide) ?_
      refine XK.nilN ?_
      have hX := U32s.snoc (x := r6) hU0 (by omega)
      have e1 : u32Cells l ++ [.int .u32 r6] = u32Cells (l ++ [r6]) := u32Cells_snoc l r6
      exact XK.weak [1, 2] rfl (by decide) (by simp) (XK.envS [(7, .slice A2 (l.length + 1) c2), (6, .int .i64 m), (1, .pointer (some ⟨g1, 0, none⟩))] (XK.meet ⟨l ++ [r6], A2, c2, ⟨by simp, by simp; omega⟩, hX, by simp, rfl, by simp [e1]⟩))
    ·
      refine xk_guardT rfl rfl ?_; refine xk_move rfl (by decide) ?_
      refine xk_guardT rfl rfl ?_; refine xk_eql rfl rfl (by decide) ?_
      (first | refine xk_pickT rfl rfl (by decide) ?_ | refine xk_pickF rfl rfl (by decide) ?_)
      refine XK.nilN ?_
      refine XK.if_ rfl (fun h => ?_) (fun h => ?_)
      ·

        refine XK.region ?_
        refine xk_move rfl (by decide) ?_
        refine xk_field (off := 4) (by kernel_rfl) rfl (by decide) ?_
        refine xk_ld rfl ?_
        refine xk_callV (f := 9) (fi := []) (ca := []) (by kernel_rfl) rfl rfl (by decide) (fun v => ∃ r : Int, v = .int .i64 r ∧ 0 ≤ r ∧ r < 4) (fun w1 st => pick14_any _ _ w1 (by assumption) (by omega)) fun v hv => ?_
        obtain ⟨r6, rfl, hr06, hr16⟩ := hv
        refine xk_conv (ds := .int .i64) (by kernel_rfl) (by kernel_rfl) rfl (wrap_u32 (by omega)) (by decide) ?_
        refine xk_slice (el := 54) (sz := 1) (zs := [.int .u32 0]) (by kernel_rfl) (zeroB_of (by kernel_rfl)) (by kernel_rfl) rfl (by decide) (by decide) rfl (by simp [fillL, setN, Value.cells, List.range_succ, List.set]; rfl) (by decide) fun g6 => ?_
        refine xk_appendT 1 1 4 1 (n' := l.length + 1) (el := 54) (by kernel_rfl) (by kernel_rfl) (by decide) rfl rfl rfl (sl_blk 0 rfl rfl) (by simp [Value.oneCell']) rfl (by omega) (by omega) (by decide) fun A2 c2 => ?_
        dsimp only [List.set]
        refine xk_assign rfl (by decide) ?_
        refine XK.nilN ?_
        have hX := U32s.snoc (x := r6) hU0 (by omega)
        have e1 : u32Cells l ++ [.int .u32 r6] = u32Cells (l ++ [r6]) := u32Cells_snoc l r6
        exact XK.weak [1, 2] rfl (by decide) (by simp) (XK.envS [(7, .slice A2 (l.length + 1) c2), (6, .int .i64 m), (1, .pointer (some ⟨g1, 0, none⟩))] (XK.meet ⟨l ++ [r6], A2, c2, ⟨by simp, by simp; omega⟩, hX, by simp, rfl, by simp [e1]⟩))
      ·
        refine XK.skip ?_
        refine XK.norm ?_
        exact XK.envS [(7, .slice A1 l.length c1), (6, .int .i64 m), (1, .pointer (some ⟨g1, 0, none⟩))] (XK.meet ⟨l, _, _, ⟨by omega, by omega⟩, hU0, rfl, rfl, rfl⟩)
  rintro _ _ _ ⟨l, A1, c1, hln, hU0, rfl, rfl, rfl⟩
  refine XK.cut (fun e R H => ∃ (l : List Int) (A : Option Addr) (c : Nat), l.length ≤ 4 ∧ U32s l ∧ (∃ A0 n0 c0, (l.length ≤ n0 ∧ ∃ l0 : List Int, l0.length = n0 ∧ l = l0.take l.length ∧ (0 < l.length → (∃ b off, A0 = some ⟨b, off, none⟩) → A = A0) ∧ H = [HP.own 54 1 (.slice A0 n0 c0) n0 (u32Cells l0)])) ∧ e = [(7, .slice A l.length c)] ∧ R = [all w]) ?_ ?_
  ·
    refine XK.seq ?_

    refine XK.region ?_
    refine xk_field (off := 5) (by kernel_rfl) rfl (by decide) ?_
    refine xk_ld rfl ?_
    refine xk_callV (f := 9) (fi := []) (ca := []) (by kernel_rfl) rfl rfl (by decide) (fun v => ∃ r : Int, v = .int .i64 r ∧ 0 ≤ r ∧ r < 30) (fun w1 st => pick14_any _ _ w1 (by assumption) (by omega)) fun v hv => ?_
    obtain ⟨r7, rfl, hr07, hr17⟩ := hv
    refine XK.nilN ?_
    refine XK.block ?_
    refine XK.seq ?_

    refine XK.region ?_
    refine xk_eql rfl rfl (by decide) ?_
    refine xk_assign rfl (by decide) ?_
    refine XK.nilN ?_
    refine XK.if_ rfl (fun h => ?_) (fun h => ?_)
    ·

      refine XK.region ?_
      refine xk_move rfl (by decide) ?_
      refine xk_slice (el := 54) (sz := 1) (zs := [.int .u32 0]) (by kernel_rfl) (zeroB_of (by kernel_rfl)) (by kernel_rfl) rfl (by decide) (by decide) rfl (by simp [fillL, setN, Value.cells, List.range_succ, List.set]; rfl) (by decide) fun g7 => ?_
      refine xk_appendT 1 1 4 1 (n' := l.length + 1) (el := 54) (by kernel_rfl) (by kernel_rfl) (by decide) rfl rfl rfl (sl_blk 0 rfl rfl) (by simp [Value.oneCell']) rfl (by omega) (by omega) (by decide) fun A2 c2 => ?_
      dsimp only [List.set]
      refine xk_assign rfl (by decide) ?_
      refine XK.nilN ?_
      have hX := U32s.snoc (x := 0) hU0 (by omega)
      exact XK.weak [1] rfl (by decide) (by simp) (XK.envS [(7, .slice A2 (l.length + 1) c2)] (XK.meet ⟨l ++ [0], A2, c2, by simp; omega, hX, ⟨A2, l.length + 1, c2, by simp, l ++ [0], by simp, List.take_length.symm, fun _ _ => rfl, by rw [← u32Cells_snoc]⟩, by simp, rfl⟩))
    ·
      refine XK.seq ?_

      refine XK.region ?_
      refine xk_eql rfl rfl (by decide) ?_
      refine xk_assign rfl (by decide) ?_
      refine XK.nilN ?_
      refine XK.if_ rfl (fun h => ?_) (fun h => ?_)
      ·
        refine XK.ownCap 0 rfl fun hcap => ?_
        have hcap : l.length - 1 ≤ c1 := by omega

        refine XK.region ?_
        refine xk_move rfl (by decide) ?_
        refine xk_move rfl (by decide) ?_
        refine xk_len (el := 54) (by kernel_rfl) rfl (by decide) ?_
        refine xk_sub rfl rfl (wrap_in (by omega)) (by decide) ?_
        refine xk_sliceH (l.length - 1) (el := 54) (sz := 1) (by kernel_rfl) (by kernel_rfl) rfl rfl (by omega) hcap (by decide) fun A3 hA3 => ?_
        refine xk_assign rfl (by decide) ?_
        refine XK.nilN ?_
        have hln2 : (l.take (l.length - 1)).length = l.length - 1 := by rw [List.length_take]; omega
        exact XK.weak [0] rfl (by decide) (by simp) (XK.envS [(7, .slice A3 (l.length - 1) c1)] (XK.meet ⟨l.take (l.length - 1), A3, c1, by omega, U32s.take hU0, ⟨A1, l.length, c1, by omega, l, rfl, by rw [hln2], fun h0 hA => hA3 (by omega) hA, rfl⟩, by rw [hln2], rfl⟩))
      ·
        refine XK.seq ?_

        refine XK.region ?_
        refine xk_eql rfl rfl (by decide) ?_
        refine xk_assign rfl (by decide) ?_
        refine XK.nilN ?_
        refine XK.if_ rfl (fun h => ?_) (fun h => ?_)
        ·
          refine XK.ownAt 0 rfl (by omega) ?_
          rintro ⟨gb, rfl⟩
          refine XK.openOwn 0 rfl fun cs hcl hct hnc hcm => ?_
          dsimp only [List.set]
          obtain ⟨x0, l1, rfl⟩ : ∃ x r, l = x :: r := by
            cases l with
            | nil => exact absurd hln.1 (by simp)
            | cons x r => exact ⟨x, r, rfl⟩
          have hct1 : cs.take (l1.length + 1) = u32Cells (x0 :: l1) := by simpa using hct
          have hc0 : cs[0]? = some (.int .u32 x0) := by
            have := congrArg (fun z : List Value => z[0]?) hct1
            rw [show (cs.take (l1.length + 1))[0]? = cs[0]? by rw [List.getElem?_take]; simp] at this
            simpa [u32Cells] using this

          refine XK.region ?_
          refine xk_move rfl (by decide) ?_
          refine xk_move rfl (by decide) ?_
          refine xk_at 0 0 (el := 54) (sz := 1) (by kernel_rfl) (by kernel_rfl) rfl rfl (by rfl) (by simp) (by omega) (by decide) ?_
          refine xk_load (by kernel_rfl) rfl (Rd.blk 0 rfl hc0) (by decide) ?_
          refine xk_bits rfl rfl (fun w => run_or32 _ x0 268435456 w) (by simp) (by decide) ?_
          refine xk_at 0 0 (el := 54) (sz := 1) (by kernel_rfl) (by kernel_rfl) rfl rfl (by rfl) (by simp) (by omega) (by decide) ?_
          refine xk_store 0 rfl (by kernel_rfl) rfl rfl rfl (by simp at hcl; simp at hnc; omega) ?_; dsimp only [List.set]
          refine XK.nilN ?_
          refine XK.closeOwn 0 (n := l1.length + 1) (c := c1) (sz := 1) (xs := u32Cells ((x0 :: l1).set 0 (or32 x0 268435456))) rfl (by simpa using hcl) (by rw [Nat.mul_one, ← u32Cells_set, ← hct1, List.take_set]) hnc hcm ?_
          dsimp only [List.set]
          have hX := U32s.set (i := 0) (x := or32 x0 268435456) hU0 (or32_bd _ _)
          exact XK.weak [0] rfl (by decide) (by simp) (XK.envS [(7, .slice (some ⟨gb, 0, none⟩) (l1.length + 1) c1)] (XK.meet ⟨(x0 :: l1).set 0 (or32 x0 268435456), (some ⟨gb, 0, none⟩), c1, by simp at hln ⊢; omega, hX, ⟨_, l1.length + 1, c1, by simp, (x0 :: l1).set 0 (or32 x0 268435456), by simp, List.take_length.symm, fun _ _ => rfl, rfl⟩, by simp, rfl⟩))
        ·
          refine XK.seq ?_

          refine XK.region ?_
          refine xk_eql rfl rfl (by decide) ?_
          refine xk_assign rfl (by decide) ?_
          refine XK.nilN ?_
          refine XK.if_ rfl (fun h => ?_) (fun h => ?_)
          ·
            refine XK.ownAt 0 rfl (by omega) ?_
            rintro ⟨gb, rfl⟩
            refine XK.openOwn 0 rfl fun cs hcl hct hnc hcm => ?_
            dsimp only [List.set]
            obtain ⟨x0, l1, rfl⟩ : ∃ x r, l = x :: r := by
              cases l with
              | nil => exact absurd hln.1 (by simp)
              | cons x r => exact ⟨x, r, rfl⟩
            have hct1 : cs.take (l1.length + 1) = u32Cells (x0 :: l1) := by simpa using hct
            have hc0 : cs[0]? = some (.int .u32 x0) := by
              have := congrArg (fun z : List Value => z[0]?) hct1
              rw [show (cs.take (l1.length + 1))[0]? = cs[0]? by rw [List.getElem?_take]; simp] at this
              simpa [u32Cells] using this

            refine XK.region ?_
            refine xk_move rfl (by decide) ?_
            refine xk_move rfl (by decide) ?_
            refine xk_at 0 0 (el := 54) (sz := 1) (by kernel_rfl) (by kernel_rfl) rfl rfl (by rfl) (by simp) (by omega) (by decide) ?_
            refine xk_load (by kernel_rfl) rfl (Rd.blk 0 rfl hc0) (by decide) ?_
            refine xk_bits rfl rfl (fun w => run_or32 _ x0 256 w) (by simp) (by decide) ?_
            refine xk_at 0 0 (el := 54) (sz := 1) (by kernel_rfl) (by kernel_rfl) rfl rfl (by rfl) (by simp) (by omega) (by decide) ?_
            refine xk_store 0 rfl (by kernel_rfl) rfl rfl rfl (by simp at hcl; simp at hnc; omega) ?_; dsimp only [List.set]
            refine XK.nilN ?_
            refine XK.closeOwn 0 (n := l1.length + 1) (c := c1) (sz := 1) (xs := u32Cells ((x0 :: l1).set 0 (or32 x0 256))) rfl (by simpa using hcl) (by rw [Nat.mul_one, ← u32Cells_set, ← hct1, List.take_set]) hnc hcm ?_
            dsimp only [List.set]
            have hX := U32s.set (i := 0) (x := or32 x0 256) hU0 (or32_bd _ _)
            exact XK.weak [0] rfl (by decide) (by simp) (XK.envS [(7, .slice (some ⟨gb, 0, none⟩) (l1.length + 1) c1)] (XK.meet ⟨(x0 :: l1).set 0 (or32 x0 256), (some ⟨gb, 0, none⟩), c1, by simp at hln ⊢; omega, hX, ⟨_, l1.length + 1, c1, by simp, (x0 :: l1).set 0 (or32 x0 256), by simp, List.take_length.symm, fun _ _ => rfl, rfl⟩, by simp, rfl⟩))
          ·
            refine XK.skip ?_
            refine XK.norm ?_
            exact XK.weak [0] rfl (by decide) (by simp) (XK.envS [(7, .slice A1 l.length c1)] (XK.meet ⟨l, A1, c1, by omega, hU0, ⟨A1, l.length, c1, by omega, l, rfl, List.take_length.symm, fun _ _ => rfl, rfl⟩, rfl, rfl⟩))
  rintro _ _ _ ⟨l, A, c, hln, hU0, ⟨A0, n0, c0, ⟨hl0, l0, rfl, hlt, hA, rfl⟩⟩, rfl, rfl⟩
  refine XK.seq ?_

  refine XK.region ?_
  refine xk_move rfl (by decide) ?_
  refine xk_assign rfl (by decide) ?_
  refine XK.nilN ?_
  refine XK.ret ?_
  refine XK.norm ?_
  refine XK.still [] [0] [] (by simp) rfl (by decide) (by decide) fun q hq _ hfr => ?_
  obtain ⟨F0, sf0, zf0⟩ := hq 0 _ (by simp) rfl
  obtain ⟨A9, c9, hB, hs9⟩ := SlS.of_own (Y := q.Z) sf0 zf0
  injection hB with e1 e2 e3
  subst A9
  have hs8 := hs9.takeP hl0 hA
  rw [Nat.mul_one, show (u32Cells l0).take l.length = u32Cells l by rw [u32Cells, ← List.map_take, ← hlt]; rfl] at hs8
  refine XK.ret1 rfl rfl fun w1 st => ⟨⟨_, rfl, l, A, c, rfl, by omega, hU0, SlS.le hs8 (st.fresh_le (by simp) (hfr (by simp) (by simp)))⟩, st.below (by simp)⟩

end Go.Proofs.Ytbcfbafpeidifaa
/- chapter 14's example. -/
namespace Go.Proofs.Ytbcfbafpeidifaa
set_option linter.all false
open Go.RowKit
theorem soc1_dec : decF soc1 (zeroW soc1) (zeroW soc1) [] 0 [(packZ 5 0 17 0).1, 9] = (-4, 0, 0) := by decide +kernel
theorem soc1_pack : (packZ 5 0 17 0).2 = 0 := by decide +kernel
theorem soc1_u32 : U32s [(packZ 5 0 17 0).1, 9] := by
  intro x hx
  simp at hx
  rcases hx with rfl | rfl
  · exact pack_bd _ _ _ _
  · omega

theorem shown14_any (w : World) : Calls Try.prog 6 #[] w (Rt (.bool true) w) := by
  refine XK.enter (vs := []) Try.func6 rfl Try.ntmps6 (by simp) ?_
  refine XK.seq ?_

  refine XK.region ?_
  refine xk_assign rfl (by decide) ?_
  refine XK.nilN ?_
  refine XK.seq ?_

  refine XK.region ?_
  refine xk_buildS (zs := [.int .i64 0, .int .i64 0, .bool false]) (L := [(0, 1), (1, 1), (2, 1)]) (zeroB_of (by kernel_rfl)) (by kernel_rfl) rfl (by simp [fillL, setN, Value.cells]; rfl) (by decide) ?_
  refine xk_slice (el := 57) (sz := 3) (zs := [.int .i64 0, .int .i64 0, .bool false]) (by kernel_rfl) (zeroB_of (by kernel_rfl)) (by kernel_rfl) rfl (by decide) (by decide) rfl (by simp [fillL, setN, Value.cells, List.range_succ, List.set]; rfl) (by decide) fun g1 => ?_
  refine xk_buildS (zs := [.slice none 0 0, .slice none 0 0, .slice none 0 0, .slice none 0 0]) (L := [(0, 1), (1, 1), (2, 1), (3, 1)]) (zeroB_of (by kernel_rfl)) (by kernel_rfl) rfl (by simp [fillL, setN, Value.cells]; rfl) (by decide) ?_
  refine xk_alloc (cs := [.slice none 0 0, .slice none 0 0, .slice none 0 0, .slice none 0 0]) (zeroB_of (by kernel_rfl)) (by decide) fun g2 => ?_
  (first | (refine xk_storeN 0 rfl rfl rfl (by kernel_rfl) (by simp [Value.cells, Value.oneCell']) (by simp [Value.cells]) ?_) | (refine xk_storeN 1 rfl rfl rfl (by kernel_rfl) (by simp [Value.cells, Value.oneCell']) (by simp [Value.cells]) ?_) | (refine xk_storeN 2 rfl rfl rfl (by kernel_rfl) (by simp [Value.cells, Value.oneCell']) (by simp [Value.cells]) ?_) | (refine xk_storeN 3 rfl rfl rfl (by kernel_rfl) (by simp [Value.cells, Value.oneCell']) (by simp [Value.cells]) ?_) | (refine xk_storeN 4 rfl rfl rfl (by kernel_rfl) (by simp [Value.cells, Value.oneCell']) (by simp [Value.cells]) ?_) | (refine xk_storeN 5 rfl rfl rfl (by kernel_rfl) (by simp [Value.cells, Value.oneCell']) (by simp [Value.cells]) ?_) | (refine xk_storeN 6 rfl rfl rfl (by kernel_rfl) (by simp [Value.cells, Value.oneCell']) (by simp [Value.cells]) ?_) | (refine xk_storeN 7 rfl rfl rfl (by kernel_rfl) (by simp [Value.cells, Value.oneCell']) (by simp [Value.cells]) ?_) | (refine xk_storeN 8 rfl rfl rfl (by kernel_rfl) (by simp [Value.cells, Value.oneCell']) (by simp [Value.cells]) ?_)); simp only [putN, Value.cells, List.set, List.take, List.drop, List.nil_append, List.append_nil, List.length_cons, List.length_nil, List.cons_append, Nat.reduceAdd]
  refine XK.nilN ?_
  refine XK.seq ?_

  refine XK.region ?_
  refine xk_buildS (zs := [.int .i64 0, .int .i64 0, .int .i64 0, .int .i64 0]) (L := [(0, 1), (1, 1), (2, 1), (3, 1)]) (zeroB_of (by kernel_rfl)) (by kernel_rfl) rfl (by simp [fillL, setN, Value.cells]; rfl) (by decide) ?_
  refine xk_slice (el := 54) (sz := 1) (zs := [.int .u32 0]) (by kernel_rfl) (zeroB_of (by kernel_rfl)) (by kernel_rfl) rfl (by decide) (by decide) rfl (by simp [fillL, setN, Value.cells, List.range_succ, List.set]; rfl) (by decide) fun g3 => ?_
  refine xk_call [] (f := 13) (fi := []) (ca := []) (by kernel_rfl) rfl rfl (by decide) (by simp) (CmdOk ((packZ 5 0 17 0).1 :: [9])) (fun w1 st => command_any 5 0 17 0 (some ⟨g3, 0, none⟩) 1 1 [9] w1 (st.slS (i := 0) rfl rfl) rfl (by omega) soc1_pack) ?_
  rintro _ w1 q1 ⟨Al, cl, rfl, hl⟩ hf _ _
  have hl := hl.le hf
  clear hf
  refine xk_move rfl (by decide) ?_
  refine xk_extract rfl rfl (by decide) ?_
  refine xk_extract rfl rfl (by decide) ?_
  refine xk_assign rfl (by decide) ?_
  refine xk_assign rfl (by decide) ?_
  refine XK.nilN ?_
  refine XK.cut (fun e R H => ∃ g4, e = [(5, .pointer (some ⟨g4, 0, none⟩)), (4, .int .i32 (-4)), (3, .int .i64 0)] ∧ R = [all w] ∧ H = [HP.blk g4 43 [.int .u8 0, .int .i64 0]]) ?_ ?_
  ·

    refine XK.draw 10 (by kernel_rfl) (by kernel_rfl) ?_
    refine XA.dA 0 rfl rfl rfl (does_ldN 4 rfl) ?_
    refine XA.dA 1 rfl rfl rfl (does_ldN 4 rfl) ?_
    refine XA.dA 3 rfl rfl rfl (does_move rfl) ?_
    refine XA.maybe0 (j := 8) 5 43 [.int .u8 0, .int .i64 0] fun M => ?_
    refine XA.maybe 2 8 rfl rfl (zeroB_of (by kernel_rfl)) (by decide) (by kernel_rfl) (by kernel_rfl) (fun _ h => h) (fun M => ?_)
    refine xk_call [] (f := 8) (fi := []) (ca := []) (by kernel_rfl) (ev_M M rfl rfl) (evs_M M rfl rfl) (by decide) (by simp) (fun v w w' => StR (fresh w w') (zeroW soc1) (zeroW soc1) v) (fun w1 st => start_any soc1 none (some ⟨g1, 0, none⟩) none none 0 1 0 0 w1 soc1_okT) ?_
    rintro _ w1 qs hS0 hf _ _
    have hS0 := StR.le hS0 hf
    clear hf
    obtain ⟨Z0, Zk0, Z1, Zk1, Z2, Zk2, Z3, Zk3, Z4, Zk4, Z5, Zk5, rfl, e1, e2, e3, e4, e5, e6⟩ := hS0
    have hS0 : StR qs (zeroW soc1) (zeroW soc1) (.agg #[.slice Z0 (zeroW soc1).d.length Zk0, .slice Z1 (zeroW soc1).c.length Zk1, .slice Z2 (zeroW soc1).l.length Zk2, .slice Z3 (zeroW soc1).d.length Zk3, .slice Z4 (zeroW soc1).c.length Zk4, .slice Z5 (zeroW soc1).l.length Zk5]) := ⟨Z0, Zk0, Z1, Zk1, Z2, Zk2, Z3, Zk3, Z4, Zk4, Z5, Zk5, rfl, e1, e2, e3, e4, e5, e6⟩
    clear e1 e2 e3 e4 e5 e6
    refine XK.nil ?_; refine XK.thenN ?_; refine XA.backM (by decide) rfl (fun _ h => h.tailR) ?_
    refine XA.maybe 4 8 rfl rfl (zeroB_of (by kernel_rfl)) (by decide) (by kernel_rfl) (by kernel_rfl) (fun _ h => h.tailR) (fun M => ?_)
    refine xk_callR (f := 10) (fi := []) (ca := []) (by kernel_rfl) (ev_M M rfl rfl) (evs_M M rfl rfl) (by decide) (v0 := actV (decF soc1 (zeroW soc1) (zeroW soc1) [] 0 [(packZ 5 0 17 0).1, 9])) (fun w1 st => decide_any (all w1) qs soc1 none (some ⟨g1, 0, none⟩) none none _ _ _ _ _ _ _ _ Z0 Z1 Z2 Z3 Z4 Z5 _ Zk0 _ Zk1 _ Zk2 _ Zk3 _ Zk4 _ Zk5 (zeroW soc1) (zeroW soc1) none 0 0 [] 0 Al 2 cl [(packZ 5 0 17 0).1, 9] w1 (soc1_W (st.unM.slS (i := 2) rfl rfl)).P soc1_okT (Piece.Le.refl _) hS0 (st.le (by simp)) (SlS.nil _ _) rfl (by omega) (hl.le (st.le (by simp))) rfl (by omega) soc1_u32) ?_
    rw [soc1_dec]
    simp only [actV]
    refine XK.nil ?_; refine XK.thenN ?_; refine XA.backM (by decide) rfl (fun _ h => h.tailR) ?_
    cases M
    · dsimp only [emM, hmM, lmM, fmM]
      refine XA.do_ 5 rfl rfl rfl (by decide) (does_move rfl) (by kernel_rfl) (fun _ _ _ h => h) (fun _ h => h.tailR) ?_
      refine XA.do_ 6 rfl rfl rfl (by decide) (does_extract rfl rfl) (by kernel_rfl) (fun _ _ _ h => h) (fun _ h => h.tailR) ?_
      refine XA.do_ 7 rfl rfl rfl (by decide) (does_extract rfl rfl) (by kernel_rfl) (fun _ _ _ h => h) (fun _ h => h.tailR) ?_
      refine XA.next 8 rfl (by kernel_rfl) ?_
      refine xk_alloc (cs := [.int .u8 0, .int .i64 0]) (zeroB_of (by kernel_rfl)) (by decide) fun g4 => ?_
      refine XK.nil ?_; refine XK.thenN ?_; refine XA.back (fun _ h => h.tailR.tail) ?_
      refine XA.do_ 9 rfl rfl rfl (by decide) (does_assign rfl) (by kernel_rfl) (fun _ _ _ h => h) (fun _ h => h.tailR.tail) ?_
      refine XA.next 10 rfl (by kernel_rfl) ?_
      (first | (refine xk_storeN 0 rfl rfl rfl (by kernel_rfl) (by simp [Value.cells, Value.oneCell']) (by simp [Value.cells]) ?_) | (refine xk_storeN 1 rfl rfl rfl (by kernel_rfl) (by simp [Value.cells, Value.oneCell']) (by simp [Value.cells]) ?_) | (refine xk_storeN 2 rfl rfl rfl (by kernel_rfl) (by simp [Value.cells, Value.oneCell']) (by simp [Value.cells]) ?_) | (refine xk_storeN 3 rfl rfl rfl (by kernel_rfl) (by simp [Value.cells, Value.oneCell']) (by simp [Value.cells]) ?_) | (refine xk_storeN 4 rfl rfl rfl (by kernel_rfl) (by simp [Value.cells, Value.oneCell']) (by simp [Value.cells]) ?_) | (refine xk_storeN 5 rfl rfl rfl (by kernel_rfl) (by simp [Value.cells, Value.oneCell']) (by simp [Value.cells]) ?_) | (refine xk_storeN 6 rfl rfl rfl (by kernel_rfl) (by simp [Value.cells, Value.oneCell']) (by simp [Value.cells]) ?_) | (refine xk_storeN 7 rfl rfl rfl (by kernel_rfl) (by simp [Value.cells, Value.oneCell']) (by simp [Value.cells]) ?_) | (refine xk_storeN 8 rfl rfl rfl (by kernel_rfl) (by simp [Value.cells, Value.oneCell']) (by simp [Value.cells]) ?_)); simp only [putN, Value.cells, List.set, List.take, List.drop, List.nil_append, List.append_nil, List.length_cons, List.length_nil, List.cons_append, Nat.reduceAdd]
      refine XA.bt ?_
      refine XA.done (by kernel_rfl) ?_
      refine XK.norm ?_
      exact XK.weakR (by simp) (XK.weak [0] rfl (by decide) (fun _ h => h) (XK.envS [(5, .pointer (some ⟨g4, 0, none⟩)), (4, .int .i32 (-4)), (3, .int .i64 0)] (XK.meet ⟨g4, rfl, rfl, rfl⟩)))
    · rename_i g4
      dsimp only [emM, hmM, lmM, fmM]
      refine XA.do_ 5 rfl rfl rfl (by decide) (does_move rfl) (by kernel_rfl) (fun _ _ _ h => h) (fun _ h => h.tailR.tail) ?_
      refine XA.do_ 6 rfl rfl rfl (by decide) (does_extract rfl rfl) (by kernel_rfl) (fun _ _ _ h => h) (fun _ h => h.tailR.tail) ?_
      refine XA.do_ 7 rfl rfl rfl (by decide) (does_extract rfl rfl) (by kernel_rfl) (fun _ _ _ h => h) (fun _ h => h.tailR.tail) ?_
      refine XA.do_ 9 rfl rfl rfl (by decide) (does_assign rfl) (by kernel_rfl) (fun _ _ _ h => h) (fun _ h => h.tailR.tail) ?_
      refine XA.next 10 rfl (by kernel_rfl) ?_
      (first | (refine xk_storeN 0 rfl rfl rfl (by kernel_rfl) (by simp [Value.cells, Value.oneCell']) (by simp [Value.cells]) ?_) | (refine xk_storeN 1 rfl rfl rfl (by kernel_rfl) (by simp [Value.cells, Value.oneCell']) (by simp [Value.cells]) ?_) | (refine xk_storeN 2 rfl rfl rfl (by kernel_rfl) (by simp [Value.cells, Value.oneCell']) (by simp [Value.cells]) ?_) | (refine xk_storeN 3 rfl rfl rfl (by kernel_rfl) (by simp [Value.cells, Value.oneCell']) (by simp [Value.cells]) ?_) | (refine xk_storeN 4 rfl rfl rfl (by kernel_rfl) (by simp [Value.cells, Value.oneCell']) (by simp [Value.cells]) ?_) | (refine xk_storeN 5 rfl rfl rfl (by kernel_rfl) (by simp [Value.cells, Value.oneCell']) (by simp [Value.cells]) ?_) | (refine xk_storeN 6 rfl rfl rfl (by kernel_rfl) (by simp [Value.cells, Value.oneCell']) (by simp [Value.cells]) ?_) | (refine xk_storeN 7 rfl rfl rfl (by kernel_rfl) (by simp [Value.cells, Value.oneCell']) (by simp [Value.cells]) ?_) | (refine xk_storeN 8 rfl rfl rfl (by kernel_rfl) (by simp [Value.cells, Value.oneCell']) (by simp [Value.cells]) ?_)); simp only [putN, Value.cells, List.set, List.take, List.drop, List.nil_append, List.append_nil, List.length_cons, List.length_nil, List.cons_append, Nat.reduceAdd]
      refine XA.bt ?_
      refine XA.done (by kernel_rfl) ?_
      refine XK.norm ?_
      exact XK.weakR (by simp) (XK.weak [0] rfl (by decide) (fun _ h => h) (XK.envS [(5, .pointer (some ⟨g4, 0, none⟩)), (4, .int .i32 (-4)), (3, .int .i64 0)] (XK.meet ⟨g4, rfl, rfl, rfl⟩)))
  rintro _ _ _ ⟨g4, rfl, rfl, rfl⟩
  refine XK.cutB 0 (True) ?_ ?_
  · skip

    refine XK.region ?_
    refine xk_move rfl (by decide) ?_
    refine xk_eql rfl rfl (by decide) ?_
    refine xk_move rfl (by decide) ?_
    (first | refine xk_split (t := 25) rfl (fun hg => ?_) (fun hg => ?_) | refine xk_splitB (t := 25) rfl (fun hg => ?_) (fun hg => ?_))
    ·
      refine xk_guardT rfl rfl ?_; refine xk_move rfl (by decide) ?_
      refine xk_guardT rfl rfl ?_; refine xk_eql rfl rfl (by decide) ?_
      (first | refine xk_pickT rfl rfl (by decide) ?_ | refine xk_pickF rfl rfl (by decide) ?_)
      refine xk_move rfl (by decide) ?_
      (first | refine xk_split (t := 29) rfl (fun hg => ?_) (fun hg => ?_) | refine xk_splitB (t := 29) rfl (fun hg => ?_) (fun hg => ?_))
      ·
        refine xk_guardT rfl rfl ?_; refine xk_ldN 2 rfl ?_
        refine xk_guardT rfl rfl ?_; refine xk_buildS (zs := [.int .u8 0, .int .i64 0]) (L := [(0, 1), (1, 1)]) (zeroB_of (by kernel_rfl)) (by kernel_rfl) rfl (by simp [fillL, setN, Value.cells]; rfl) (by decide) ?_
        refine xk_guardT rfl rfl ?_; refine xk_eqlS (xs := [.int .u8 0, .int .i64 0]) (ys := [.int .u8 0, .int .i64 0]) (by kernel_rfl) rfl rfl (by decide) ?_
        (first | refine xk_pickT rfl rfl (by decide) ?_ | refine xk_pickF rfl rfl (by decide) ?_)
        refine xk_assign rfl (by decide) ?_
        refine XK.nilN ?_
        exact XK.meetB (by repeat (first | exact trivial | refine ⟨rfl, ?_⟩)) (by first | (refine get_iff rfl ?_; omega) | (refine get_iff rfl ?_; simp_all; done) | (refine get_false rfl ?_; first | omega | (simp_all; done)) | (refine get_true rfl ?_; first | omega | (simp_all; done)) | (refine get_bool rfl ?_; simp_all; done) | (refine get_iff rfl ⟨fun hh => ?_, fun hh => ?_⟩ <;> first | omega | (simp_all; done) | (simp_all; omega)) | (exfalso; omega))
      ·
        refine xk_guardF rfl rfl rfl (by decide) ?_
        refine xk_guardF rfl rfl rfl (by decide) ?_
        refine xk_guardF rfl rfl rfl (by decide) ?_
        (first | refine xk_pickT rfl rfl (by decide) ?_ | refine xk_pickF rfl rfl (by decide) ?_)
        refine xk_assign rfl (by decide) ?_
        refine XK.nilN ?_
        exact XK.meetB (by repeat (first | exact trivial | refine ⟨rfl, ?_⟩)) (by first | (refine get_iff rfl ?_; omega) | (refine get_iff rfl ?_; simp_all; done) | (refine get_false rfl ?_; first | omega | (simp_all; done)) | (refine get_true rfl ?_; first | omega | (simp_all; done)) | (refine get_bool rfl ?_; simp_all; done) | (refine get_iff rfl ⟨fun hh => ?_, fun hh => ?_⟩ <;> first | omega | (simp_all; done) | (simp_all; omega)) | (exfalso; omega))
    ·
      refine xk_guardF rfl rfl rfl (by decide) ?_
      refine xk_guardF rfl rfl rfl (by decide) ?_
      (first | refine xk_pickT rfl rfl (by decide) ?_ | refine xk_pickF rfl rfl (by decide) ?_)
      refine xk_move rfl (by decide) ?_
      refine xk_guardF rfl rfl rfl (by decide) ?_
      refine xk_guardF rfl rfl rfl (by decide) ?_
      refine xk_guardF rfl rfl rfl (by decide) ?_
      (first | refine xk_pickT rfl rfl (by decide) ?_ | refine xk_pickF rfl rfl (by decide) ?_)
      refine xk_assign rfl (by decide) ?_
      refine XK.nilN ?_
      exact XK.meetB (by repeat (first | exact trivial | refine ⟨rfl, ?_⟩)) (by first | (refine get_iff rfl ?_; omega) | (refine get_iff rfl ?_; simp_all; done) | (refine get_false rfl ?_; first | omega | (simp_all; done)) | (refine get_true rfl ?_; first | omega | (simp_all; done)) | (refine get_bool rfl ?_; simp_all; done) | (refine get_iff rfl ⟨fun hh => ?_, fun hh => ?_⟩ <;> first | omega | (simp_all; done) | (simp_all; omega)) | (exfalso; omega))
  refine XK.ret ?_
  refine XK.norm ?_
  exact XK.ret1 rfl rfl fun w1 st => ⟨by simp, st.below (by simp)⟩

end Go.Proofs.Ytbcfbafpeidifaa
/- chapter 14's laws: asks, and what is told of them. No walk in sight. -/
namespace Go.Proofs.Ytbcfbafpeidifaa
set_option linter.all false
open Go.RowKit
structure AskT where
  a1 : Int
  a2 : Int
  a3 : Int
  a4 : Int
  a5 : Int
  a6 : Int
def AskT.cells (a : AskT) : List Value := [.int .i64 a.a1, .int .i64 a.a2, .int .i64 a.a3, .int .i64 a.a4, .int .i64 a.a5, .int .i64 a.a6]
def I64 (a : Int) : Prop := -9223372036854775808 ≤ a ∧ a ≤ 9223372036854775807
structure AskT.ok (a : AskT) : Prop where
  h1 : I64 a.a1
  h2 : I64 a.a2
  h3 : I64 a.a3
  h4 : I64 a.a4
  h5 : I64 a.a5
  h6 : I64 a.a6
theorem SlS.ask {w : World} {A : Option Addr} {n : Nat} {qs : List AskT} (h : SlS (all w) 6 A n (qs.flatMap AskT.cells)) {k : Nat} {a : AskT} (hk : qs[k]? = some a) (hn : k < n) : ∃ b off, A = some ⟨b, off, none⟩ ∧ ROn w b (off + k * 6) a.cells := by
  obtain ⟨b, off, hA, hz, hc⟩ := SlS.at_ h hn
  refine ⟨b, off, hA, hz, fun f u hu => hc f u ?_⟩
  have hf : f < 6 := by
    rcases Nat.lt_or_ge f a.cells.length with h | h
    · exact h
    · rw [List.getElem?_eq_none h] at hu; cases hu
  rw [flat_get AskT.cells 6 qs (fun x _ => rfl) k f a hk hf, hu]
theorem StR.six {q : Piece} {x y : Wsh} {X0 X1 X2 X3 X4 X5 : Option Addr} {k0 k1 k2 k3 k4 k5 : Nat} (h : StR q x y (.agg #[.slice X0 x.d.length k0, .slice X1 x.c.length k1, .slice X2 x.l.length k2, .slice X3 y.d.length k3, .slice X4 y.c.length k4, .slice X5 y.l.length k5])) :
    SlS q 1 X0 x.d.length (boolCells x.d) ∧ SlS q 1 X1 x.c.length (boolCells x.c) ∧ SlS q 1 X2 x.l.length (boolCells x.l) ∧ SlS q 1 X3 y.d.length (boolCells y.d) ∧ SlS q 1 X4 y.c.length (boolCells y.c) ∧ SlS q 1 X5 y.l.length (boolCells y.l) := by
  obtain ⟨C1, j1, C2, j2, C3, j3, D1, i1, D2, i2, D3, i3, he, s1, s2, s3, s4, s5, s6⟩ := h
  simp only [Value.agg.injEq, Array.mk.injEq, List.cons.injEq, Value.slice.injEq] at he
  obtain ⟨⟨rfl, _⟩, ⟨rfl, _⟩, ⟨rfl, _⟩, ⟨rfl, _⟩, ⟨rfl, _⟩, ⟨rfl, _⟩, _⟩ := he
  exact ⟨s1, s2, s3, s4, s5, s6⟩
theorem setW_len (x : Wsh) (k id : Int) : (setW x k id).d.length = x.d.length ∧ (setW x k id).c.length = x.c.length ∧ (setW x k id).l.length = x.l.length := by
  unfold setW
  split
  · exact ⟨setBL_len _ _ _, rfl, rfl⟩
  · split
    · exact ⟨rfl, setBL_len _ _ _, rfl⟩
    · split
      · exact ⟨rfl, rfl, setBL_len _ _ _⟩
      · exact ⟨rfl, rfl, rfl⟩
theorem setW_sm {x : Wsh} (h : x.sm) (k id : Int) : (setW x k id).sm := by
  obtain ⟨h1, h2, h3⟩ := setW_len x k id
  exact ⟨by rw [h1]; exact h.d, by rw [h2]; exact h.c, by rw [h3]; exact h.l⟩
theorem doneX_sm {x : Wsh} (h : x.sm) (ag : Nat) (k id : Int) : (doneX x ag k id).sm := by
  unfold doneX; split
  · exact setW_sm h k id
  · exact h
theorem doneY_sm {x : Wsh} (h : x.sm) (ag : Nat) (k id : Int) : (doneY x ag k id).sm := by
  unfold doneY; split
  · exact h
  · exact setW_sm h k id
theorem zeroW_sm {s : Soc} (h : s.okT) : (zeroW s).sm := by
  have h1 := h.nc
  have h2 := h.nd
  have h3 := h.nr
  exact ⟨by simp [zeroW]; omega, by simp [zeroW]; omega, by simp [zeroW]; omega⟩
/-- heads, packed and read again: what is needed of one -/
theorem head5 : (packZ 5 0 17 0).2 = 0 ∧ unpackE (packZ 5 0 17 0).1 = 0 ∧ hTyp (packZ 5 0 17 0).1 = 0 ∧ hPro (packZ 5 0 17 0).1 = 17 ∧ hMsg (packZ 5 0 17 0).1 = 5 := by decide +kernel
theorem head6 : (packZ 6 0 20 0).2 = 0 ∧ unpackE (packZ 6 0 20 0).1 = 0 ∧ hTyp (packZ 6 0 20 0).1 = 0 ∧ hPro (packZ 6 0 20 0).1 = 20 ∧ hMsg (packZ 6 0 20 0).1 = 6 := by decide +kernel
theorem head0 : (packZ 0 0 22 0).2 = 0 ∧ unpackE (packZ 0 0 22 0).1 = 0 ∧ hTyp (packZ 0 0 22 0).1 = 0 ∧ hPro (packZ 0 0 22 0).1 = 22 ∧ hMsg (packZ 0 0 22 0).1 = 0 := by decide +kernel
/-- what only asks has a status, and nothing is to be done -/
theorem dec_zero {s : Soc} {x y : Wsh} {wt : List Int} {ag : Nat} {l : List Int} {st : Int} (h : readF s l = (st, 0, 0)) : decF s x y wt ag l = (st, 0, 0) := by
  unfold decF
  rw [h, if_pos (.inr (.inl rfl))]
theorem read_ask {s : Soc} {w p m n : Int} (h1 : unpackE w = 0) (h2 : hTyp w = 0) (h3 : hPro w = p) (h4 : hMsg w = m) (hf : frmOf p m = some ⟨1, 0, 0, 0, 0⟩) (hn : 0 ≤ n) : ∃ D : Int, readF s [w, n] = (D, 0, 0) ∧ (D = 0 ↔ n < (numF s p : Int)) ∧ (¬ D = 0 → D = -4) := by
  have hd : frmD p m = ⟨1, 0, 0, 0, 0⟩ := by rw [frmD, hf]; rfl
  refine ⟨if (numF s p : Int) ≤ n then -4 else 0, ?_, ?_, ?_⟩
  · unfold readF
    dsimp only
    rw [h1, h2, h3, h4, if_neg (by simp), hf, hd]
    simp only [askF]
    by_cases h : (numF s p : Int) ≤ n <;> simp [h]
  · split <;> omega
  · split <;> simp
theorem read_zero {s : Soc} {w p m : Int} (h1 : unpackE w = 0) (h2 : hTyp w = 0) (h3 : hPro w = p) (h4 : hMsg w = m) (hf : frmOf p m = some ⟨0, 0, 0, 0, 0⟩) : readF s [w] = (0, 0, 0) := by
  have hd : frmD p m = ⟨0, 0, 0, 0, 0⟩ := by rw [frmD, hf]; rfl
  unfold readF
  dsimp only
  rw [h1, h2, h3, h4, if_neg (by simp), hf, hd]
  simp
end Go.Proofs.Ytbcfbafpeidifaa
/- chapter 14: a message that asks has success, and changes no wish. -/
namespace Go.Proofs.Ytbcfbafpeidifaa
set_option linter.all false
open Go.RowKit

theorem u32_two (m t p k : Int) {r : Int} (h0 : 0 ≤ r) (h1 : r < 4294967296) : U32s [(packZ m t p k).1, r] := by
  intro x hx
  simp at hx
  rcases hx with rfl | rfl
  · exact pack_bd _ _ _ _
  · exact ⟨h0, h1⟩
theorem u32_one (m t p k : Int) : U32s [(packZ m t p k).1] := by
  intro x hx
  simp at hx
  subst hx
  exact pack_bd _ _ _ _
set_option maxHeartbeats 2000000 in
theorem asks_any (A : Option Addr) (n c : Nat) (zs : List Int) (Aw : Option Addr) (nw cw : Nat) (wt : List Int) (Aa : Option Addr) (na ca : Nat) (qs0 : List AskT) (id : Int) (w : World) (h0 : SlS (all w) 1 A n (intCells zs)) (hz : I64s zs) (hn : n = zs.length) (hn2 : n ≤ 9223372036854775807) (hw : SlS (all w) 1 Aw nw (intCells wt)) (hzw : I64s wt) (hnw : nw = wt.length) (hnw2 : nw ≤ 9223372036854775807) (hqs : SlS (all w) 6 Aa na (qs0.flatMap AskT.cells)) (hq0 : ∀ a ∈ qs0, a.ok) (hna0 : na = qs0.length) (hna2 : na ≤ 9223372036854775807) (hid : I64 id) :
    Calls Try.prog 3 #[.slice A n c, .slice Aw nw cw, .slice Aa na ca, .int .i64 id] w (Rt (.bool true) w) := by
  refine XK.enter (vs := [.slice A n c, .slice Aw nw cw, .slice Aa na ca, .int .i64 id]) Try.func3 rfl Try.ntmps3 (by simp) ?_
  refine XK.seq ?_

  refine XK.region ?_
  refine xk_assign rfl (by decide) ?_
  refine XK.nilN ?_
  refine XK.seq ?_

  refine XK.region ?_
  refine xk_callR (f := 6) (fi := []) (ca := []) (by kernel_rfl) rfl rfl (by decide) (fun w1 st => shown14_any w1) ?_
  refine xk_assign rfl (by decide) ?_
  refine XK.nilN ?_
  refine XK.seq ?_

  refine XK.region ?_
  refine xk_move rfl (by decide) ?_
  refine xk_call [] (f := 7) (fi := []) (ca := []) (by kernel_rfl) rfl rfl (by decide) (by simp) (fun v w w' => ∃ cs s, v = .agg cs ∧ SocR (slq (fresh w w')) s cs ∧ s.made) (fun w1 st => chip14_any A n c zs w1 (h0.le (st.le (by simp))) hz hn hn2) ?_
  rintro _ w1 q1 ⟨cs, s, rfl, hS, hm⟩ hf _ _
  obtain ⟨A1, n1, k1, A2, n2, k2, A3, n3, k3, A4, n4, k4, rfl, hSP⟩ := (hS.mono (slq_le hf)).P
  obtain ⟨rfl, rfl, rfl, rfl⟩ := hSP.len
  have hK := hm.okT
  clear hf hS
  refine xk_alloc (cs := [.slice none 0 0, .slice none 0 0, .slice none 0 0, .slice none 0 0]) (zeroB_of (by kernel_rfl)) (by decide) fun g1 => ?_
  (first | (refine xk_storeN 0 rfl rfl rfl (by kernel_rfl) (by simp [Value.cells, Value.oneCell']) (by simp [Value.cells]) ?_) | (refine xk_storeN 1 rfl rfl rfl (by kernel_rfl) (by simp [Value.cells, Value.oneCell']) (by simp [Value.cells]) ?_) | (refine xk_storeN 2 rfl rfl rfl (by kernel_rfl) (by simp [Value.cells, Value.oneCell']) (by simp [Value.cells]) ?_) | (refine xk_storeN 3 rfl rfl rfl (by kernel_rfl) (by simp [Value.cells, Value.oneCell']) (by simp [Value.cells]) ?_) | (refine xk_storeN 4 rfl rfl rfl (by kernel_rfl) (by simp [Value.cells, Value.oneCell']) (by simp [Value.cells]) ?_) | (refine xk_storeN 5 rfl rfl rfl (by kernel_rfl) (by simp [Value.cells, Value.oneCell']) (by simp [Value.cells]) ?_) | (refine xk_storeN 6 rfl rfl rfl (by kernel_rfl) (by simp [Value.cells, Value.oneCell']) (by simp [Value.cells]) ?_) | (refine xk_storeN 7 rfl rfl rfl (by kernel_rfl) (by simp [Value.cells, Value.oneCell']) (by simp [Value.cells]) ?_) | (refine xk_storeN 8 rfl rfl rfl (by kernel_rfl) (by simp [Value.cells, Value.oneCell']) (by simp [Value.cells]) ?_)); simp only [putN, Value.cells, List.set, List.take, List.drop, List.nil_append, List.append_nil, List.length_cons, List.length_nil, List.cons_append, Nat.reduceAdd]
  refine XK.nilN ?_
  refine XK.seq ?_
  refine XK.cutB 44 (na > 60 ∨ nw > 20) ?_ ?_
  · skip

    refine XK.region ?_
    refine xk_move rfl (by decide) ?_
    (first | refine xk_notD rfl (by decide) ?_ | refine xk_not rfl (by decide) ?_)
    refine xk_move rfl (by decide) ?_
    (first | refine xk_split (t := 35) rfl (fun hg => ?_) (fun hg => ?_) | refine xk_splitB (t := 35) rfl (fun hg => ?_) (fun hg => ?_))
    ·
      refine xk_guardF rfl rfl rfl (by decide) ?_
      refine xk_guardF rfl rfl rfl (by decide) ?_
      refine xk_guardF rfl rfl rfl (by decide) ?_
      (first | refine xk_pickT rfl rfl (by decide) ?_ | refine xk_pickF rfl rfl (by decide) ?_)
      refine xk_move rfl (by decide) ?_
      refine xk_guardF rfl rfl rfl (by decide) ?_
      refine xk_guardF rfl rfl rfl (by decide) ?_
      refine xk_guardF rfl rfl rfl (by decide) ?_
      (first | refine xk_pickT rfl rfl (by decide) ?_ | refine xk_pickF rfl rfl (by decide) ?_)
      refine XK.nilN ?_
      exact XK.meetB (by repeat (first | exact trivial | refine ⟨rfl, ?_⟩)) (by first | (refine get_iff rfl ?_; omega) | (refine get_false rfl ?_; exact id) | (refine get_iff rfl ⟨fun hh => ?_, fun hh => ?_⟩ <;> first | omega | (simp_all; done) | (simp_all; omega)) | (exfalso; simp_all; done) | (exfalso; simp_all; omega) | (refine get_true rfl ?_; first | omega | (simp_all; done)) | (refine get_bool rfl ?_; simp_all; done))
    ·
      refine xk_guardT rfl rfl ?_; refine xk_move rfl (by decide) ?_
      refine xk_guardT rfl rfl ?_; refine xk_len (el := 41) (by kernel_rfl) rfl (by decide) ?_
      refine xk_guardT rfl rfl ?_; refine xk_gtr rfl rfl (by decide) ?_
      (first | refine xk_pickT rfl rfl (by decide) ?_ | refine xk_pickF rfl rfl (by decide) ?_)
      refine xk_move rfl (by decide) ?_
      (first | refine xk_split (t := 40) rfl (fun hg => ?_) (fun hg => ?_) | refine xk_splitB (t := 40) rfl (fun hg => ?_) (fun hg => ?_))
      ·
        refine xk_guardF rfl rfl rfl (by decide) ?_
        refine xk_guardF rfl rfl rfl (by decide) ?_
        refine xk_guardF rfl rfl rfl (by decide) ?_
        (first | refine xk_pickT rfl rfl (by decide) ?_ | refine xk_pickF rfl rfl (by decide) ?_)
        refine XK.nilN ?_
        exact XK.meetB (by repeat (first | exact trivial | refine ⟨rfl, ?_⟩)) (by first | (refine get_iff rfl ?_; omega) | (refine get_false rfl ?_; exact id) | (refine get_iff rfl ⟨fun hh => ?_, fun hh => ?_⟩ <;> first | omega | (simp_all; done) | (simp_all; omega)) | (exfalso; simp_all; done) | (exfalso; simp_all; omega) | (refine get_true rfl ?_; first | omega | (simp_all; done)) | (refine get_bool rfl ?_; simp_all; done))
      ·
        refine xk_guardT rfl rfl ?_; refine xk_move rfl (by decide) ?_
        refine xk_guardT rfl rfl ?_; refine xk_len (el := 3) (by kernel_rfl) rfl (by decide) ?_
        refine xk_guardT rfl rfl ?_; refine xk_gtr rfl rfl (by decide) ?_
        (first | refine xk_pickT rfl rfl (by decide) ?_ | refine xk_pickF rfl rfl (by decide) ?_)
        refine XK.nilN ?_
        exact XK.meetB (by repeat (first | exact trivial | refine ⟨rfl, ?_⟩)) (by first | (refine get_iff rfl ?_; omega) | (refine get_false rfl ?_; exact id) | (refine get_iff rfl ⟨fun hh => ?_, fun hh => ?_⟩ <;> first | omega | (simp_all; done) | (simp_all; omega)) | (exfalso; simp_all; done) | (exfalso; simp_all; omega) | (refine get_true rfl ?_; first | omega | (simp_all; done)) | (refine get_bool rfl ?_; simp_all; done))
  refine XK.if_ rfl (fun hbig => ?_) (fun hbig => ?_)
  ·
    refine XK.seq ?_

    refine XK.region ?_
    refine xk_move rfl (by decide) ?_
    refine xk_assign rfl (by decide) ?_
    refine XK.nilN ?_
    refine XK.ret ?_
    refine XK.norm ?_
    exact XK.ret1 rfl rfl fun w1 st => ⟨rfl, st.below (by simp)⟩
  ·
    refine XK.skip ?_
    refine XK.norm ?_
    refine XK.seq ?_
    have hna : na ≤ 60 := by omega
    have hnc := hm.nc
    have hnd := hm.nd
    have hnr := hm.nr

    refine XK.region ?_
    refine xk_ldN 4 rfl ?_
    refine xk_call [] (f := 8) (fi := []) (ca := []) (by kernel_rfl) rfl rfl (by decide) (by simp) (fun v w w' => StR (fresh w w') (zeroW s) (zeroW s) v) (fun w1 st => start_any s A1 A2 A3 A4 k1 k2 k3 k4 w1 hK) ?_
    rintro _ w1 qs hS0 hf _ _
    have hS0 := StR.le hS0 hf
    clear hf
    obtain ⟨X0, Xk0, X1, Xk1, X2, Xk2, X3, Xk3, X4, Xk4, X5, Xk5, rfl, e1, e2, e3, e4, e5, e6⟩ := hS0
    have hS0 : StR qs (zeroW s) (zeroW s) (.agg #[.slice X0 (zeroW s).d.length Xk0, .slice X1 (zeroW s).c.length Xk1, .slice X2 (zeroW s).l.length Xk2, .slice X3 (zeroW s).d.length Xk3, .slice X4 (zeroW s).c.length Xk4, .slice X5 (zeroW s).l.length Xk5]) := ⟨X0, Xk0, X1, Xk1, X2, Xk2, X3, Xk3, X4, Xk4, X5, Xk5, rfl, e1, e2, e3, e4, e5, e6⟩
    clear e1 e2 e3 e4 e5 e6
    refine xk_alloc (cs := [.slice none 0 0, .slice none 0 0, .slice none 0 0, .slice none 0 0, .slice none 0 0, .slice none 0 0]) (zeroB_of (by kernel_rfl)) (by decide) fun g2 => ?_
    (first | (refine xk_storeN 0 rfl rfl rfl (by kernel_rfl) (by simp [Value.cells, Value.oneCell']) (by simp [Value.cells]) ?_) | (refine xk_storeN 1 rfl rfl rfl (by kernel_rfl) (by simp [Value.cells, Value.oneCell']) (by simp [Value.cells]) ?_) | (refine xk_storeN 2 rfl rfl rfl (by kernel_rfl) (by simp [Value.cells, Value.oneCell']) (by simp [Value.cells]) ?_) | (refine xk_storeN 3 rfl rfl rfl (by kernel_rfl) (by simp [Value.cells, Value.oneCell']) (by simp [Value.cells]) ?_) | (refine xk_storeN 4 rfl rfl rfl (by kernel_rfl) (by simp [Value.cells, Value.oneCell']) (by simp [Value.cells]) ?_) | (refine xk_storeN 5 rfl rfl rfl (by kernel_rfl) (by simp [Value.cells, Value.oneCell']) (by simp [Value.cells]) ?_) | (refine xk_storeN 6 rfl rfl rfl (by kernel_rfl) (by simp [Value.cells, Value.oneCell']) (by simp [Value.cells]) ?_) | (refine xk_storeN 7 rfl rfl rfl (by kernel_rfl) (by simp [Value.cells, Value.oneCell']) (by simp [Value.cells]) ?_) | (refine xk_storeN 8 rfl rfl rfl (by kernel_rfl) (by simp [Value.cells, Value.oneCell']) (by simp [Value.cells]) ?_)); simp only [putN, Value.cells, List.set, List.take, List.drop, List.nil_append, List.append_nil, List.length_cons, List.length_nil, List.cons_append, Nat.reduceAdd]
    refine XK.nilN ?_
    refine XK.seq ?_
    refine XK.seq ?_

    refine XK.region ?_
    refine xk_assign rfl (by decide) ?_
    refine XK.nilN ?_
    refine XK.envS [(12, .int .i64 0), (11, .pointer (some ⟨g2, 0, none⟩)), (10, .pointer (some ⟨g1, 0, none⟩)), (3, .int .i64 id), (2, .slice Aa na ca), (1, .slice Aw nw cw)] ?_
    refine XK.block ?_
    refine XK.loop (fun m e R H => ∃ (k : Nat) (qx : Piece) (x y : Wsh) (X0 X1 X2 X3 X4 X5 : Option Addr) (Xk0 Xk1 Xk2 Xk3 Xk4 Xk5 : Nat), k ≤ na ∧ m = na - k ∧ x.sm ∧ y.sm ∧ StR qx x y (.agg #[.slice X0 x.d.length Xk0, .slice X1 x.c.length Xk1, .slice X2 x.l.length Xk2, .slice X3 y.d.length Xk3, .slice X4 y.c.length Xk4, .slice X5 y.l.length Xk5]) ∧ e = [(12, .int .i64 k), (11, .pointer (some ⟨g2, 0, none⟩)), (10, .pointer (some ⟨g1, 0, none⟩)), (3, .int .i64 id), (2, .slice Aa na ca), (1, .slice Aw nw cw)] ∧ R = [qx, q1, all w] ∧ H = [HP.blk g2 37 [.slice X0 x.d.length Xk0, .slice X1 x.c.length Xk1, .slice X2 x.l.length Xk2, .slice X3 y.d.length Xk3, .slice X4 y.c.length Xk4, .slice X5 y.l.length Xk5], HP.blk g1 30 [.slice A1 s.clocks.length k1, .slice A2 s.domains.length k2, .slice A3 s.resets.length k3, .slice A4 s.devs.length k4]]) na ⟨0, qs, zeroW s, zeroW s, X0, X1, X2, X3, X4, X5, Xk0, Xk1, Xk2, Xk3, Xk4, Xk5, by omega, rfl, zeroW_sm hK, zeroW_sm hK, hS0, rfl, rfl, rfl⟩ fun m e R H hI => ?_
    obtain ⟨k, qx, x, y, X0, X1, X2, X3, X4, X5, Xk0, Xk1, Xk2, Xk3, Xk4, Xk5, hk, rfl, hx, hy, hSt, rfl, rfl, rfl⟩ := hI
    refine XK.seq ?_
    refine XK.seq ?_

    refine XK.region ?_
    refine xk_move rfl (by decide) ?_
    refine xk_move rfl (by decide) ?_
    refine xk_len (el := 41) (by kernel_rfl) rfl (by decide) ?_
    refine xk_lss rfl rfl (by decide) ?_
    refine XK.nilN ?_
    refine XK.if_ rfl (fun h => ?_) (fun h => ?_)
    ·
      refine XK.skip ?_
      refine XK.norm ?_
      refine XK.seq ?_
      refine XK.block ?_
      refine XK.seq ?_
      have hkl : k < na := by have h' : (k : Int) < (na : Int) := h; omega
      obtain ⟨a, ha⟩ : ∃ a, qs0[k]? = some a := ⟨qs0[k]'(by omega), List.getElem?_eq_getElem _⟩
      have hao := hq0 a (List.mem_of_getElem? ha)
      obtain ⟨ba, oa, rfl, hca⟩ := hqs.ask ha hkl
      have hca0 := hca.at_ (j := 0) rfl

      refine XK.region ?_
      refine xk_move rfl (by decide) ?_
      refine xk_move rfl (by decide) ?_
      refine xk_at k (oa + k * 6) (el := 41) (sz := 6) (by kernel_rfl) (by kernel_rfl) rfl rfl (by omega) (by omega) (by omega) (by decide) ?_
      refine xk_field (off := 0) (by kernel_rfl) rfl (by decide) ?_
      refine xk_ld rfl ?_
      refine xk_callV (f := 9) (fi := []) (ca := []) (by kernel_rfl) rfl rfl (by decide) (fun v => ∃ r : Int, v = .int .i64 r ∧ 0 ≤ r ∧ r < 2) (fun w1 st => pick14_any _ _ w1 hao.h1 (by omega)) fun v hv => ?_
      obtain ⟨r1, rfl, hr0, hr1⟩ := hv
      obtain ⟨ag, rfl⟩ : ∃ ag : Nat, r1 = (ag : Int) := ⟨r1.toNat, by omega⟩
      refine xk_assign rfl (by decide) ?_
      refine XK.nilN ?_
      refine XK.cut (fun e R H => ∃ (g3 : Nat) (t1 kd ac : Int), e = [(15, .pointer (some ⟨g3, 0, none⟩)), (14, .int .i32 t1), (13, .int .i64 (ag : Int)), (12, .int .i64 k), (11, .pointer (some ⟨g2, 0, none⟩)), (10, .pointer (some ⟨g1, 0, none⟩)), (3, .int .i64 id), (2, .slice (some ⟨ba, oa, none⟩) na ca), (1, .slice Aw nw cw)] ∧ R = [qx, q1, all w] ∧ H = [HP.blk g3 43 [.int .u8 kd, .int .i64 ac], HP.blk g2 37 [.slice X0 x.d.length Xk0, .slice X1 x.c.length Xk1, .slice X2 x.l.length Xk2, .slice X3 y.d.length Xk3, .slice X4 y.c.length Xk4, .slice X5 y.l.length Xk5], HP.blk g1 30 [.slice A1 s.clocks.length k1, .slice A2 s.domains.length k2, .slice A3 s.resets.length k3, .slice A4 s.devs.length k4]]) ?_ ?_
      ·

        refine XK.draw 15 (by kernel_rfl) (by kernel_rfl) ?_
        refine XA.dA 0 rfl rfl rfl (does_ldN 4 rfl) ?_
        refine XA.dA 1 rfl rfl rfl (does_ldN 6 rfl) ?_
        refine XA.dA 2 rfl rfl rfl (does_move rfl) ?_
        refine XA.dA 3 rfl rfl rfl (does_move rfl) ?_
        refine XA.dA 4 rfl rfl rfl (does_move rfl) ?_
        refine XA.dA 5 rfl rfl rfl (does_move rfl) ?_
        refine XA.dA 6 rfl rfl rfl (does_at k (oa + k * 6) (el := 41) (sz := 6) (by kernel_rfl) (by kernel_rfl) rfl rfl (by omega) (by omega) (by omega)) ?_
        refine XA.dA 7 rfl rfl rfl (does_loadN 6 (by kernel_rfl) rfl (RdN.roc (by simp) hca) rfl) ?_
        refine XA.maybe0 (j := 13) 15 43 [.int .u8 0, .int .i64 0] fun M => ?_
        refine XA.maybe 8 13 rfl rfl (zeroB_of (by kernel_rfl)) (by decide) (by kernel_rfl) (by kernel_rfl) (fun _ h => h) (fun M => ?_)
        refine xk_call [] (f := 11) (fi := []) (ca := []) (by kernel_rfl) (ev_M M rfl rfl) (evs_M M rfl rfl) (by decide) (by simp) WordsOk (fun w1 st => message14_any _ _ _ _ _ _ w1 hao.h1 hao.h2 hao.h3 hao.h4 hao.h5 hao.h6) ?_
        rintro _ w1 q2 ⟨l, Al, cl, rfl, hll, hlu, hl⟩ hf _ _
        have hl := hl.le hf
        clear hf
        refine XK.nil ?_; refine XK.thenN ?_; refine XA.backM (by decide) rfl (fun _ h => h.tailR) ?_
        refine XA.maybe 9 13 rfl rfl (zeroB_of (by kernel_rfl)) (by decide) (by kernel_rfl) (by kernel_rfl) (fun _ h => h.tailR) (fun M => ?_)
        refine xk_callR (f := 10) (fi := []) (ca := []) (by kernel_rfl) (ev_M M rfl rfl) (evs_M M rfl rfl) (by decide) (v0 := actV (decF s x y wt ag l)) (fun w1 st => decide_any q1 qx s A1 A2 A3 A4 _ k1 _ k2 _ k3 _ k4 X0 X1 X2 X3 X4 X5 _ Xk0 _ Xk1 _ Xk2 _ Xk3 _ Xk4 _ Xk5 x y Aw nw cw wt ag Al l.length cl l w1 hSP hK (st.le (by simp)) hSt (st.le (by simp)) (hw.le (st.le (by simp))) hnw (by omega) (hl.le (st.le (by simp))) rfl (by omega) hlu) ?_
        generalize decF s x y wt ag l = dd
        obtain ⟨t1, kd, ac⟩ := dd
        simp only [actV]
        refine XK.nil ?_; refine XK.thenN ?_; refine XA.backM (by decide) rfl (fun _ h => h.tailR) ?_
        cases M
        · dsimp only [emM, hmM, lmM, fmM]
          refine XA.do_ 10 rfl rfl rfl (by decide) (does_move rfl) (by kernel_rfl) (fun _ _ _ h => h) (fun _ h => h.tailR) ?_
          refine XA.do_ 11 rfl rfl rfl (by decide) (does_extract rfl rfl) (by kernel_rfl) (fun _ _ _ h => h) (fun _ h => h.tailR) ?_
          refine XA.do_ 12 rfl rfl rfl (by decide) (does_extract rfl rfl) (by kernel_rfl) (fun _ _ _ h => h) (fun _ h => h.tailR) ?_
          refine XA.next 13 rfl (by kernel_rfl) ?_
          refine xk_alloc (cs := [.int .u8 0, .int .i64 0]) (zeroB_of (by kernel_rfl)) (by decide) fun g3 => ?_
          refine XK.nil ?_; refine XK.thenN ?_; refine XA.back (fun _ h => h.tailR.tail) ?_
          refine XA.do_ 14 rfl rfl rfl (by decide) (does_assign rfl) (by kernel_rfl) (fun _ _ _ h => h) (fun _ h => h.tailR.tail) ?_
          refine XA.next 15 rfl (by kernel_rfl) ?_
          (first | (refine xk_storeN 0 rfl rfl rfl (by kernel_rfl) (by simp [Value.cells, Value.oneCell']) (by simp [Value.cells]) ?_) | (refine xk_storeN 1 rfl rfl rfl (by kernel_rfl) (by simp [Value.cells, Value.oneCell']) (by simp [Value.cells]) ?_) | (refine xk_storeN 2 rfl rfl rfl (by kernel_rfl) (by simp [Value.cells, Value.oneCell']) (by simp [Value.cells]) ?_) | (refine xk_storeN 3 rfl rfl rfl (by kernel_rfl) (by simp [Value.cells, Value.oneCell']) (by simp [Value.cells]) ?_) | (refine xk_storeN 4 rfl rfl rfl (by kernel_rfl) (by simp [Value.cells, Value.oneCell']) (by simp [Value.cells]) ?_) | (refine xk_storeN 5 rfl rfl rfl (by kernel_rfl) (by simp [Value.cells, Value.oneCell']) (by simp [Value.cells]) ?_) | (refine xk_storeN 6 rfl rfl rfl (by kernel_rfl) (by simp [Value.cells, Value.oneCell']) (by simp [Value.cells]) ?_) | (refine xk_storeN 7 rfl rfl rfl (by kernel_rfl) (by simp [Value.cells, Value.oneCell']) (by simp [Value.cells]) ?_) | (refine xk_storeN 8 rfl rfl rfl (by kernel_rfl) (by simp [Value.cells, Value.oneCell']) (by simp [Value.cells]) ?_)); simp only [putN, Value.cells, List.set, List.take, List.drop, List.nil_append, List.append_nil, List.length_cons, List.length_nil, List.cons_append, Nat.reduceAdd]
          refine XA.bt ?_
          refine XA.done (by kernel_rfl) ?_
          refine XK.norm ?_
          exact XK.weakR (by simp) (XK.envS [(15, .pointer (some ⟨g3, 0, none⟩)), (14, .int .i32 t1), (13, .int .i64 (ag : Int)), (12, .int .i64 k), (11, .pointer (some ⟨g2, 0, none⟩)), (10, .pointer (some ⟨g1, 0, none⟩)), (3, .int .i64 id), (2, .slice (some ⟨ba, oa, none⟩) na ca), (1, .slice Aw nw cw)] (XK.meet ⟨g3, t1, kd, ac, rfl, rfl, rfl⟩))
        · rename_i g3
          dsimp only [emM, hmM, lmM, fmM]
          refine XA.do_ 10 rfl rfl rfl (by decide) (does_move rfl) (by kernel_rfl) (fun _ _ _ h => h) (fun _ h => h.tailR.tail) ?_
          refine XA.do_ 11 rfl rfl rfl (by decide) (does_extract rfl rfl) (by kernel_rfl) (fun _ _ _ h => h) (fun _ h => h.tailR.tail) ?_
          refine XA.do_ 12 rfl rfl rfl (by decide) (does_extract rfl rfl) (by kernel_rfl) (fun _ _ _ h => h) (fun _ h => h.tailR.tail) ?_
          refine XA.do_ 14 rfl rfl rfl (by decide) (does_assign rfl) (by kernel_rfl) (fun _ _ _ h => h) (fun _ h => h.tailR.tail) ?_
          refine XA.next 15 rfl (by kernel_rfl) ?_
          (first | (refine xk_storeN 0 rfl rfl rfl (by kernel_rfl) (by simp [Value.cells, Value.oneCell']) (by simp [Value.cells]) ?_) | (refine xk_storeN 1 rfl rfl rfl (by kernel_rfl) (by simp [Value.cells, Value.oneCell']) (by simp [Value.cells]) ?_) | (refine xk_storeN 2 rfl rfl rfl (by kernel_rfl) (by simp [Value.cells, Value.oneCell']) (by simp [Value.cells]) ?_) | (refine xk_storeN 3 rfl rfl rfl (by kernel_rfl) (by simp [Value.cells, Value.oneCell']) (by simp [Value.cells]) ?_) | (refine xk_storeN 4 rfl rfl rfl (by kernel_rfl) (by simp [Value.cells, Value.oneCell']) (by simp [Value.cells]) ?_) | (refine xk_storeN 5 rfl rfl rfl (by kernel_rfl) (by simp [Value.cells, Value.oneCell']) (by simp [Value.cells]) ?_) | (refine xk_storeN 6 rfl rfl rfl (by kernel_rfl) (by simp [Value.cells, Value.oneCell']) (by simp [Value.cells]) ?_) | (refine xk_storeN 7 rfl rfl rfl (by kernel_rfl) (by simp [Value.cells, Value.oneCell']) (by simp [Value.cells]) ?_) | (refine xk_storeN 8 rfl rfl rfl (by kernel_rfl) (by simp [Value.cells, Value.oneCell']) (by simp [Value.cells]) ?_)); simp only [putN, Value.cells, List.set, List.take, List.drop, List.nil_append, List.append_nil, List.length_cons, List.length_nil, List.cons_append, Nat.reduceAdd]
          refine XA.bt ?_
          refine XA.done (by kernel_rfl) ?_
          refine XK.norm ?_
          exact XK.weakR (by simp) (XK.envS [(15, .pointer (some ⟨g3, 0, none⟩)), (14, .int .i32 t1), (13, .int .i64 (ag : Int)), (12, .int .i64 k), (11, .pointer (some ⟨g2, 0, none⟩)), (10, .pointer (some ⟨g1, 0, none⟩)), (3, .int .i64 id), (2, .slice (some ⟨ba, oa, none⟩) na ca), (1, .slice Aw nw cw)] (XK.meet ⟨g3, t1, kd, ac, rfl, rfl, rfl⟩))
      rintro _ _ _ ⟨g3, t1, kd, ac, rfl, rfl, rfl⟩

      refine XK.region ?_
      refine xk_ldN 6 rfl ?_
      refine xk_move rfl (by decide) ?_
      refine xk_ldN 2 rfl ?_
      refine xk_call [] (f := 12) (fi := []) (ca := []) (by kernel_rfl) rfl rfl (by decide) (by simp) (fun v w w' => StR (fresh w w') (doneX x ag kd ac) (doneY y ag kd ac) v) (fun w1 st => done_any qx X0 X1 X2 X3 X4 X5 Xk0 Xk1 Xk2 Xk3 Xk4 Xk5 x y ag kd ac w1 (st.le (by simp)) (by omega) hx hy hSt.six.1 hSt.six.2.1 hSt.six.2.2.1 hSt.six.2.2.2.1 hSt.six.2.2.2.2.1 hSt.six.2.2.2.2.2) ?_
      rintro _ w1 qd hD hf _ _
      have hD := StR.le hD hf
      clear hf
      have hx2 := doneX_sm hx ag kd ac
      have hy2 := doneY_sm hy ag kd ac
      generalize doneX x ag kd ac = x2 at *
      generalize doneY y ag kd ac = y2 at *
      obtain ⟨Z0, Zk0, Z1, Zk1, Z2, Zk2, Z3, Zk3, Z4, Zk4, Z5, Zk5, rfl, e1, e2, e3, e4, e5, e6⟩ := hD
      have hD : StR qd x2 y2 (.agg #[.slice Z0 x2.d.length Zk0, .slice Z1 x2.c.length Zk1, .slice Z2 x2.l.length Zk2, .slice Z3 y2.d.length Zk3, .slice Z4 y2.c.length Zk4, .slice Z5 y2.l.length Zk5]) := ⟨Z0, Zk0, Z1, Zk1, Z2, Zk2, Z3, Zk3, Z4, Zk4, Z5, Zk5, rfl, e1, e2, e3, e4, e5, e6⟩
      clear e1 e2 e3 e4 e5 e6
      (first | (refine xk_storeN 0 rfl rfl rfl (by kernel_rfl) (by simp [Value.cells, Value.oneCell']) (by simp [Value.cells]) ?_) | (refine xk_storeN 1 rfl rfl rfl (by kernel_rfl) (by simp [Value.cells, Value.oneCell']) (by simp [Value.cells]) ?_) | (refine xk_storeN 2 rfl rfl rfl (by kernel_rfl) (by simp [Value.cells, Value.oneCell']) (by simp [Value.cells]) ?_) | (refine xk_storeN 3 rfl rfl rfl (by kernel_rfl) (by simp [Value.cells, Value.oneCell']) (by simp [Value.cells]) ?_) | (refine xk_storeN 4 rfl rfl rfl (by kernel_rfl) (by simp [Value.cells, Value.oneCell']) (by simp [Value.cells]) ?_) | (refine xk_storeN 5 rfl rfl rfl (by kernel_rfl) (by simp [Value.cells, Value.oneCell']) (by simp [Value.cells]) ?_) | (refine xk_storeN 6 rfl rfl rfl (by kernel_rfl) (by simp [Value.cells, Value.oneCell']) (by simp [Value.cells]) ?_) | (refine xk_storeN 7 rfl rfl rfl (by kernel_rfl) (by simp [Value.cells, Value.oneCell']) (by simp [Value.cells]) ?_) | (refine xk_storeN 8 rfl rfl rfl (by kernel_rfl) (by simp [Value.cells, Value.oneCell']) (by simp [Value.cells]) ?_)); simp only [putN, Value.cells, List.set, List.take, List.drop, List.nil_append, List.append_nil, List.length_cons, List.length_nil, List.cons_append, Nat.reduceAdd]
      refine XK.nilN ?_

      refine XK.region ?_
      refine xk_move rfl (by decide) ?_
      refine xk_add rfl rfl (wrap_in (by omega)) (by decide) ?_
      refine xk_assign rfl (by decide) ?_
      refine XK.nilN ?_
      exact XK.weakR (R' := [qd, q1, all w]) (by simp) (XK.weak [1, 2] rfl (by decide) (fun _ h => h) (XK.envS [(12, .int .i64 ((k : Int) + 1)), (11, .pointer (some ⟨g2, 0, none⟩)), (10, .pointer (some ⟨g1, 0, none⟩)), (3, .int .i64 id), (2, .slice (some ⟨ba, oa, none⟩) na ca), (1, .slice Aw nw cw)] (XK.round (na - (k + 1)) (by omega) ⟨k + 1, qd, x2, y2, Z0, Z1, Z2, Z3, Z4, Z5, Zk0, Zk1, Zk2, Zk3, Zk4, Zk5, by omega, rfl, hx2, hy2, hD, rfl, rfl, rfl⟩)))
    ·
      refine XK.exit ?_
      refine XK.norm ?_
      refine XK.seq ?_

      refine XK.region ?_
      refine xk_move rfl (by decide) ?_
      refine xk_callV (f := 9) (fi := []) (ca := []) (by kernel_rfl) rfl rfl (by decide) (fun v => ∃ r : Int, v = .int .i64 r ∧ 0 ≤ r ∧ r < 14) (fun w1 st => pick14_any _ _ w1 hid (by omega)) fun v hv => ?_
      obtain ⟨r, rfl, hr0, hr1⟩ := hv
      refine xk_assign rfl (by decide) ?_
      refine XK.nilN ?_
      refine XK.seq ?_
      refine XK.seq ?_

      refine XK.region ?_
      refine xk_assign rfl (by decide) ?_
      refine XK.nilN ?_
      refine XK.envS [(17, .int .i64 0), (16, .int .i64 r), (11, .pointer (some ⟨g2, 0, none⟩)), (10, .pointer (some ⟨g1, 0, none⟩)), (1, .slice Aw nw cw)] ?_
      refine XK.block ?_
      refine XK.loop (fun m e R H => ∃ (j : Nat), j ≤ 2 ∧ m = 2 - j ∧ e = [(17, .int .i64 j), (16, .int .i64 r), (11, .pointer (some ⟨g2, 0, none⟩)), (10, .pointer (some ⟨g1, 0, none⟩)), (1, .slice Aw nw cw)] ∧ R = [qx, q1, all w] ∧ H = [HP.blk g2 37 [.slice X0 x.d.length Xk0, .slice X1 x.c.length Xk1, .slice X2 x.l.length Xk2, .slice X3 y.d.length Xk3, .slice X4 y.c.length Xk4, .slice X5 y.l.length Xk5], HP.blk g1 30 [.slice A1 s.clocks.length k1, .slice A2 s.domains.length k2, .slice A3 s.resets.length k3, .slice A4 s.devs.length k4]]) 2 ⟨0, by omega, rfl, rfl, rfl, rfl⟩ fun m e R H hI => ?_
      obtain ⟨j, hj, rfl, rfl, rfl, rfl⟩ := hI
      refine XK.seq ?_
      refine XK.seq ?_

      refine XK.region ?_
      refine xk_move rfl (by decide) ?_
      refine xk_lss rfl rfl (by decide) ?_
      refine XK.nilN ?_
      refine XK.if_ rfl (fun h => ?_) (fun h => ?_)
      ·
        refine XK.skip ?_
        refine XK.norm ?_
        refine XK.seq ?_
        refine XK.block ?_
        refine XK.seq ?_
        have hj2 : j < 2 := by have h' : (j : Int) < 2 := h; omega
        obtain ⟨D1, hD1, hD1a, hD1b⟩ := read_ask (s := s) (n := r) head5.2.1 head5.2.2.1 head5.2.2.2.1 head5.2.2.2.2 rfl hr0
        obtain ⟨D2, hD2, hD2a, hD2b⟩ := read_ask (s := s) (n := r) head6.2.1 head6.2.2.1 head6.2.2.2.1 head6.2.2.2.2 rfl hr0
        have hD3 := read_zero (s := s) head0.2.1 head0.2.2.1 head0.2.2.2.1 head0.2.2.2.2 rfl
        rw [show numF s 17 = s.domains.length from rfl] at hD1a
        rw [show numF s 20 = s.clocks.length from rfl] at hD2a

        refine XK.region ?_
        refine xk_buildS (zs := [.int .i64 0, .int .i64 0, .int .i64 0, .int .i64 0]) (L := [(0, 1), (1, 1), (2, 1), (3, 1)]) (zeroB_of (by kernel_rfl)) (by kernel_rfl) rfl (by simp [fillL, setN, Value.cells]; rfl) (by decide) ?_
        refine xk_move rfl (by decide) ?_
        refine xk_conv (ds := .int .i64) (by kernel_rfl) (by kernel_rfl) rfl (wrap_u32 (by omega)) (by decide) ?_
        refine xk_slice (el := 54) (sz := 1) (zs := [.int .u32 0]) (by kernel_rfl) (zeroB_of (by kernel_rfl)) (by kernel_rfl) rfl (by decide) (by decide) rfl (by simp [fillL, setN, Value.cells, List.range_succ, List.set]; rfl) (by decide) fun g4 => ?_
        refine xk_call [] (f := 13) (fi := []) (ca := []) (by kernel_rfl) rfl rfl (by decide) (by simp) (CmdOk ((packZ 5 0 17 0).1 :: [r])) (fun w1 st => command_any 5 0 17 0 (some ⟨g4, 0, none⟩) 1 1 [r] w1 (st.slS (i := 0) rfl rfl) rfl (by omega) head5.1) ?_
        rintro _ w1 qca ⟨Ala, cla, rfl, hla⟩ hf _ _
        have hla := hla.le hf
        clear hf
        refine xk_move rfl (by decide) ?_
        refine xk_extract rfl rfl (by decide) ?_
        refine xk_extract rfl rfl (by decide) ?_
        refine xk_assign rfl (by decide) ?_
        refine xk_assign rfl (by decide) ?_
        refine XK.nilN ?_
        refine XK.seq ?_

        refine XK.region ?_
        refine xk_buildS (zs := [.int .i64 0, .int .i64 0, .int .i64 0, .int .i64 0]) (L := [(0, 1), (1, 1), (2, 1), (3, 1)]) (zeroB_of (by kernel_rfl)) (by kernel_rfl) rfl (by simp [fillL, setN, Value.cells]; rfl) (by decide) ?_
        refine xk_move rfl (by decide) ?_
        refine xk_conv (ds := .int .i64) (by kernel_rfl) (by kernel_rfl) rfl (wrap_u32 (by omega)) (by decide) ?_
        refine xk_slice (el := 54) (sz := 1) (zs := [.int .u32 0]) (by kernel_rfl) (zeroB_of (by kernel_rfl)) (by kernel_rfl) rfl (by decide) (by decide) rfl (by simp [fillL, setN, Value.cells, List.range_succ, List.set]; rfl) (by decide) fun g5 => ?_
        refine xk_call [] (f := 13) (fi := []) (ca := []) (by kernel_rfl) rfl rfl (by decide) (by simp) (CmdOk ((packZ 6 0 20 0).1 :: [r])) (fun w1 st => command_any 6 0 20 0 (some ⟨g5, 0, none⟩) 1 1 [r] w1 (st.slS (i := 0) rfl rfl) rfl (by omega) head6.1) ?_
        rintro _ w1 qcb ⟨Alb, clb, rfl, hlb⟩ hf _ _
        have hlb := hlb.le hf
        clear hf
        refine xk_move rfl (by decide) ?_
        refine xk_extract rfl rfl (by decide) ?_
        refine xk_extract rfl rfl (by decide) ?_
        refine xk_assign rfl (by decide) ?_
        refine xk_assign rfl (by decide) ?_
        refine XK.nilN ?_
        refine XK.seq ?_

        refine XK.region ?_
        refine xk_buildS (zs := [.int .i64 0, .int .i64 0, .int .i64 0, .int .i64 0]) (L := [(0, 1), (1, 1), (2, 1), (3, 1)]) (zeroB_of (by kernel_rfl)) (by kernel_rfl) rfl (by simp [fillL, setN, Value.cells]; rfl) (by decide) ?_
        refine xk_call [] (f := 13) (fi := []) (ca := []) (by kernel_rfl) rfl rfl (by decide) (by simp) (CmdOk ((packZ 0 0 22 0).1 :: [])) (fun w1 st => command_any 0 0 22 0 none 0 0 [] w1 (SlS.nil _ _) rfl (by omega) head0.1) ?_
        rintro _ w1 qcc ⟨Alc, clc, rfl, hlc⟩ hf _ _
        have hlc := hlc.le hf
        clear hf
        refine xk_move rfl (by decide) ?_
        refine xk_extract rfl rfl (by decide) ?_
        refine xk_extract rfl rfl (by decide) ?_
        refine xk_assign rfl (by decide) ?_
        refine xk_assign rfl (by decide) ?_
        refine XK.nilN ?_
        refine XK.seq ?_

        refine XK.region ?_
        refine xk_ldN 4 rfl ?_
        refine xk_ldN 6 rfl ?_
        refine xk_move rfl (by decide) ?_
        refine xk_move rfl (by decide) ?_
        refine xk_move rfl (by decide) ?_
        refine xk_callR (f := 10) (fi := []) (ca := []) (by kernel_rfl) rfl rfl (by decide) (v0 := actV (decF s x y wt j [(packZ 5 0 17 0).1, r])) (fun w1 st => decide_any q1 qx s A1 A2 A3 A4 _ k1 _ k2 _ k3 _ k4 X0 X1 X2 X3 X4 X5 _ Xk0 _ Xk1 _ Xk2 _ Xk3 _ Xk4 _ Xk5 x y Aw nw cw wt j Ala 2 cla [(packZ 5 0 17 0).1, r] w1 hSP hK (st.le (by simp)) hSt (st.le (by simp)) (hw.le (st.le (by simp))) hnw (by omega) (hla.le (st.le (by simp))) rfl (by omega) (u32_two _ _ _ _ hr0 (by omega))) ?_
        rw [dec_zero hD1]
        simp only [actV]
        refine xk_move rfl (by decide) ?_
        refine xk_extract rfl rfl (by decide) ?_
        refine xk_extract rfl rfl (by decide) ?_
        refine xk_alloc (cs := [.int .u8 0, .int .i64 0]) (zeroB_of (by kernel_rfl)) (by decide) fun g6 => ?_
        refine xk_assign rfl (by decide) ?_
        (first | (refine xk_storeN 0 rfl rfl rfl (by kernel_rfl) (by simp [Value.cells, Value.oneCell']) (by simp [Value.cells]) ?_) | (refine xk_storeN 1 rfl rfl rfl (by kernel_rfl) (by simp [Value.cells, Value.oneCell']) (by simp [Value.cells]) ?_) | (refine xk_storeN 2 rfl rfl rfl (by kernel_rfl) (by simp [Value.cells, Value.oneCell']) (by simp [Value.cells]) ?_) | (refine xk_storeN 3 rfl rfl rfl (by kernel_rfl) (by simp [Value.cells, Value.oneCell']) (by simp [Value.cells]) ?_) | (refine xk_storeN 4 rfl rfl rfl (by kernel_rfl) (by simp [Value.cells, Value.oneCell']) (by simp [Value.cells]) ?_) | (refine xk_storeN 5 rfl rfl rfl (by kernel_rfl) (by simp [Value.cells, Value.oneCell']) (by simp [Value.cells]) ?_) | (refine xk_storeN 6 rfl rfl rfl (by kernel_rfl) (by simp [Value.cells, Value.oneCell']) (by simp [Value.cells]) ?_) | (refine xk_storeN 7 rfl rfl rfl (by kernel_rfl) (by simp [Value.cells, Value.oneCell']) (by simp [Value.cells]) ?_) | (refine xk_storeN 8 rfl rfl rfl (by kernel_rfl) (by simp [Value.cells, Value.oneCell']) (by simp [Value.cells]) ?_)); simp only [putN, Value.cells, List.set, List.take, List.drop, List.nil_append, List.append_nil, List.length_cons, List.length_nil, List.cons_append, Nat.reduceAdd]
        refine XK.nilN ?_
        refine XK.seq ?_

        refine XK.region ?_
        refine xk_ldN 4 rfl ?_
        refine xk_ldN 6 rfl ?_
        refine xk_move rfl (by decide) ?_
        refine xk_move rfl (by decide) ?_
        refine xk_move rfl (by decide) ?_
        refine xk_callR (f := 10) (fi := []) (ca := []) (by kernel_rfl) rfl rfl (by decide) (v0 := actV (decF s x y wt j [(packZ 6 0 20 0).1, r])) (fun w1 st => decide_any q1 qx s A1 A2 A3 A4 _ k1 _ k2 _ k3 _ k4 X0 X1 X2 X3 X4 X5 _ Xk0 _ Xk1 _ Xk2 _ Xk3 _ Xk4 _ Xk5 x y Aw nw cw wt j Alb 2 clb [(packZ 6 0 20 0).1, r] w1 hSP hK (st.le (by simp)) hSt (st.le (by simp)) (hw.le (st.le (by simp))) hnw (by omega) (hlb.le (st.le (by simp))) rfl (by omega) (u32_two _ _ _ _ hr0 (by omega))) ?_
        rw [dec_zero hD2]
        simp only [actV]
        refine xk_move rfl (by decide) ?_
        refine xk_extract rfl rfl (by decide) ?_
        refine xk_extract rfl rfl (by decide) ?_
        refine xk_alloc (cs := [.int .u8 0, .int .i64 0]) (zeroB_of (by kernel_rfl)) (by decide) fun g7 => ?_
        refine xk_assign rfl (by decide) ?_
        (first | (refine xk_storeN 0 rfl rfl rfl (by kernel_rfl) (by simp [Value.cells, Value.oneCell']) (by simp [Value.cells]) ?_) | (refine xk_storeN 1 rfl rfl rfl (by kernel_rfl) (by simp [Value.cells, Value.oneCell']) (by simp [Value.cells]) ?_) | (refine xk_storeN 2 rfl rfl rfl (by kernel_rfl) (by simp [Value.cells, Value.oneCell']) (by simp [Value.cells]) ?_) | (refine xk_storeN 3 rfl rfl rfl (by kernel_rfl) (by simp [Value.cells, Value.oneCell']) (by simp [Value.cells]) ?_) | (refine xk_storeN 4 rfl rfl rfl (by kernel_rfl) (by simp [Value.cells, Value.oneCell']) (by simp [Value.cells]) ?_) | (refine xk_storeN 5 rfl rfl rfl (by kernel_rfl) (by simp [Value.cells, Value.oneCell']) (by simp [Value.cells]) ?_) | (refine xk_storeN 6 rfl rfl rfl (by kernel_rfl) (by simp [Value.cells, Value.oneCell']) (by simp [Value.cells]) ?_) | (refine xk_storeN 7 rfl rfl rfl (by kernel_rfl) (by simp [Value.cells, Value.oneCell']) (by simp [Value.cells]) ?_) | (refine xk_storeN 8 rfl rfl rfl (by kernel_rfl) (by simp [Value.cells, Value.oneCell']) (by simp [Value.cells]) ?_)); simp only [putN, Value.cells, List.set, List.take, List.drop, List.nil_append, List.append_nil, List.length_cons, List.length_nil, List.cons_append, Nat.reduceAdd]
        refine XK.nilN ?_
        refine XK.seq ?_

        refine XK.region ?_
        refine xk_ldN 4 rfl ?_
        refine xk_ldN 6 rfl ?_
        refine xk_move rfl (by decide) ?_
        refine xk_move rfl (by decide) ?_
        refine xk_move rfl (by decide) ?_
        refine xk_callR (f := 10) (fi := []) (ca := []) (by kernel_rfl) rfl rfl (by decide) (v0 := actV (decF s x y wt j [(packZ 0 0 22 0).1])) (fun w1 st => decide_any q1 qx s A1 A2 A3 A4 _ k1 _ k2 _ k3 _ k4 X0 X1 X2 X3 X4 X5 _ Xk0 _ Xk1 _ Xk2 _ Xk3 _ Xk4 _ Xk5 x y Aw nw cw wt j Alc 1 clc [(packZ 0 0 22 0).1] w1 hSP hK (st.le (by simp)) hSt (st.le (by simp)) (hw.le (st.le (by simp))) hnw (by omega) (hlc.le (st.le (by simp))) rfl (by omega) (u32_one _ _ _ _)) ?_
        rw [dec_zero hD3]
        simp only [actV]
        refine xk_move rfl (by decide) ?_
        refine xk_extract rfl rfl (by decide) ?_
        refine xk_extract rfl rfl (by decide) ?_
        refine xk_alloc (cs := [.int .u8 0, .int .i64 0]) (zeroB_of (by kernel_rfl)) (by decide) fun g8 => ?_
        refine xk_assign rfl (by decide) ?_
        (first | (refine xk_storeN 0 rfl rfl rfl (by kernel_rfl) (by simp [Value.cells, Value.oneCell']) (by simp [Value.cells]) ?_) | (refine xk_storeN 1 rfl rfl rfl (by kernel_rfl) (by simp [Value.cells, Value.oneCell']) (by simp [Value.cells]) ?_) | (refine xk_storeN 2 rfl rfl rfl (by kernel_rfl) (by simp [Value.cells, Value.oneCell']) (by simp [Value.cells]) ?_) | (refine xk_storeN 3 rfl rfl rfl (by kernel_rfl) (by simp [Value.cells, Value.oneCell']) (by simp [Value.cells]) ?_) | (refine xk_storeN 4 rfl rfl rfl (by kernel_rfl) (by simp [Value.cells, Value.oneCell']) (by simp [Value.cells]) ?_) | (refine xk_storeN 5 rfl rfl rfl (by kernel_rfl) (by simp [Value.cells, Value.oneCell']) (by simp [Value.cells]) ?_) | (refine xk_storeN 6 rfl rfl rfl (by kernel_rfl) (by simp [Value.cells, Value.oneCell']) (by simp [Value.cells]) ?_) | (refine xk_storeN 7 rfl rfl rfl (by kernel_rfl) (by simp [Value.cells, Value.oneCell']) (by simp [Value.cells]) ?_) | (refine xk_storeN 8 rfl rfl rfl (by kernel_rfl) (by simp [Value.cells, Value.oneCell']) (by simp [Value.cells]) ?_)); simp only [putN, Value.cells, List.set, List.take, List.drop, List.nil_append, List.append_nil, List.length_cons, List.length_nil, List.cons_append, Nat.reduceAdd]
        refine XK.nilN ?_
        refine XK.seq ?_
        refine XK.cutB 168 (False) ?_ ?_
        · skip

          refine XK.region ?_
          refine xk_move rfl (by decide) ?_
          refine xk_eql rfl rfl (by decide) ?_
          refine xk_move rfl (by decide) ?_
          refine xk_field (off := 1) (by kernel_rfl) rfl (by decide) ?_
          refine xk_ld rfl ?_
          refine xk_len (el := 57) (by kernel_rfl) rfl (by decide) ?_
          refine xk_lss rfl rfl (by decide) ?_
          refine xk_neqB (by kernel_rfl) rfl rfl (by decide) ?_
          refine xk_move rfl (by decide) ?_
          (first | refine xk_split (t := 139) rfl (fun hg => ?_) (fun hg => ?_) | refine xk_splitB (t := 139) rfl (fun hg => ?_) (fun hg => ?_))
          ·
            refine xk_guardF rfl rfl rfl (by decide) ?_
            refine xk_guardF rfl rfl rfl (by decide) ?_
            refine xk_guardF rfl rfl rfl (by decide) ?_
            refine xk_guardU rfl rfl (by decide) ?_
            refine xk_guardU rfl rfl (by decide) ?_
            refine xk_guardF rfl rfl rfl (by decide) ?_
            (first | refine xk_pickT rfl rfl (by decide) ?_ | refine xk_pickF rfl rfl (by decide) ?_)
            refine xk_move rfl (by decide) ?_
            refine xk_guardF rfl rfl rfl (by decide) ?_
            refine xk_guardF rfl rfl rfl (by decide) ?_
            refine xk_guardF rfl rfl rfl (by decide) ?_
            refine xk_guardF rfl rfl rfl (by decide) ?_
            refine xk_guardF rfl rfl rfl (by decide) ?_
            refine xk_guardF rfl rfl rfl (by decide) ?_
            refine xk_guardF rfl rfl rfl (by decide) ?_
            refine xk_guardF rfl rfl rfl (by decide) ?_
            (first | refine xk_pickT rfl rfl (by decide) ?_ | refine xk_pickF rfl rfl (by decide) ?_)
            refine xk_move rfl (by decide) ?_
            refine xk_guardF rfl rfl rfl (by decide) ?_
            refine xk_guardF rfl rfl rfl (by decide) ?_
            refine xk_guardF rfl rfl rfl (by decide) ?_
            refine xk_guardU rfl rfl (by decide) ?_
            refine xk_guardU rfl rfl (by decide) ?_
            refine xk_guardF rfl rfl rfl (by decide) ?_
            (first | refine xk_pickT rfl rfl (by decide) ?_ | refine xk_pickF rfl rfl (by decide) ?_)
            refine xk_move rfl (by decide) ?_
            refine xk_guardF rfl rfl rfl (by decide) ?_
            refine xk_guardF rfl rfl rfl (by decide) ?_
            (first | refine xk_pickT rfl rfl (by decide) ?_ | refine xk_pickF rfl rfl (by decide) ?_)
            refine XK.nilN ?_
            exact XK.meetB (by repeat (first | exact trivial | refine ⟨rfl, ?_⟩)) (by first | (refine get_iff rfl ?_; omega) | (refine get_false rfl ?_; exact id) | (refine get_iff rfl ⟨fun hh => ?_, fun hh => ?_⟩ <;> first | omega | (simp_all; done) | (simp_all; omega)) | (exfalso; simp_all; done) | (exfalso; simp_all; omega) | (refine get_true rfl ?_; first | omega | (simp_all; done)) | (refine get_bool rfl ?_; simp_all; done))
          ·
            refine xk_guardT rfl rfl ?_; refine xk_move rfl (by decide) ?_
            refine xk_guardT rfl rfl ?_; refine xk_neq rfl rfl (by decide) ?_
            refine xk_guardT rfl rfl ?_; refine xk_move rfl (by decide) ?_
            (first | refine xk_split (t := 142) rfl (fun hg => ?_) (fun hg => ?_) | refine xk_splitB (t := 142) rfl (fun hg => ?_) (fun hg => ?_))
            ·
              refine xk_guardT rfl rfl ?_; refine xk_move rfl (by decide) ?_
              refine xk_guardT rfl rfl ?_; refine xk_neq rfl rfl (by decide) ?_
              refine xk_guardT rfl rfl ?_; (first | refine xk_pickT rfl rfl (by decide) ?_ | refine xk_pickF rfl rfl (by decide) ?_)
              (first | refine xk_pickT rfl rfl (by decide) ?_ | refine xk_pickF rfl rfl (by decide) ?_)
              refine xk_move rfl (by decide) ?_
              (first | refine xk_split (t := 147) rfl (fun hg => ?_) (fun hg => ?_) | refine xk_splitB (t := 147) rfl (fun hg => ?_) (fun hg => ?_))
              ·
                refine xk_guardF rfl rfl rfl (by decide) ?_
                refine xk_guardF rfl rfl rfl (by decide) ?_
                refine xk_guardF rfl rfl rfl (by decide) ?_
                refine xk_guardF rfl rfl rfl (by decide) ?_
                refine xk_guardF rfl rfl rfl (by decide) ?_
                refine xk_guardF rfl rfl rfl (by decide) ?_
                refine xk_guardF rfl rfl rfl (by decide) ?_
                refine xk_guardF rfl rfl rfl (by decide) ?_
                (first | refine xk_pickT rfl rfl (by decide) ?_ | refine xk_pickF rfl rfl (by decide) ?_)
                refine xk_move rfl (by decide) ?_
                refine xk_guardF rfl rfl rfl (by decide) ?_
                refine xk_guardF rfl rfl rfl (by decide) ?_
                refine xk_guardF rfl rfl rfl (by decide) ?_
                refine xk_guardU rfl rfl (by decide) ?_
                refine xk_guardU rfl rfl (by decide) ?_
                refine xk_guardF rfl rfl rfl (by decide) ?_
                (first | refine xk_pickT rfl rfl (by decide) ?_ | refine xk_pickF rfl rfl (by decide) ?_)
                refine xk_move rfl (by decide) ?_
                refine xk_guardF rfl rfl rfl (by decide) ?_
                refine xk_guardF rfl rfl rfl (by decide) ?_
                (first | refine xk_pickT rfl rfl (by decide) ?_ | refine xk_pickF rfl rfl (by decide) ?_)
                refine XK.nilN ?_
                exact XK.meetB (by repeat (first | exact trivial | refine ⟨rfl, ?_⟩)) (by first | (refine get_iff rfl ?_; omega) | (refine get_false rfl ?_; exact id) | (refine get_iff rfl ⟨fun hh => ?_, fun hh => ?_⟩ <;> first | omega | (simp_all; done) | (simp_all; omega)) | (exfalso; simp_all; done) | (exfalso; simp_all; omega) | (refine get_true rfl ?_; first | omega | (simp_all; done)) | (refine get_bool rfl ?_; simp_all; done))
              ·
                refine xk_guardT rfl rfl ?_; refine xk_move rfl (by decide) ?_
                refine xk_guardT rfl rfl ?_; refine xk_eql rfl rfl (by decide) ?_
                refine xk_guardT rfl rfl ?_; refine xk_move rfl (by decide) ?_
                refine xk_guardT rfl rfl ?_; refine xk_field (off := 0) (by kernel_rfl) rfl (by decide) ?_
                refine xk_guardT rfl rfl ?_; refine xk_ld rfl ?_
                refine xk_guardT rfl rfl ?_; refine xk_len (el := 60) (by kernel_rfl) rfl (by decide) ?_
                refine xk_guardT rfl rfl ?_; refine xk_lss rfl rfl (by decide) ?_
                refine xk_guardT rfl rfl ?_; refine xk_neqB (by kernel_rfl) rfl rfl (by decide) ?_
                (first | refine xk_pickT rfl rfl (by decide) ?_ | refine xk_pickF rfl rfl (by decide) ?_)
                refine xk_move rfl (by decide) ?_
                (first | refine xk_split (t := 157) rfl (fun hg => ?_) (fun hg => ?_) | refine xk_splitB (t := 157) rfl (fun hg => ?_) (fun hg => ?_))
                ·
                  refine xk_guardF rfl rfl rfl (by decide) ?_
                  refine xk_guardF rfl rfl rfl (by decide) ?_
                  refine xk_guardF rfl rfl rfl (by decide) ?_
                  refine xk_guardU rfl rfl (by decide) ?_
                  refine xk_guardU rfl rfl (by decide) ?_
                  refine xk_guardF rfl rfl rfl (by decide) ?_
                  (first | refine xk_pickT rfl rfl (by decide) ?_ | refine xk_pickF rfl rfl (by decide) ?_)
                  refine xk_move rfl (by decide) ?_
                  refine xk_guardF rfl rfl rfl (by decide) ?_
                  refine xk_guardF rfl rfl rfl (by decide) ?_
                  (first | refine xk_pickT rfl rfl (by decide) ?_ | refine xk_pickF rfl rfl (by decide) ?_)
                  refine XK.nilN ?_
                  exact XK.meetB (by repeat (first | exact trivial | refine ⟨rfl, ?_⟩)) (by first | (refine get_iff rfl ?_; omega) | (refine get_false rfl ?_; exact id) | (refine get_iff rfl ⟨fun hh => ?_, fun hh => ?_⟩ <;> first | omega | (simp_all; done) | (simp_all; omega)) | (exfalso; simp_all; done) | (exfalso; simp_all; omega) | (refine get_true rfl ?_; first | omega | (simp_all; done)) | (refine get_bool rfl ?_; simp_all; done))
                ·
                  refine xk_guardT rfl rfl ?_; refine xk_move rfl (by decide) ?_
                  refine xk_guardT rfl rfl ?_; refine xk_neq rfl rfl (by decide) ?_
                  refine xk_guardT rfl rfl ?_; refine xk_move rfl (by decide) ?_
                  (first | refine xk_split (t := 160) rfl (fun hg => ?_) (fun hg => ?_) | refine xk_splitB (t := 160) rfl (fun hg => ?_) (fun hg => ?_))
                  ·
                    refine xk_guardT rfl rfl ?_; refine xk_move rfl (by decide) ?_
                    refine xk_guardT rfl rfl ?_; refine xk_neq rfl rfl (by decide) ?_
                    refine xk_guardT rfl rfl ?_; (first | refine xk_pickT rfl rfl (by decide) ?_ | refine xk_pickF rfl rfl (by decide) ?_)
                    (first | refine xk_pickT rfl rfl (by decide) ?_ | refine xk_pickF rfl rfl (by decide) ?_)
                    refine xk_move rfl (by decide) ?_
                    (first | refine xk_split (t := 165) rfl (fun hg => ?_) (fun hg => ?_) | refine xk_splitB (t := 165) rfl (fun hg => ?_) (fun hg => ?_))
                    ·
                      refine xk_guardF rfl rfl rfl (by decide) ?_
                      refine xk_guardF rfl rfl rfl (by decide) ?_
                      (first | refine xk_pickT rfl rfl (by decide) ?_ | refine xk_pickF rfl rfl (by decide) ?_)
                      refine XK.nilN ?_
                      exact XK.meetB (by repeat (first | exact trivial | refine ⟨rfl, ?_⟩)) (by first | (refine get_iff rfl ?_; omega) | (refine get_false rfl ?_; exact id) | (refine get_iff rfl ⟨fun hh => ?_, fun hh => ?_⟩ <;> first | omega | (simp_all; done) | (simp_all; omega)) | (exfalso; simp_all; done) | (exfalso; simp_all; omega) | (refine get_true rfl ?_; first | omega | (simp_all; done)) | (refine get_bool rfl ?_; simp_all; done))
                    ·
                      refine xk_guardT rfl rfl ?_; refine xk_move rfl (by decide) ?_
                      refine xk_guardT rfl rfl ?_; refine xk_neq rfl rfl (by decide) ?_
                      (first | refine xk_pickT rfl rfl (by decide) ?_ | refine xk_pickF rfl rfl (by decide) ?_)
                      refine XK.nilN ?_
                      exact XK.meetB (by repeat (first | exact trivial | refine ⟨rfl, ?_⟩)) (by first | (refine get_iff rfl ?_; omega) | (refine get_false rfl ?_; exact id) | (refine get_iff rfl ⟨fun hh => ?_, fun hh => ?_⟩ <;> first | omega | (simp_all; done) | (simp_all; omega)) | (exfalso; simp_all; done) | (exfalso; simp_all; omega) | (refine get_true rfl ?_; first | omega | (simp_all; done)) | (refine get_bool rfl ?_; simp_all; done))
                  ·
                    refine xk_guardF rfl rfl rfl (by decide) ?_
                    refine xk_guardF rfl rfl rfl (by decide) ?_
                    refine xk_guardT rfl rfl ?_; (first | refine xk_pickT rfl rfl (by decide) ?_ | refine xk_pickF rfl rfl (by decide) ?_)
                    (first | refine xk_pickT rfl rfl (by decide) ?_ | refine xk_pickF rfl rfl (by decide) ?_)
                    refine xk_move rfl (by decide) ?_
                    refine xk_guardT rfl rfl ?_; refine xk_move rfl (by decide) ?_
                    refine xk_guardT rfl rfl ?_; refine xk_neq rfl rfl (by decide) ?_
                    (first | refine xk_pickT rfl rfl (by decide) ?_ | refine xk_pickF rfl rfl (by decide) ?_)
                    refine XK.nilN ?_
                    exact XK.meetB (by repeat (first | exact trivial | refine ⟨rfl, ?_⟩)) (by first | (refine get_iff rfl ?_; omega) | (refine get_false rfl ?_; exact id) | (refine get_iff rfl ⟨fun hh => ?_, fun hh => ?_⟩ <;> first | omega | (simp_all; done) | (simp_all; omega)) | (exfalso; simp_all; done) | (exfalso; simp_all; omega) | (refine get_true rfl ?_; first | omega | (simp_all; done)) | (refine get_bool rfl ?_; simp_all; done))
            ·
              refine xk_guardF rfl rfl rfl (by decide) ?_
              refine xk_guardF rfl rfl rfl (by decide) ?_
              refine xk_guardT rfl rfl ?_; (first | refine xk_pickT rfl rfl (by decide) ?_ | refine xk_pickF rfl rfl (by decide) ?_)
              (first | refine xk_pickT rfl rfl (by decide) ?_ | refine xk_pickF rfl rfl (by decide) ?_)
              refine xk_move rfl (by decide) ?_
              refine xk_guardT rfl rfl ?_; refine xk_move rfl (by decide) ?_
              refine xk_guardT rfl rfl ?_; refine xk_eql rfl rfl (by decide) ?_
              refine xk_guardT rfl rfl ?_; refine xk_move rfl (by decide) ?_
              refine xk_guardT rfl rfl ?_; refine xk_field (off := 0) (by kernel_rfl) rfl (by decide) ?_
              refine xk_guardT rfl rfl ?_; refine xk_ld rfl ?_
              refine xk_guardT rfl rfl ?_; refine xk_len (el := 60) (by kernel_rfl) rfl (by decide) ?_
              refine xk_guardT rfl rfl ?_; refine xk_lss rfl rfl (by decide) ?_
              refine xk_guardT rfl rfl ?_; refine xk_neqB (by kernel_rfl) rfl rfl (by decide) ?_
              (first | refine xk_pickT rfl rfl (by decide) ?_ | refine xk_pickF rfl rfl (by decide) ?_)
              refine xk_move rfl (by decide) ?_
              (first | refine xk_split (t := 157) rfl (fun hg => ?_) (fun hg => ?_) | refine xk_splitB (t := 157) rfl (fun hg => ?_) (fun hg => ?_))
              ·
                refine xk_guardF rfl rfl rfl (by decide) ?_
                refine xk_guardF rfl rfl rfl (by decide) ?_
                refine xk_guardF rfl rfl rfl (by decide) ?_
                refine xk_guardU rfl rfl (by decide) ?_
                refine xk_guardU rfl rfl (by decide) ?_
                refine xk_guardF rfl rfl rfl (by decide) ?_
                (first | refine xk_pickT rfl rfl (by decide) ?_ | refine xk_pickF rfl rfl (by decide) ?_)
                refine xk_move rfl (by decide) ?_
                refine xk_guardF rfl rfl rfl (by decide) ?_
                refine xk_guardF rfl rfl rfl (by decide) ?_
                (first | refine xk_pickT rfl rfl (by decide) ?_ | refine xk_pickF rfl rfl (by decide) ?_)
                refine XK.nilN ?_
                exact XK.meetB (by repeat (first | exact trivial | refine ⟨rfl, ?_⟩)) (by first | (refine get_iff rfl ?_; omega) | (refine get_false rfl ?_; exact id) | (refine get_iff rfl ⟨fun hh => ?_, fun hh => ?_⟩ <;> first | omega | (simp_all; done) | (simp_all; omega)) | (exfalso; simp_all; done) | (exfalso; simp_all; omega) | (refine get_true rfl ?_; first | omega | (simp_all; done)) | (refine get_bool rfl ?_; simp_all; done))
              ·
                refine xk_guardT rfl rfl ?_; refine xk_move rfl (by decide) ?_
                refine xk_guardT rfl rfl ?_; refine xk_neq rfl rfl (by decide) ?_
                refine xk_guardT rfl rfl ?_; refine xk_move rfl (by decide) ?_
                (first | refine xk_split (t := 160) rfl (fun hg => ?_) (fun hg => ?_) | refine xk_splitB (t := 160) rfl (fun hg => ?_) (fun hg => ?_))
                ·
                  refine xk_guardT rfl rfl ?_; refine xk_move rfl (by decide) ?_
                  refine xk_guardT rfl rfl ?_; refine xk_neq rfl rfl (by decide) ?_
                  refine xk_guardT rfl rfl ?_; (first | refine xk_pickT rfl rfl (by decide) ?_ | refine xk_pickF rfl rfl (by decide) ?_)
                  (first | refine xk_pickT rfl rfl (by decide) ?_ | refine xk_pickF rfl rfl (by decide) ?_)
                  refine xk_move rfl (by decide) ?_
                  (first | refine xk_split (t := 165) rfl (fun hg => ?_) (fun hg => ?_) | refine xk_splitB (t := 165) rfl (fun hg => ?_) (fun hg => ?_))
                  ·
                    refine xk_guardF rfl rfl rfl (by decide) ?_
                    refine xk_guardF rfl rfl rfl (by decide) ?_
                    (first | refine xk_pickT rfl rfl (by decide) ?_ | refine xk_pickF rfl rfl (by decide) ?_)
                    refine XK.nilN ?_
                    exact XK.meetB (by repeat (first | exact trivial | refine ⟨rfl, ?_⟩)) (by first | (refine get_iff rfl ?_; omega) | (refine get_false rfl ?_; exact id) | (refine get_iff rfl ⟨fun hh => ?_, fun hh => ?_⟩ <;> first | omega | (simp_all; done) | (simp_all; omega)) | (exfalso; simp_all; done) | (exfalso; simp_all; omega) | (refine get_true rfl ?_; first | omega | (simp_all; done)) | (refine get_bool rfl ?_; simp_all; done))
                  ·
                    refine xk_guardT rfl rfl ?_; refine xk_move rfl (by decide) ?_
                    refine xk_guardT rfl rfl ?_; refine xk_neq rfl rfl (by decide) ?_
                    (first | refine xk_pickT rfl rfl (by decide) ?_ | refine xk_pickF rfl rfl (by decide) ?_)
                    refine XK.nilN ?_
                    exact XK.meetB (by repeat (first | exact trivial | refine ⟨rfl, ?_⟩)) (by first | (refine get_iff rfl ?_; omega) | (refine get_false rfl ?_; exact id) | (refine get_iff rfl ⟨fun hh => ?_, fun hh => ?_⟩ <;> first | omega | (simp_all; done) | (simp_all; omega)) | (exfalso; simp_all; done) | (exfalso; simp_all; omega) | (refine get_true rfl ?_; first | omega | (simp_all; done)) | (refine get_bool rfl ?_; simp_all; done))
                ·
                  refine xk_guardF rfl rfl rfl (by decide) ?_
                  refine xk_guardF rfl rfl rfl (by decide) ?_
                  refine xk_guardT rfl rfl ?_; (first | refine xk_pickT rfl rfl (by decide) ?_ | refine xk_pickF rfl rfl (by decide) ?_)
                  (first | refine xk_pickT rfl rfl (by decide) ?_ | refine xk_pickF rfl rfl (by decide) ?_)
                  refine xk_move rfl (by decide) ?_
                  refine xk_guardT rfl rfl ?_; refine xk_move rfl (by decide) ?_
                  refine xk_guardT rfl rfl ?_; refine xk_neq rfl rfl (by decide) ?_
                  (first | refine xk_pickT rfl rfl (by decide) ?_ | refine xk_pickF rfl rfl (by decide) ?_)
                  refine XK.nilN ?_
                  exact XK.meetB (by repeat (first | exact trivial | refine ⟨rfl, ?_⟩)) (by first | (refine get_iff rfl ?_; omega) | (refine get_false rfl ?_; exact id) | (refine get_iff rfl ⟨fun hh => ?_, fun hh => ?_⟩ <;> first | omega | (simp_all; done) | (simp_all; omega)) | (exfalso; simp_all; done) | (exfalso; simp_all; omega) | (refine get_true rfl ?_; first | omega | (simp_all; done)) | (refine get_bool rfl ?_; simp_all; done))
        refine XK.cond rfl (fun h => by simp at h) (fun _ => ?_)

        ·
          refine XK.skip ?_
          refine XK.norm ?_
          refine XK.cutB 181 (False) ?_ ?_
          · skip

            refine XK.region ?_
            refine xk_field (off := 0) (by kernel_rfl) rfl (by decide) ?_
            refine xk_ld rfl ?_
            refine xk_neq rfl rfl (by decide) ?_
            refine xk_move rfl (by decide) ?_
            (first | refine xk_split (t := 172) rfl (fun hg => ?_) (fun hg => ?_) | refine xk_splitB (t := 172) rfl (fun hg => ?_) (fun hg => ?_))
            ·
              refine xk_guardF rfl rfl rfl (by decide) ?_
              refine xk_guardF rfl rfl rfl (by decide) ?_
              refine xk_guardF rfl rfl rfl (by decide) ?_
              (first | refine xk_pickT rfl rfl (by decide) ?_ | refine xk_pickF rfl rfl (by decide) ?_)
              refine xk_move rfl (by decide) ?_
              refine xk_guardF rfl rfl rfl (by decide) ?_
              refine xk_guardF rfl rfl rfl (by decide) ?_
              refine xk_guardF rfl rfl rfl (by decide) ?_
              (first | refine xk_pickT rfl rfl (by decide) ?_ | refine xk_pickF rfl rfl (by decide) ?_)
              refine XK.nilN ?_
              exact XK.meetB (by repeat (first | exact trivial | refine ⟨rfl, ?_⟩)) (by first | (refine get_iff rfl ?_; omega) | (refine get_false rfl ?_; exact id) | (refine get_iff rfl ⟨fun hh => ?_, fun hh => ?_⟩ <;> first | omega | (simp_all; done) | (simp_all; omega)) | (exfalso; simp_all; done) | (exfalso; simp_all; omega) | (refine get_true rfl ?_; first | omega | (simp_all; done)) | (refine get_bool rfl ?_; simp_all; done))
            ·
              refine xk_guardT rfl rfl ?_; refine xk_field (off := 0) (by kernel_rfl) rfl (by decide) ?_
              refine xk_guardT rfl rfl ?_; refine xk_ld rfl ?_
              refine xk_guardT rfl rfl ?_; refine xk_neq rfl rfl (by decide) ?_
              (first | refine xk_pickT rfl rfl (by decide) ?_ | refine xk_pickF rfl rfl (by decide) ?_)
              refine xk_move rfl (by decide) ?_
              (first | refine xk_split (t := 177) rfl (fun hg => ?_) (fun hg => ?_) | refine xk_splitB (t := 177) rfl (fun hg => ?_) (fun hg => ?_))
              ·
                refine xk_guardF rfl rfl rfl (by decide) ?_
                refine xk_guardF rfl rfl rfl (by decide) ?_
                refine xk_guardF rfl rfl rfl (by decide) ?_
                (first | refine xk_pickT rfl rfl (by decide) ?_ | refine xk_pickF rfl rfl (by decide) ?_)
                refine XK.nilN ?_
                exact XK.meetB (by repeat (first | exact trivial | refine ⟨rfl, ?_⟩)) (by first | (refine get_iff rfl ?_; omega) | (refine get_false rfl ?_; exact id) | (refine get_iff rfl ⟨fun hh => ?_, fun hh => ?_⟩ <;> first | omega | (simp_all; done) | (simp_all; omega)) | (exfalso; simp_all; done) | (exfalso; simp_all; omega) | (refine get_true rfl ?_; first | omega | (simp_all; done)) | (refine get_bool rfl ?_; simp_all; done))
              ·
                refine xk_guardT rfl rfl ?_; refine xk_field (off := 0) (by kernel_rfl) rfl (by decide) ?_
                refine xk_guardT rfl rfl ?_; refine xk_ld rfl ?_
                refine xk_guardT rfl rfl ?_; refine xk_neq rfl rfl (by decide) ?_
                (first | refine xk_pickT rfl rfl (by decide) ?_ | refine xk_pickF rfl rfl (by decide) ?_)
                refine XK.nilN ?_
                exact XK.meetB (by repeat (first | exact trivial | refine ⟨rfl, ?_⟩)) (by first | (refine get_iff rfl ?_; omega) | (refine get_false rfl ?_; exact id) | (refine get_iff rfl ⟨fun hh => ?_, fun hh => ?_⟩ <;> first | omega | (simp_all; done) | (simp_all; omega)) | (exfalso; simp_all; done) | (exfalso; simp_all; omega) | (refine get_true rfl ?_; first | omega | (simp_all; done)) | (refine get_bool rfl ?_; simp_all; done))
          refine XK.cond rfl (fun h => by simp at h) (fun _ => ?_)

          ·
            refine XK.skip ?_
            refine XK.norm ?_

            refine XK.region ?_
            refine xk_move rfl (by decide) ?_
            refine xk_add rfl rfl (wrap_in (by omega)) (by decide) ?_
            refine xk_assign rfl (by decide) ?_
            refine XK.nilN ?_
            exact XK.weakR (R' := [qx, q1, all w]) (by simp) (XK.weak [5, 6] rfl (by decide) (fun _ h => h) (XK.envS [(17, .int .i64 ((j : Int) + 1)), (16, .int .i64 r), (11, .pointer (some ⟨g2, 0, none⟩)), (10, .pointer (some ⟨g1, 0, none⟩)), (1, .slice Aw nw cw)] (XK.round (2 - (j + 1)) (by omega) ⟨j + 1, by omega, rfl, rfl, rfl, rfl⟩)))
      ·
        refine XK.exit ?_
        refine XK.norm ?_
        refine XK.seq ?_

        refine XK.region ?_
        refine xk_assign rfl (by decide) ?_
        refine XK.nilN ?_
        refine XK.ret ?_
        refine XK.norm ?_
        exact XK.ret1 rfl rfl fun w1 st => ⟨rfl, st.below (by simp)⟩

end Go.Proofs.Ytbcfbafpeidifaa
/- Asks that came in, opened. -/
namespace Go.Proofs.Ytbcfbafpeidifaa
set_option linter.all false
open Go.RowKit
theorem sixL {l : List Value} (h : l.length = 6) : ∃ a b c d e f, l = [a, b, c, d, e, f] := by
  match l, h with
  | [a, b, c, d, e, f], _ => exact ⟨a, b, c, d, e, f, rfl⟩
section
variable {H : Type} {enc : TypeId × Value → H} {w : World} {fuel : Nat} {cs : List Value} {x : DataW H × List MemPlace}
theorem ask_cells : Try.prog.cellsOf 41 = 6 := by kernel_rfl
theorem ask_cI : Try.prog.cellsOf 3 = 1 := by kernel_rfl
set_option maxRecDepth 100000 in
theorem ask_of_trod (h : DataW.trod enc Try.prog w 0 (fun _ => true) true fuel 41 cs = some x) : ∃ a : AskT, cs = a.cells ∧ a.ok := by
  obtain ⟨xs, n, rfl, _, hl, hxl, hf⟩ := DataW.trod_struct Try.underlying41 h
  rw [ask_cells] at hl
  obtain ⟨a, b, c, d, e, f, rfl⟩ := sixL hl
  have h0 := hf 0 _ rfl
  have h1 := hf 1 _ rfl
  have h2 := hf 2 _ rfl
  have h3 := hf 3 _ rfl
  have h4 := hf 4 _ rfl
  have h5 := hf 5 _ rfl
  simp only [List.getElem_toArray, List.getElem_cons_zero, List.getElem_cons_succ, List.drop_succ_cons, List.drop_zero, ask_cI, List.take_succ_cons, List.take_zero] at h0 h1 h2 h3 h4 h5
  have pk : ∀ i, i < 6 → ∃ y, xs[i]? = some y := fun i hi => ⟨xs[i]'(by rw [hxl]; exact hi), List.getElem?_eq_getElem _⟩
  obtain ⟨y0, e0⟩ := pk 0 (by omega)
  obtain ⟨y1, e1⟩ := pk 1 (by omega)
  obtain ⟨y2, e2⟩ := pk 2 (by omega)
  obtain ⟨y3, e3⟩ := pk 3 (by omega)
  obtain ⟨y4, e4⟩ := pk 4 (by omega)
  obtain ⟨y5, e5⟩ := pk 5 (by omega)
  rw [e0] at h0
  rw [e1] at h1
  rw [e2] at h2
  rw [e3] at h3
  rw [e4] at h4
  rw [e5] at h5
  obtain ⟨z0, g0, _, w0⟩ := DataW.trod_int Try.underlying3 h0
  obtain ⟨z1, g1, _, w1⟩ := DataW.trod_int Try.underlying3 h1
  obtain ⟨z2, g2, _, w2⟩ := DataW.trod_int Try.underlying3 h2
  obtain ⟨z3, g3, _, w3⟩ := DataW.trod_int Try.underlying3 h3
  obtain ⟨z4, g4, _, w4⟩ := DataW.trod_int Try.underlying3 h4
  obtain ⟨z5, g5, _, w5⟩ := DataW.trod_int Try.underlying3 h5
  simp at g0 g1 g2 g3 g4 g5
  subst g0; subst g1; subst g2; subst g3; subst g4; subst g5
  exact ⟨⟨z0, z1, z2, z3, z4, z5⟩, rfl, ⟨bounds64 w0, bounds64 w1, bounds64 w2, bounds64 w3, bounds64 w4, bounds64 w5⟩⟩
open Go.ChangeShapes Go.WideShapes Go.ChangeAt in
set_option maxRecDepth 100000 in
theorem open_asks {v : Value} {d : DataW H} {ps : List MemPlace} {base : Nat} (hval : Value.okWide Try.prog w .any base 23 v) (h : DataW.Trod enc Try.prog w 0 (fun _ => true) true 23 v d ps) :
    ∃ (A : Option Addr) (n c : Nat) (qs : List AskT), v = .slice A n c ∧ SlS (all w) 6 A n (qs.flatMap AskT.cells) ∧ (∀ a ∈ qs, a.ok) ∧ n = qs.length ∧ n ≤ 9223372036854775807 := by
  obtain ⟨a0, len, cap, rfl⟩ := okWide_slice Try.underlying23 hval
  obtain ⟨fuel, hf⟩ := h
  obtain ⟨A, n, c, ys, hcs, hsl, hn, hm, hR⟩ := slice_sl AskT.cells AskT.ok Try.underlying23 ask_cells (by omega) (fun _ => rfl) (fun _ _ _ h => ask_of_trod h) hf
  simp [Value.cells] at hcs
  obtain ⟨rfl, rfl, rfl⟩ := hcs
  exact ⟨_, _, _, ys, rfl, SlS.of_sl hsl, hR, hn, hm⟩
end
end Go.Proofs.Ytbcfbafpeidifaa
