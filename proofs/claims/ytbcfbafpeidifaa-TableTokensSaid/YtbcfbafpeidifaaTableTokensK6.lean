/- chapter 14's laws: their example, and messages of raw numbers. -/
import Derived.ChangeArms
import Derived.Test.YtbcfbafpeidifaaTableTokensK5
namespace Go.Proofs.Ytbcfbafpeidifaa
set_option linter.all false
open Go.RowKit

theorem rowO_any (w0 : Int) (A : Option Addr) (n c : Nat) (zs : List Int) (w : World) (hs : SlS (all w) 1 A n (u32Cells zs)) (hn : n = zs.length) (hn2 : n ≤ 1000000) : Calls Try.prog 24 #[.int .u32 w0, .slice A n c] w (fun y w' => (∃ v hs q, y = .returned v ∧ q.w = w' ∧ RowO (w0 :: zs) v hs q ∧ New w hs q) ∧ Below w.heap.size w w') := by
  refine XK.enter (vs := [.int .u32 w0, .slice A n c]) Try.func24 rfl Try.ntmps24 (by simp) ?_
  refine XK.seq ?_

  refine XK.region ?_
  refine xk_assign rfl (by decide) ?_
  refine XK.nilN ?_
  refine XK.seq ?_

  refine XK.region ?_
  refine xk_move rfl (by decide) ?_
  refine xk_len (el := 54) (by kernel_rfl) rfl (by decide) ?_
  refine xk_add rfl rfl (wrap_in (by omega)) (by decide) ?_
  refine xk_makeCapT 1 4 (el := 54) (c := n + 1) (k0 := 1) (kd' := .i64) (by kernel_rfl) (by kernel_rfl) rfl (by rw [Int.natCast_add]; rfl) (by omega) (by omega) (by decide) fun g1 => ?_
  refine xk_assign rfl (by decide) ?_
  refine XK.nilN ?_
  refine XK.seq ?_

  refine XK.region ?_
  refine xk_move rfl (by decide) ?_
  refine xk_move rfl (by decide) ?_
  refine xk_slice (el := 54) (sz := 1) (zs := [.int .u32 0]) (by kernel_rfl) (zeroB_of (by kernel_rfl)) (by kernel_rfl) rfl (by decide) (by decide) rfl (by simp [fillL, setN, Value.cells, List.range_succ, List.set]; rfl) (by decide) fun g2 => ?_
  refine xk_appendT 1 1 4 1 (n' := 1) (el := 54) (by kernel_rfl) (by kernel_rfl) (by decide) rfl rfl rfl (sl_blk 0 rfl rfl) (by simp [Value.oneCell']) rfl (by omega) (by omega) (by decide) fun A1 c1 => ?_
  dsimp only [List.set]
  refine xk_assign rfl (by decide) ?_
  refine XK.nilN ?_
  refine XK.seq ?_

  refine XK.region ?_
  refine xk_move rfl (by decide) ?_
  refine xk_move rfl (by decide) ?_
  refine xk_appendT 1 1 4 n (n' := n + 1) (el := 54) (by kernel_rfl) (by kernel_rfl) (by decide) rfl rfl rfl (sl_ro (by simp) hs) (u32Cells_one _) (by omega) (by omega) (by omega) (by decide) fun A2 c2 => ?_
  dsimp only [List.set]
  refine xk_assign rfl (by decide) ?_
  refine XK.nilN ?_
  refine XK.ret ?_
  refine XK.norm ?_
  subst hn
  refine XK.still [] [] [1] (by simp) rfl (by decide) (by decide) fun q _ _ hfr => ?_
  exact XK.ret1 rfl rfl fun w1 st => ⟨⟨_, _, ⟨w1, q.Z⟩, rfl, rfl, ⟨_, _, rfl, rfl⟩, st.newR (by simp) (by simp) (hfr (by simp) (by simp))⟩, st.below (by simp)⟩

theorem commandO_any (m t p k : Int) (A : Option Addr) (n c : Nat) (zs : List Int) (w : World) (hs : SlS (all w) 1 A n (u32Cells zs)) (hn : n = zs.length) (hn2 : n ≤ 1000000) (hok : (packZ m t p k).2 = 0) : Calls Try.prog 13 #[.agg #[.int .i64 m, .int .i64 t, .int .i64 p, .int .i64 k], .slice A n c] w (fun y w' => (∃ v hs q, y = .returned v ∧ q.w = w' ∧ CmdO ((packZ m t p k).1 :: zs) v hs q ∧ New w hs q) ∧ Below w.heap.size w w') := by
  refine XK.enter (vs := [.agg #[.int .i64 m, .int .i64 t, .int .i64 p, .int .i64 k], .slice A n c]) Try.func13 rfl Try.ntmps13 (by simp) ?_
  refine XK.seq ?_

  refine XK.region ?_
  refine xk_box rfl (by decide) fun g1 => ?_
  refine xk_assign rfl (by decide) ?_
  refine xk_assign rfl (by decide) ?_
  refine XK.nilN ?_
  refine XK.seq ?_

  refine XK.region ?_
  refine xk_ldN 4 rfl ?_
  refine xk_callR (f := 23) (fi := []) (ca := []) (by kernel_rfl) rfl rfl (by decide) (fun w1 st => pack_any m t p k w1) ?_
  refine xk_move rfl (by decide) ?_
  refine xk_extract rfl rfl (by decide) ?_
  refine xk_extract rfl rfl (by decide) ?_
  refine xk_assign rfl (by decide) ?_
  refine xk_assign rfl (by decide) ?_
  refine XK.nilN ?_
  refine XK.seq ?_
  refine XK.seq ?_

  refine XK.region ?_
  refine xk_move rfl (by decide) ?_
  refine xk_neq rfl rfl (by decide) ?_
  refine XK.nilN ?_
  refine XK.if_ rfl (fun h => ?_) (fun h => ?_)
  ·
    refine XK.seq ?_

    refine XK.region ?_
    refine xk_move rfl (by decide) ?_
    refine xk_assign rfl (by decide) ?_
    refine xk_assign rfl (by decide) ?_
    refine XK.nilN ?_
    refine XK.ret ?_
    refine XK.norm ?_
    exact absurd hok h
  ·
    refine XK.skip ?_
    refine XK.norm ?_
    refine XK.seq ?_

    refine XK.region ?_
    refine xk_move rfl (by decide) ?_
    refine xk_move rfl (by decide) ?_
    refine xk_callN (f := 24) (fi := []) (ca := []) (by kernel_rfl) rfl rfl (by decide) (RowO ((packZ m t p k).1 :: zs)) (fun w1 st => rowO_any (packZ m t p k).1 A n c zs w1 (hs.le (st.le (by simp))) hn hn2) ?_
    rintro _ _ q1 ⟨A1, c1, rfl, rfl⟩ _
    simp only [List.cons_append, List.nil_append]
    refine xk_assign rfl (by decide) ?_
    refine xk_assign rfl (by decide) ?_
    refine XK.nilN ?_
    refine XK.ret ?_
    refine XK.norm ?_
    refine XK.still [] [] [0] (by simp) rfl (by decide) (by decide) fun q _ _ hfr => ?_
    refine XK.ret2 rfl rfl rfl fun w1 st => ⟨⟨_, _, ⟨w1, q.Z⟩, rfl, rfl, ⟨_, _, rfl, rfl⟩, st.newR (by simp) (by simp) (hfr (by simp) (by simp))⟩, st.below (by simp)⟩

theorem message14_any (a1 a2 a3 a4 a5 a6 : Int) (w : World) (h1 : -9223372036854775808 ≤ a1 ∧ a1 ≤ 9223372036854775807) (h2 : -9223372036854775808 ≤ a2 ∧ a2 ≤ 9223372036854775807) (h3 : -9223372036854775808 ≤ a3 ∧ a3 ≤ 9223372036854775807) (h4 : -9223372036854775808 ≤ a4 ∧ a4 ≤ 9223372036854775807) (h5 : -9223372036854775808 ≤ a5 ∧ a5 ≤ 9223372036854775807) (h6 : -9223372036854775808 ≤ a6 ∧ a6 ≤ 9223372036854775807) :
    Calls Try.prog 11 #[.agg #[.int .i64 a1, .int .i64 a2, .int .i64 a3, .int .i64 a4, .int .i64 a5, .int .i64 a6]] w (RtW WordsOk w) := by
  refine XK.enter (vs := [.agg #[.int .i64 a1, .int .i64 a2, .int .i64 a3, .int .i64 a4, .int .i64 a5, .int .i64 a6]]) Try.func11 rfl Try.ntmps11 (by simp) ?_
  refine XK.seq ?_

  refine XK.region ?_
  refine xk_box rfl (by decide) fun g1 => ?_
  refine xk_assign rfl (by decide) ?_
  refine XK.nilN ?_
  refine XK.seq ?_

  refine XK.region ?_
  refine xk_slice (el := 3) (sz := 1) (zs := [.int .i64 0]) (by kernel_rfl) (zeroB_of (by kernel_rfl)) (by kernel_rfl) rfl (by decide) (by decide) rfl (by simp [fillL, setN, Value.cells, List.range_succ, List.set]; rfl) (by decide) fun g2 => ?_
  refine xk_assign rfl (by decide) ?_
  refine XK.nilN ?_
  refine XK.seq ?_

  refine XK.region ?_
  refine xk_move rfl (by decide) ?_
  refine xk_field (off := 1) (by kernel_rfl) rfl (by decide) ?_
  refine xk_ld rfl ?_
  refine xk_callV (f := 9) (fi := []) (ca := []) (by kernel_rfl) rfl rfl (by decide) (fun v => ∃ r : Int, v = .int .i64 r ∧ 0 ≤ r ∧ r < 8) (fun w1 st => pick14_any _ _ w1 (by assumption) (by omega)) fun v hv => ?_
  obtain ⟨r1, rfl, hr01, hr11⟩ := hv
  obtain ⟨p, hp, hpb⟩ : ∃ p : Int, ([.int .i64 17, .int .i64 20, .int .i64 22, .int .i64 17, .int .i64 20, .int .i64 22, .int .i64 16, .int .i64 19] : List Value)[r1.toNat]? = some (.int .i64 p) ∧ 0 ≤ p ∧ p < 256 := by
    rcases (by omega : r1.toNat = 0 ∨ r1.toNat = 1 ∨ r1.toNat = 2 ∨ r1.toNat = 3 ∨ r1.toNat = 4 ∨ r1.toNat = 5 ∨ r1.toNat = 6 ∨ r1.toNat = 7) with h | h | h | h | h | h | h | h <;> rw [h] <;> exact ⟨_, rfl, by decide⟩
  refine xk_at r1.toNat r1.toNat (el := 3) (sz := 1) (by kernel_rfl) (by kernel_rfl) rfl rfl (by omega) (by omega) (by omega) (by decide) ?_
  refine xk_load (by kernel_rfl) rfl (Rd.blk 0 rfl hp) (by decide) ?_
  refine xk_assign rfl (by decide) ?_
  refine XK.nilN ?_
  refine XK.seq ?_

  refine XK.region ?_
  refine xk_slice (el := 3) (sz := 1) (zs := [.int .i64 0]) (by kernel_rfl) (zeroB_of (by kernel_rfl)) (by kernel_rfl) rfl (by decide) (by decide) rfl (by simp [fillL, setN, Value.cells, List.range_succ, List.set]; rfl) (by decide) fun g3 => ?_
  refine xk_assign rfl (by decide) ?_
  refine XK.nilN ?_
  refine XK.seq ?_

  refine XK.region ?_
  refine xk_move rfl (by decide) ?_
  refine xk_field (off := 2) (by kernel_rfl) rfl (by decide) ?_
  refine xk_ld rfl ?_
  refine xk_callV (f := 9) (fi := []) (ca := []) (by kernel_rfl) rfl rfl (by decide) (fun v => ∃ r : Int, v = .int .i64 r ∧ 0 ≤ r ∧ r < 9) (fun w1 st => pick14_any _ _ w1 (by assumption) (by omega)) fun v hv => ?_
  obtain ⟨r2, rfl, hr02, hr12⟩ := hv
  obtain ⟨m, hm, hmb⟩ : ∃ m : Int, ([.int .i64 4, .int .i64 4, .int .i64 5, .int .i64 7, .int .i64 7, .int .i64 6, .int .i64 0, .int .i64 1, .int .i64 2] : List Value)[r2.toNat]? = some (.int .i64 m) ∧ 0 ≤ m ∧ m < 256 := by
    rcases (by omega : r2.toNat = 0 ∨ r2.toNat = 1 ∨ r2.toNat = 2 ∨ r2.toNat = 3 ∨ r2.toNat = 4 ∨ r2.toNat = 5 ∨ r2.toNat = 6 ∨ r2.toNat = 7 ∨ r2.toNat = 8) with h | h | h | h | h | h | h | h | h <;> rw [h] <;> exact ⟨_, rfl, by decide⟩
  refine xk_at r2.toNat r2.toNat (el := 3) (sz := 1) (by kernel_rfl) (by kernel_rfl) rfl rfl (by omega) (by omega) (by omega) (by decide) ?_
  refine xk_load (by kernel_rfl) rfl (Rd.blk 0 rfl hm) (by decide) ?_
  refine xk_assign rfl (by decide) ?_
  refine XK.nilN ?_
  refine XK.cut (fun e R H => ∃ m : Int, (0 ≤ m ∧ m < 256) ∧ e = [(6, .int .i64 m), (4, .int .i64 p), (1, .pointer (some ⟨g1, 0, none⟩))] ∧ R = [all w] ∧ H = [HP.blk g1 41 [.int .i64 a1, .int .i64 a2, .int .i64 a3, .int .i64 a4, .int .i64 a5, .int .i64 a6]]) ?_ ?_
  ·
    refine XK.seq ?_

    refine XK.region ?_
    refine xk_move rfl (by decide) ?_
    refine xk_eql rfl rfl (by decide) ?_
    refine xk_move rfl (by decide) ?_
    (first | refine xk_split (t := 25) rfl (fun hg => ?_) (fun hg => ?_) | refine xk_splitB (t := 25) rfl (fun hg => ?_) (fun hg => ?_))
    ·
      refine xk_guardT rfl rfl ?_; refine xk_field (off := 2) (by kernel_rfl) rfl (by decide) ?_
      refine xk_guardT rfl rfl ?_; refine xk_ld rfl ?_
      refine xk_guardT rfl rfl ?_; refine xk_callV (f := 9) (fi := []) (ca := []) (by kernel_rfl) rfl rfl (by decide) (fun v => ∃ r : Int, v = .int .i64 r ∧ 0 ≤ r ∧ r < 9) (fun w1 st => pick14_any _ _ w1 (by assumption) (by omega)) fun v hv => ?_
      obtain ⟨r3, rfl, hr03, hr13⟩ := hv
      refine xk_guardT rfl rfl ?_; refine xk_lss rfl rfl (by decide) ?_
      (first | refine xk_pickT rfl rfl (by decide) ?_ | refine xk_pickF rfl rfl (by decide) ?_)
      refine XK.nilN ?_
      refine XK.if_ rfl (fun h => ?_) (fun h => ?_)
      ·

        refine XK.region ?_
        refine xk_assign rfl (by decide) ?_
        refine XK.nilN ?_
        exact XK.weak [2] rfl (by decide) (by simp) (XK.envS [(6, .int .i64 7), (4, .int .i64 p), (1, .pointer (some ⟨g1, 0, none⟩))] (XK.meet ⟨7, by decide, rfl, rfl, rfl⟩))
      ·
        refine XK.skip ?_
        refine XK.norm ?_
        exact XK.weak [2] rfl (by decide) (by simp) (XK.envS [(6, .int .i64 m), (4, .int .i64 p), (1, .pointer (some ⟨g1, 0, none⟩))] (XK.meet ⟨m, hmb, rfl, rfl, rfl⟩))
    ·
      refine xk_guardF rfl rfl rfl (by decide) ?_
      refine xk_guardF rfl rfl rfl (by decide) ?_
      refine xk_guardF rfl rfl rfl (by decide) ?_
      refine xk_guardF rfl rfl rfl (by decide) ?_
      (first | refine xk_pickT rfl rfl (by decide) ?_ | refine xk_pickF rfl rfl (by decide) ?_)
      refine XK.nilN ?_
      refine XK.cond rfl (fun h => by cases h) (fun _ => ?_)
      refine XK.skip ?_
      refine XK.norm ?_
      exact XK.weak [2] rfl (by decide) (by simp) (XK.envS [(6, .int .i64 m), (4, .int .i64 p), (1, .pointer (some ⟨g1, 0, none⟩))] (XK.meet ⟨m, hmb, rfl, rfl, rfl⟩))
  rintro _ _ _ ⟨m, hmb, rfl, rfl, rfl⟩
  refine XK.seq ?_

  refine XK.region ?_
  refine xk_move rfl (by decide) ?_
  refine xk_move rfl (by decide) ?_
  refine xk_field (off := 4) (by kernel_rfl) rfl (by decide) ?_
  refine xk_ld rfl ?_
  refine xk_callV (f := 9) (fi := []) (ca := []) (by kernel_rfl) rfl rfl (by decide) (fun v => ∃ r : Int, v = .int .i64 r ∧ 0 ≤ r ∧ r < 1024) (fun w1 st => pick14_any _ _ w1 (by assumption) (by omega)) fun v hv => ?_
  obtain ⟨r4, rfl, hr04, hr14⟩ := hv
  refine xk_buildS (zs := [.int .i64 0, .int .i64 0, .int .i64 0, .int .i64 0]) (L := [(0, 1), (1, 1), (2, 1), (3, 1)]) (zeroB_of (by kernel_rfl)) (by kernel_rfl) rfl (by simp [fillL, setN, Value.cells]; rfl) (by decide) ?_
  refine xk_callN (f := 13) (fi := []) (ca := []) (by kernel_rfl) rfl rfl (by decide) (CmdO ((packZ m 0 p r4).1 :: [])) (fun w1 st => commandO_any m 0 p r4 none 0 0 [] w1 (SlS.nil _ _) rfl (by omega) (pack_ok hmb hpb ⟨hr04, hr14⟩)) ?_
  rintro _ _ q1 ⟨A1, c1, rfl, rfl⟩ _
  simp only [List.cons_append, List.nil_append]
  refine xk_move rfl (by decide) ?_
  refine xk_extract rfl rfl (by decide) ?_
  refine xk_extract rfl rfl (by decide) ?_
  refine xk_assign rfl (by decide) ?_
  refine xk_assign rfl (by decide) ?_
  refine XK.nilN ?_
  refine XK.weakR (R' := [all w]) (by simp) ?_
  generalize hl0 : (packZ m 0 p r4).1 :: [] = l at *
  have hU0 : U32s l := by rw [← hl0]; intro x hx; simp at hx; subst hx; exact pack_bd _ _ _ _
  have hln : l.length = 1 := by rw [← hl0]; rfl
  clear hl0
  refine XK.cut (fun e R H => ∃ (l : List Int) (A : Option Addr) (c : Nat), (1 ≤ l.length ∧ l.length ≤ 2) ∧ U32s l ∧ e = [(7, .slice A l.length c), (6, .int .i64 m), (1, .pointer (some ⟨g1, 0, none⟩))] ∧ R = [all w] ∧ H = [HP.own 54 1 (.slice A l.length c) l.length (u32Cells l), HP.blk g1 41 [.int .i64 a1, .int .i64 a2, .int .i64 a3, .int .i64 a4, .int .i64 a5, .int .i64 a6]]) ?_ ?_
  ·
    refine XK.seq ?_

    refine XK.region ?_
    refine xk_move rfl (by decide) ?_
    refine xk_neq rfl rfl (by decide) ?_
    refine xk_move rfl (by decide) ?_
    (first | refine xk_split (t := 43) rfl (fun hg => ?_) (fun hg => ?_) | refine xk_splitB (t := 43) rfl (fun hg => ?_) (fun hg => ?_))
    ·
      refine xk_guardT rfl rfl ?_; refine xk_move rfl (by decide) ?_
      refine xk_guardT rfl rfl ?_; refine xk_neq rfl rfl (by decide) ?_
      (first | refine xk_pickT rfl rfl (by decide) ?_ | refine xk_pickF rfl rfl (by decide) ?_)
      refine XK.nilN ?_
      refine XK.if_ rfl (fun h => ?_) (fun h => ?_)
      ·

        refine XK.region ?_
        refine xk_move rfl (by decide) ?_
        refine xk_field (off := 3) (by kernel_rfl) rfl (by decide) ?_
        refine xk_ld rfl ?_
        refine xk_callV (f := 9) (fi := []) (ca := []) (by kernel_rfl) rfl rfl (by decide) (fun v => ∃ r : Int, v = .int .i64 r ∧ 0 ≤ r ∧ r < 10) (fun w1 st => pick14_any _ _ w1 (by assumption) (by omega)) fun v hv => ?_
        obtain ⟨r5, rfl, hr05, hr15⟩ := hv
        refine xk_conv (ds := .int .i64) (by kernel_rfl) (by kernel_rfl) rfl (wrap_u32 (by omega)) (by decide) ?_
        refine xk_slice (el := 54) (sz := 1) (zs := [.int .u32 0]) (by kernel_rfl) (zeroB_of (by kernel_rfl)) (by kernel_rfl) rfl (by decide) (by decide) rfl (by simp [fillL, setN, Value.cells, List.range_succ, List.set]; rfl) (by decide) fun g4 => ?_
        refine xk_appendT 1 1 4 1 (n' := l.length + 1) (el := 54) (by kernel_rfl) (by kernel_rfl) (by decide) rfl rfl rfl (sl_blk 0 rfl rfl) (by simp [Value.oneCell']) rfl (by omega) (by omega) (by decide) fun A2 c2 => ?_
        dsimp only [List.set]
        refine xk_assign rfl (by decide) ?_
        refine XK.nilN ?_
        have hX := U32s.snoc (x := r5) hU0 (by omega)
        have e1 : u32Cells l ++ [.int .u32 r5] = u32Cells (l ++ [r5]) := u32Cells_snoc l r5
        exact XK.weak [1, 2] rfl (by decide) (by simp) (XK.envS [(7, .slice A2 (l.length + 1) c2), (6, .int .i64 m), (1, .pointer (some ⟨g1, 0, none⟩))] (XK.meet ⟨l ++ [r5], A2, c2, ⟨by simp, by simp; omega⟩, hX, by simp, rfl, by simp [e1]⟩))
      ·
        refine XK.skip ?_
        refine XK.norm ?_
        exact XK.envS [(7, .slice A1 l.length c1), (6, .int .i64 m), (1, .pointer (some ⟨g1, 0, none⟩))] (XK.meet ⟨l, _, _, ⟨by omega, by omega⟩, hU0, rfl, rfl, rfl⟩)
    ·
      refine xk_guardF rfl rfl rfl (by decide) ?_
      refine xk_guardF rfl rfl rfl (by decide) ?_
      (first | refine xk_pickT rfl rfl (by decide) ?_ | refine xk_pickF rfl rfl (by decide) ?_)
      refine XK.nilN ?_
      refine XK.cond rfl (fun h => by cases h) (fun _ => ?_)
      refine XK.skip ?_
      refine XK.norm ?_
      exact XK.envS [(7, .slice A1 l.length c1), (6, .int .i64 m), (1, .pointer (some ⟨g1, 0, none⟩))] (XK.meet ⟨l, _, _, ⟨by omega, by omega⟩, hU0, rfl, rfl, rfl⟩)
  rintro _ _ _ ⟨l, A1, c1, hln, hU0, rfl, rfl, rfl⟩
  refine XK.cut (fun e R H => ∃ (l : List Int) (A : Option Addr) (c : Nat), (1 ≤ l.length ∧ l.length ≤ 3) ∧ U32s l ∧ e = [(7, .slice A l.length c), (6, .int .i64 m), (1, .pointer (some ⟨g1, 0, none⟩))] ∧ R = [all w] ∧ H = [HP.own 54 1 (.slice A l.length c) l.length (u32Cells l), HP.blk g1 41 [.int .i64 a1, .int .i64 a2, .int .i64 a3, .int .i64 a4, .int .i64 a5, .int .i64 a6]]) ?_ ?_
  ·
    refine XK.seq ?_

    refine XK.region ?_
    refine xk_move rfl (by decide) ?_
    refine xk_eql rfl rfl (by decide) ?_
    refine xk_move rfl (by decide) ?_
    (first | refine xk_split (t := 56) rfl (fun hg => ?_) (fun hg => ?_) | refine xk_splitB (t := 56) rfl (fun hg => ?_) (fun hg => ?_))
    ·
      refine xk_guardF rfl rfl rfl (by decide) ?_
      refine xk_guardF rfl rfl rfl (by decide) ?_
      (first | refine xk_pickT rfl rfl (by decide) ?_ | refine xk_pickF rfl rfl (by decide) ?_)
      refine XK.nilN ?_
      refine XK.cond rfl (fun _ => ?_) (fun h => by cases h)

      refine XK.region ?_
      refine xk_move rfl (by decide) ?_
      refine xk_field (off := 4) (by kernel_rfl) rfl (by decide) ?_
      refine xk_ld rfl ?_
      refine xk_callV (f := 9) (fi := []) (ca := []) (by kernel_rfl) rfl rfl (by decide) (fun v => ∃ r : Int, v = .int .i64 r ∧ 0 ≤ r ∧ r < 4) (fun w1 st => pick14_any _ _ w1 (by assumption) (by omega)) fun v hv => ?_
      obtain ⟨r6, rfl, hr06, hr16⟩ := hv
      refine xk_conv (ds := .int .i64) (by kernel_rfl) (by kernel_rfl) rfl (wrap_u32 (by omega)) (by decide) ?_
      refine xk_slice (el := 54) (sz := 1) (zs := [.int .u32 0]) (by kernel_rfl) (zeroB_of (by kernel_rfl)) (by kernel_rfl) rfl (by decide) (by decide) rfl (by simp [fillL, setN, Value.cells, List.range_succ, List.set]; rfl) (by decide) fun g5 => ?_
      refine xk_appendT 1 1 4 1 (n' := l.length + 1) (el := 54) (by kernel_rfl) (by kernel_rfl) (by decide) rfl rfl rfl (sl_blk 0 rfl rfl) (by simp [Value.oneCell']) rfl (by omega) (by omega) (by decide) fun A2 c2 => ?_
      dsimp only [List.set]
      refine xk_assign rfl (by decide) ?_
      refine XK.nilN ?_
      have hX := U32s.snoc (x := r6) hU0 (by omega)
      have e1 : u32Cells l ++ [.int .u32 r6] = u32Cells (l ++ [r6]) := u32Cells_snoc l r6
      exact XK.weak [1, 2] rfl (by decide) (by simp) (XK.envS [(7, .slice A2 (l.length + 1) c2), (6, .int .i64 m), (1, .pointer (some ⟨g1, 0, none⟩))] (XK.meet ⟨l ++ [r6], A2, c2, ⟨by simp, by simp; omega⟩, hX, by simp, rfl, by simp [e1]⟩))
    ·
      refine xk_guardT rfl rfl ?_; refine xk_move rfl (by decide) ?_
      refine xk_guardT rfl rfl ?_; refine xk_eql rfl rfl (by decide) ?_
      (first | refine xk_pickT rfl rfl (by decide) ?_ | refine xk_pickF rfl rfl (by decide) ?_)
      refine XK.nilN ?_
      refine XK.if_ rfl (fun h => ?_) (fun h => ?_)
      ·

        refine XK.region ?_
        refine xk_move rfl (by decide) ?_
        refine xk_field (off := 4) (by kernel_rfl) rfl (by decide) ?_
        refine xk_ld rfl ?_
        refine xk_callV (f := 9) (fi := []) (ca := []) (by kernel_rfl) rfl rfl (by decide) (fun v => ∃ r : Int, v = .int .i64 r ∧ 0 ≤ r ∧ r < 4) (fun w1 st => pick14_any _ _ w1 (by assumption) (by omega)) fun v hv => ?_
        obtain ⟨r6, rfl, hr06, hr16⟩ := hv
        refine xk_conv (ds := .int .i64) (by kernel_rfl) (by kernel_rfl) rfl (wrap_u32 (by omega)) (by decide) ?_
        refine xk_slice (el := 54) (sz := 1) (zs := [.int .u32 0]) (by kernel_rfl) (zeroB_of (by kernel_rfl)) (by kernel_rfl) rfl (by decide) (by decide) rfl (by simp [fillL, setN, Value.cells, List.range_succ, List.set]; rfl) (by decide) fun g6 => ?_
        refine xk_appendT 1 1 4 1 (n' := l.length + 1) (el := 54) (by kernel_rfl) (by kernel_rfl) (by decide) rfl rfl rfl (sl_blk 0 rfl rfl) (by simp [Value.oneCell']) rfl (by omega) (by omega) (by decide) fun A2 c2 => ?_
        dsimp only [List.set]
        refine xk_assign rfl (by decide) ?_
        refine XK.nilN ?_
        have hX := U32s.snoc (x := r6) hU0 (by omega)
        have e1 : u32Cells l ++ [.int .u32 r6] = u32Cells (l ++ [r6]) := u32Cells_snoc l r6
        exact XK.weak [1, 2] rfl (by decide) (by simp) (XK.envS [(7, .slice A2 (l.length + 1) c2), (6, .int .i64 m), (1, .pointer (some ⟨g1, 0, none⟩))] (XK.meet ⟨l ++ [r6], A2, c2, ⟨by simp, by simp; omega⟩, hX, by simp, rfl, by simp [e1]⟩))
      ·
        refine XK.skip ?_
        refine XK.norm ?_
        exact XK.envS [(7, .slice A1 l.length c1), (6, .int .i64 m), (1, .pointer (some ⟨g1, 0, none⟩))] (XK.meet ⟨l, _, _, ⟨by omega, by omega⟩, hU0, rfl, rfl, rfl⟩)
  rintro _ _ _ ⟨l, A1, c1, hln, hU0, rfl, rfl, rfl⟩
  refine XK.cut (fun e R H => ∃ (l : List Int) (A : Option Addr) (c : Nat), l.length ≤ 4 ∧ U32s l ∧ (∃ A0 n0 c0, (l.length ≤ n0 ∧ ∃ l0 : List Int, l0.length = n0 ∧ l = l0.take l.length ∧ (0 < l.length → (∃ b off, A0 = some ⟨b, off, none⟩) → A = A0) ∧ H = [HP.own 54 1 (.slice A0 n0 c0) n0 (u32Cells l0)])) ∧ e = [(7, .slice A l.length c)] ∧ R = [all w]) ?_ ?_
  ·
    refine XK.seq ?_

    refine XK.region ?_
    refine xk_field (off := 5) (by kernel_rfl) rfl (by decide) ?_
    refine xk_ld rfl ?_
    refine xk_callV (f := 9) (fi := []) (ca := []) (by kernel_rfl) rfl rfl (by decide) (fun v => ∃ r : Int, v = .int .i64 r ∧ 0 ≤ r ∧ r < 30) (fun w1 st => pick14_any _ _ w1 (by assumption) (by omega)) fun v hv => ?_
    obtain ⟨r7, rfl, hr07, hr17⟩ := hv
    refine XK.nilN ?_
    refine XK.block ?_
    refine XK.seq ?_

    refine XK.region ?_
    refine xk_eql rfl rfl (by decide) ?_
    refine xk_assign rfl (by decide) ?_
    refine XK.nilN ?_
    refine XK.if_ rfl (fun h => ?_) (fun h => ?_)
    ·

      refine XK.region ?_
      refine xk_move rfl (by decide) ?_
      refine xk_slice (el := 54) (sz := 1) (zs := [.int .u32 0]) (by kernel_rfl) (zeroB_of (by kernel_rfl)) (by kernel_rfl) rfl (by decide) (by decide) rfl (by simp [fillL, setN, Value.cells, List.range_succ, List.set]; rfl) (by decide) fun g7 => ?_
      refine xk_appendT 1 1 4 1 (n' := l.length + 1) (el := 54) (by kernel_rfl) (by kernel_rfl) (by decide) rfl rfl rfl (sl_blk 0 rfl rfl) (by simp [Value.oneCell']) rfl (by omega) (by omega) (by decide) fun A2 c2 => ?_
      dsimp only [List.set]
      refine xk_assign rfl (by decide) ?_
      refine XK.nilN ?_
      have hX := U32s.snoc (x := 0) hU0 (by omega)
      exact XK.weak [1] rfl (by decide) (by simp) (XK.envS [(7, .slice A2 (l.length + 1) c2)] (XK.meet ⟨l ++ [0], A2, c2, by simp; omega, hX, ⟨A2, l.length + 1, c2, by simp, l ++ [0], by simp, List.take_length.symm, fun _ _ => rfl, by rw [← u32Cells_snoc]⟩, by simp, rfl⟩))
    ·
      refine XK.seq ?_

      refine XK.region ?_
      refine xk_eql rfl rfl (by decide) ?_
      refine xk_assign rfl (by decide) ?_
      refine XK.nilN ?_
      refine XK.if_ rfl (fun h => ?_) (fun h => ?_)
      ·
        refine XK.ownCap 0 rfl fun hcap => ?_
        have hcap : l.length - 1 ≤ c1 := by omega

        refine XK.region ?_
        refine xk_move rfl (by decide) ?_
        refine xk_move rfl (by decide) ?_
        refine xk_len (el := 54) (by kernel_rfl) rfl (by decide) ?_
        refine xk_sub rfl rfl (wrap_in (by omega)) (by decide) ?_
        refine xk_sliceH (l.length - 1) (el := 54) (sz := 1) (by kernel_rfl) (by kernel_rfl) rfl rfl (by omega) hcap (by decide) fun A3 hA3 => ?_
        refine xk_assign rfl (by decide) ?_
        refine XK.nilN ?_
        have hln2 : (l.take (l.length - 1)).length = l.length - 1 := by rw [List.length_take]; omega
        exact XK.weak [0] rfl (by decide) (by simp) (XK.envS [(7, .slice A3 (l.length - 1) c1)] (XK.meet ⟨l.take (l.length - 1), A3, c1, by omega, U32s.take hU0, ⟨A1, l.length, c1, by omega, l, rfl, by rw [hln2], fun h0 hA => hA3 (by omega) hA, rfl⟩, by rw [hln2], rfl⟩))
      ·
        refine XK.seq ?_

        refine XK.region ?_
        refine xk_eql rfl rfl (by decide) ?_
        refine xk_assign rfl (by decide) ?_
        refine XK.nilN ?_
        refine XK.if_ rfl (fun h => ?_) (fun h => ?_)
        ·
          refine XK.ownAt 0 rfl (by omega) ?_
          rintro ⟨gb, rfl⟩
          refine XK.openOwn 0 rfl fun cs hcl hct hnc hcm => ?_
          dsimp only [List.set]
          obtain ⟨x0, l1, rfl⟩ : ∃ x r, l = x :: r := by
            cases l with
            | nil => exact absurd hln.1 (by simp)
            | cons x r => exact ⟨x, r, rfl⟩
          have hct1 : cs.take (l1.length + 1) = u32Cells (x0 :: l1) := by simpa using hct
          have hc0 : cs[0]? = some (.int .u32 x0) := by
            have := congrArg (fun z : List Value => z[0]?) hct1
            rw [show (cs.take (l1.length + 1))[0]? = cs[0]? by rw [List.getElem?_take]; simp] at this
            simpa [u32Cells] using this

          refine XK.region ?_
          refine xk_move rfl (by decide) ?_
          refine xk_move rfl (by decide) ?_
          refine xk_at 0 0 (el := 54) (sz := 1) (by kernel_rfl) (by kernel_rfl) rfl rfl (by rfl) (by simp) (by omega) (by decide) ?_
          refine xk_load (by kernel_rfl) rfl (Rd.blk 0 rfl hc0) (by decide) ?_
          refine xk_bits rfl rfl (fun w => run_or32 _ x0 268435456 w) (by simp) (by decide) ?_
          refine xk_at 0 0 (el := 54) (sz := 1) (by kernel_rfl) (by kernel_rfl) rfl rfl (by rfl) (by simp) (by omega) (by decide) ?_
          refine xk_store 0 rfl (by kernel_rfl) rfl rfl rfl (by simp at hcl; simp at hnc; omega) ?_; dsimp only [List.set]
          refine XK.nilN ?_
          refine XK.closeOwn 0 (n := l1.length + 1) (c := c1) (sz := 1) (xs := u32Cells ((x0 :: l1).set 0 (or32 x0 268435456))) rfl (by simpa using hcl) (by rw [Nat.mul_one, ← u32Cells_set, ← hct1, List.take_set]) hnc hcm ?_
          dsimp only [List.set]
          have hX := U32s.set (i := 0) (x := or32 x0 268435456) hU0 (or32_bd _ _)
          exact XK.weak [0] rfl (by decide) (by simp) (XK.envS [(7, .slice (some ⟨gb, 0, none⟩) (l1.length + 1) c1)] (XK.meet ⟨(x0 :: l1).set 0 (or32 x0 268435456), (some ⟨gb, 0, none⟩), c1, by simp at hln ⊢; omega, hX, ⟨_, l1.length + 1, c1, by simp, (x0 :: l1).set 0 (or32 x0 268435456), by simp, List.take_length.symm, fun _ _ => rfl, rfl⟩, by simp, rfl⟩))
        ·
          refine XK.seq ?_

          refine XK.region ?_
          refine xk_eql rfl rfl (by decide) ?_
          refine xk_assign rfl (by decide) ?_
          refine XK.nilN ?_
          refine XK.if_ rfl (fun h => ?_) (fun h => ?_)
          ·
            refine XK.ownAt 0 rfl (by omega) ?_
            rintro ⟨gb, rfl⟩
            refine XK.openOwn 0 rfl fun cs hcl hct hnc hcm => ?_
            dsimp only [List.set]
            obtain ⟨x0, l1, rfl⟩ : ∃ x r, l = x :: r := by
              cases l with
              | nil => exact absurd hln.1 (by simp)
              | cons x r => exact ⟨x, r, rfl⟩
            have hct1 : cs.take (l1.length + 1) = u32Cells (x0 :: l1) := by simpa using hct
            have hc0 : cs[0]? = some (.int .u32 x0) := by
              have := congrArg (fun z : List Value => z[0]?) hct1
              rw [show (cs.take (l1.length + 1))[0]? = cs[0]? by rw [List.getElem?_take]; simp] at this
              simpa [u32Cells] using this

            refine XK.region ?_
            refine xk_move rfl (by decide) ?_
            refine xk_move rfl (by decide) ?_
            refine xk_at 0 0 (el := 54) (sz := 1) (by kernel_rfl) (by kernel_rfl) rfl rfl (by rfl) (by simp) (by omega) (by decide) ?_
            refine xk_load (by kernel_rfl) rfl (Rd.blk 0 rfl hc0) (by decide) ?_
            refine xk_bits rfl rfl (fun w => run_or32 _ x0 256 w) (by simp) (by decide) ?_
            refine xk_at 0 0 (el := 54) (sz := 1) (by kernel_rfl) (by kernel_rfl) rfl rfl (by rfl) (by simp) (by omega) (by decide) ?_
            refine xk_store 0 rfl (by kernel_rfl) rfl rfl rfl (by simp at hcl; simp at hnc; omega) ?_; dsimp only [List.set]
            refine XK.nilN ?_
            refine XK.closeOwn 0 (n := l1.length + 1) (c := c1) (sz := 1) (xs := u32Cells ((x0 :: l1).set 0 (or32 x0 256))) rfl (by simpa using hcl) (by rw [Nat.mul_one, ← u32Cells_set, ← hct1, List.take_set]) hnc hcm ?_
            dsimp only [List.set]
            have hX := U32s.set (i := 0) (x := or32 x0 256) hU0 (or32_bd _ _)
            exact XK.weak [0] rfl (by decide) (by simp) (XK.envS [(7, .slice (some ⟨gb, 0, none⟩) (l1.length + 1) c1)] (XK.meet ⟨(x0 :: l1).set 0 (or32 x0 256), (some ⟨gb, 0, none⟩), c1, by simp at hln ⊢; omega, hX, ⟨_, l1.length + 1, c1, by simp, (x0 :: l1).set 0 (or32 x0 256), by simp, List.take_length.symm, fun _ _ => rfl, rfl⟩, by simp, rfl⟩))
          ·
            refine XK.skip ?_
            refine XK.norm ?_
            exact XK.weak [0] rfl (by decide) (by simp) (XK.envS [(7, .slice A1 l.length c1)] (XK.meet ⟨l, A1, c1, by omega, hU0, ⟨A1, l.length, c1, by omega, l, rfl, List.take_length.symm, fun _ _ => rfl, rfl⟩, rfl, rfl⟩))
  rintro _ _ _ ⟨l, A, c, hln, hU0, ⟨A0, n0, c0, ⟨hl0, l0, rfl, hlt, hA, rfl⟩⟩, rfl, rfl⟩
  refine XK.seq ?_

  refine XK.region ?_
  refine xk_move rfl (by decide) ?_
  refine xk_assign rfl (by decide) ?_
  refine XK.nilN ?_
  refine XK.ret ?_
  refine XK.norm ?_
  refine XK.still [] [0] [] (by simp) rfl (by decide) (by decide) fun q hq _ hfr => ?_
  obtain ⟨F0, sf0, zf0⟩ := hq 0 _ (by simp) rfl
  obtain ⟨A9, c9, hB, hs9⟩ := SlS.of_own (Y := q.Z) sf0 zf0
  injection hB with e1 e2 e3
  subst A9
  have hs8 := hs9.takeP hl0 hA
  rw [Nat.mul_one, show (u32Cells l0).take l.length = u32Cells l by rw [u32Cells, ← List.map_take, ← hlt]; rfl] at hs8
  refine XK.ret1 rfl rfl fun w1 st => ⟨⟨_, rfl, l, A, c, rfl, by omega, hU0, SlS.le hs8 (st.fresh_le (by simp) (hfr (by simp) (by simp)))⟩, st.below (by simp)⟩

end Go.Proofs.Ytbcfbafpeidifaa
/- chapter 14's example. -/
namespace Go.Proofs.Ytbcfbafpeidifaa
set_option linter.all false
open Go.RowKit
theorem soc1_dec : decF soc1 (zeroW soc1) (zeroW soc1) [] 0 [(packZ 5 0 17 0).1, 9] = (-4, 0, 0) := by decide +kernel
theorem soc1_pack : (packZ 5 0 17 0).2 = 0 := by decide +kernel
theorem soc1_u32 : U32s [(packZ 5 0 17 0).1, 9] := by
  intro x hx
  simp at hx
  rcases hx with rfl | rfl
  · exact pack_bd _ _ _ _
  · omega

theorem shown14_any (w : World) : Calls Try.prog 6 #[] w (Rt (.bool true) w) := by
  refine XK.enter (vs := []) Try.func6 rfl Try.ntmps6 (by simp) ?_
  refine XK.seq ?_

  refine XK.region ?_
  refine xk_assign rfl (by decide) ?_
  refine XK.nilN ?_
  refine XK.seq ?_

  refine XK.region ?_
  refine xk_buildS (zs := [.int .i64 0, .int .i64 0, .bool false]) (L := [(0, 1), (1, 1), (2, 1)]) (zeroB_of (by kernel_rfl)) (by kernel_rfl) rfl (by simp [fillL, setN, Value.cells]; rfl) (by decide) ?_
  refine xk_slice (el := 57) (sz := 3) (zs := [.int .i64 0, .int .i64 0, .bool false]) (by kernel_rfl) (zeroB_of (by kernel_rfl)) (by kernel_rfl) rfl (by decide) (by decide) rfl (by simp [fillL, setN, Value.cells, List.range_succ, List.set]; rfl) (by decide) fun g1 => ?_
  refine xk_buildS (zs := [.slice none 0 0, .slice none 0 0, .slice none 0 0, .slice none 0 0]) (L := [(0, 1), (1, 1), (2, 1), (3, 1)]) (zeroB_of (by kernel_rfl)) (by kernel_rfl) rfl (by simp [fillL, setN, Value.cells]; rfl) (by decide) ?_
  refine xk_alloc (cs := [.slice none 0 0, .slice none 0 0, .slice none 0 0, .slice none 0 0]) (zeroB_of (by kernel_rfl)) (by decide) fun g2 => ?_
  (first | (refine xk_storeN 0 rfl rfl rfl (by kernel_rfl) (by simp [Value.cells, Value.oneCell']) (by simp [Value.cells]) ?_) | (refine xk_storeN 1 rfl rfl rfl (by kernel_rfl) (by simp [Value.cells, Value.oneCell']) (by simp [Value.cells]) ?_) | (refine xk_storeN 2 rfl rfl rfl (by kernel_rfl) (by simp [Value.cells, Value.oneCell']) (by simp [Value.cells]) ?_) | (refine xk_storeN 3 rfl rfl rfl (by kernel_rfl) (by simp [Value.cells, Value.oneCell']) (by simp [Value.cells]) ?_) | (refine xk_storeN 4 rfl rfl rfl (by kernel_rfl) (by simp [Value.cells, Value.oneCell']) (by simp [Value.cells]) ?_) | (refine xk_storeN 5 rfl rfl rfl (by kernel_rfl) (by simp [Value.cells, Value.oneCell']) (by simp [Value.cells]) ?_) | (refine xk_storeN 6 rfl rfl rfl (by kernel_rfl) (by simp [Value.cells, Value.oneCell']) (by simp [Value.cells]) ?_) | (refine xk_storeN 7 rfl rfl rfl (by kernel_rfl) (by simp [Value.cells, Value.oneCell']) (by simp [Value.cells]) ?_) | (refine xk_storeN 8 rfl rfl rfl (by kernel_rfl) (by simp [Value.cells, Value.oneCell']) (by simp [Value.cells]) ?_)); simp only [putN, Value.cells, List.set, List.take, List.drop, List.nil_append, List.append_nil, List.length_cons, List.length_nil, List.cons_append, Nat.reduceAdd]
  refine XK.nilN ?_
  refine XK.seq ?_

  refine XK.region ?_
  refine xk_buildS (zs := [.int .i64 0, .int .i64 0, .int .i64 0, .int .i64 0]) (L := [(0, 1), (1, 1), (2, 1), (3, 1)]) (zeroB_of (by kernel_rfl)) (by kernel_rfl) rfl (by simp [fillL, setN, Value.cells]; rfl) (by decide) ?_
  refine xk_slice (el := 54) (sz := 1) (zs := [.int .u32 0]) (by kernel_rfl) (zeroB_of (by kernel_rfl)) (by kernel_rfl) rfl (by decide) (by decide) rfl (by simp [fillL, setN, Value.cells, List.range_succ, List.set]; rfl) (by decide) fun g3 => ?_
  refine xk_call [] (f := 13) (fi := []) (ca := []) (by kernel_rfl) rfl rfl (by decide) (by simp) (CmdOk ((packZ 5 0 17 0).1 :: [9])) (fun w1 st => command_any 5 0 17 0 (some ⟨g3, 0, none⟩) 1 1 [9] w1 (st.slS (i := 0) rfl rfl) rfl (by omega) soc1_pack) ?_
  rintro _ w1 q1 ⟨Al, cl, rfl, hl⟩ hf _ _
  have hl := hl.le hf
  clear hf
  refine xk_move rfl (by decide) ?_
  refine xk_extract rfl rfl (by decide) ?_
  refine xk_extract rfl rfl (by decide) ?_
  refine xk_assign rfl (by decide) ?_
  refine xk_assign rfl (by decide) ?_
  refine XK.nilN ?_
  refine XK.cut (fun e R H => ∃ g4, e = [(5, .pointer (some ⟨g4, 0, none⟩)), (4, .int .i32 (-4)), (3, .int .i64 0)] ∧ R = [all w] ∧ H = [HP.blk g4 43 [.int .u8 0, .int .i64 0]]) ?_ ?_
  ·

    refine XK.draw 10 (by kernel_rfl) (by kernel_rfl) ?_
    refine XA.dA 0 rfl rfl rfl (does_ldN 4 rfl) ?_
    refine XA.dA 1 rfl rfl rfl (does_ldN 4 rfl) ?_
    refine XA.dA 3 rfl rfl rfl (does_move rfl) ?_
    refine XA.maybe0 (j := 8) 5 43 [.int .u8 0, .int .i64 0] fun M => ?_
    refine XA.maybe 2 8 rfl rfl (zeroB_of (by kernel_rfl)) (by decide) (by kernel_rfl) (by kernel_rfl) (fun _ h => h) (fun M => ?_)
    refine xk_call [] (f := 8) (fi := []) (ca := []) (by kernel_rfl) (ev_M M rfl rfl) (evs_M M rfl rfl) (by decide) (by simp) (fun v w w' => StR (fresh w w') (zeroW soc1) (zeroW soc1) v) (fun w1 st => start_any soc1 none (some ⟨g1, 0, none⟩) none none 0 1 0 0 w1 soc1_okT) ?_
    rintro _ w1 qs hS0 hf _ _
    have hS0 := StR.le hS0 hf
    clear hf
    obtain ⟨Z0, Zk0, Z1, Zk1, Z2, Zk2, Z3, Zk3, Z4, Zk4, Z5, Zk5, rfl, e1, e2, e3, e4, e5, e6⟩ := hS0
    have hS0 : StR qs (zeroW soc1) (zeroW soc1) (.agg #[.slice Z0 (zeroW soc1).d.length Zk0, .slice Z1 (zeroW soc1).c.length Zk1, .slice Z2 (zeroW soc1).l.length Zk2, .slice Z3 (zeroW soc1).d.length Zk3, .slice Z4 (zeroW soc1).c.length Zk4, .slice Z5 (zeroW soc1).l.length Zk5]) := ⟨Z0, Zk0, Z1, Zk1, Z2, Zk2, Z3, Zk3, Z4, Zk4, Z5, Zk5, rfl, e1, e2, e3, e4, e5, e6⟩
    clear e1 e2 e3 e4 e5 e6
    refine XK.nil ?_; refine XK.thenN ?_; refine XA.backM (by decide) rfl (fun _ h => h.tailR) ?_
    refine XA.maybe 4 8 rfl rfl (zeroB_of (by kernel_rfl)) (by decide) (by kernel_rfl) (by kernel_rfl) (fun _ h => h.tailR) (fun M => ?_)
    refine xk_callR (f := 10) (fi := []) (ca := []) (by kernel_rfl) (ev_M M rfl rfl) (evs_M M rfl rfl) (by decide) (v0 := actV (decF soc1 (zeroW soc1) (zeroW soc1) [] 0 [(packZ 5 0 17 0).1, 9])) (fun w1 st => decide_any (all w1) qs soc1 none (some ⟨g1, 0, none⟩) none none _ _ _ _ _ _ _ _ Z0 Z1 Z2 Z3 Z4 Z5 _ Zk0 _ Zk1 _ Zk2 _ Zk3 _ Zk4 _ Zk5 (zeroW soc1) (zeroW soc1) none 0 0 [] 0 Al 2 cl [(packZ 5 0 17 0).1, 9] w1 (soc1_W (st.unM.slS (i := 2) rfl rfl)).P soc1_okT (Piece.Le.refl _) hS0 (st.le (by simp)) (SlS.nil _ _) rfl (by omega) (hl.le (st.le (by simp))) rfl (by omega) soc1_u32) ?_
    rw [soc1_dec]
    simp only [actV]
    refine XK.nil ?_; refine XK.thenN ?_; refine XA.backM (by decide) rfl (fun _ h => h.tailR) ?_
    cases M
    · dsimp only [emM, hmM, lmM, fmM]
      refine XA.do_ 5 rfl rfl rfl (by decide) (does_move rfl) (by kernel_rfl) (fun _ _ _ h => h) (fun _ h => h.tailR) ?_
      refine XA.do_ 6 rfl rfl rfl (by decide) (does_extract rfl rfl) (by kernel_rfl) (fun _ _ _ h => h) (fun _ h => h.tailR) ?_
      refine XA.do_ 7 rfl rfl rfl (by decide) (does_extract rfl rfl) (by kernel_rfl) (fun _ _ _ h => h) (fun _ h => h.tailR) ?_
      refine XA.next 8 rfl (by kernel_rfl) ?_
      refine xk_alloc (cs := [.int .u8 0, .int .i64 0]) (zeroB_of (by kernel_rfl)) (by decide) fun g4 => ?_
      refine XK.nil ?_; refine XK.thenN ?_; refine XA.back (fun _ h => h.tailR.tail) ?_
      refine XA.do_ 9 rfl rfl rfl (by decide) (does_assign rfl) (by kernel_rfl) (fun _ _ _ h => h) (fun _ h => h.tailR.tail) ?_
      refine XA.next 10 rfl (by kernel_rfl) ?_
      (first | (refine xk_storeN 0 rfl rfl rfl (by kernel_rfl) (by simp [Value.cells, Value.oneCell']) (by simp [Value.cells]) ?_) | (refine xk_storeN 1 rfl rfl rfl (by kernel_rfl) (by simp [Value.cells, Value.oneCell']) (by simp [Value.cells]) ?_) | (refine xk_storeN 2 rfl rfl rfl (by kernel_rfl) (by simp [Value.cells, Value.oneCell']) (by simp [Value.cells]) ?_) | (refine xk_storeN 3 rfl rfl rfl (by kernel_rfl) (by simp [Value.cells, Value.oneCell']) (by simp [Value.cells]) ?_) | (refine xk_storeN 4 rfl rfl rfl (by kernel_rfl) (by simp [Value.cells, Value.oneCell']) (by simp [Value.cells]) ?_) | (refine xk_storeN 5 rfl rfl rfl (by kernel_rfl) (by simp [Value.cells, Value.oneCell']) (by simp [Value.cells]) ?_) | (refine xk_storeN 6 rfl rfl rfl (by kernel_rfl) (by simp [Value.cells, Value.oneCell']) (by simp [Value.cells]) ?_) | (refine xk_storeN 7 rfl rfl rfl (by kernel_rfl) (by simp [Value.cells, Value.oneCell']) (by simp [Value.cells]) ?_) | (refine xk_storeN 8 rfl rfl rfl (by kernel_rfl) (by simp [Value.cells, Value.oneCell']) (by simp [Value.cells]) ?_)); simp only [putN, Value.cells, List.set, List.take, List.drop, List.nil_append, List.append_nil, List.length_cons, List.length_nil, List.cons_append, Nat.reduceAdd]
      refine XA.bt ?_
      refine XA.done (by kernel_rfl) ?_
      refine XK.norm ?_
      exact XK.weakR (by simp) (XK.weak [0] rfl (by decide) (fun _ h => h) (XK.envS [(5, .pointer (some ⟨g4, 0, none⟩)), (4, .int .i32 (-4)), (3, .int .i64 0)] (XK.meet ⟨g4, rfl, rfl, rfl⟩)))
    · rename_i g4
      dsimp only [emM, hmM, lmM, fmM]
      refine XA.do_ 5 rfl rfl rfl (by decide) (does_move rfl) (by kernel_rfl) (fun _ _ _ h => h) (fun _ h => h.tailR.tail) ?_
      refine XA.do_ 6 rfl rfl rfl (by decide) (does_extract rfl rfl) (by kernel_rfl) (fun _ _ _ h => h) (fun _ h => h.tailR.tail) ?_
      refine XA.do_ 7 rfl rfl rfl (by decide) (does_extract rfl rfl) (by kernel_rfl) (fun _ _ _ h => h) (fun _ h => h.tailR.tail) ?_
      refine XA.do_ 9 rfl rfl rfl (by decide) (does_assign rfl) (by kernel_rfl) (fun _ _ _ h => h) (fun _ h => h.tailR.tail) ?_
      refine XA.next 10 rfl (by kernel_rfl) ?_
      (first | (refine xk_storeN 0 rfl rfl rfl (by kernel_rfl) (by simp [Value.cells, Value.oneCell']) (by simp [Value.cells]) ?_) | (refine xk_storeN 1 rfl rfl rfl (by kernel_rfl) (by simp [Value.cells, Value.oneCell']) (by simp [Value.cells]) ?_) | (refine xk_storeN 2 rfl rfl rfl (by kernel_rfl) (by simp [Value.cells, Value.oneCell']) (by simp [Value.cells]) ?_) | (refine xk_storeN 3 rfl rfl rfl (by kernel_rfl) (by simp [Value.cells, Value.oneCell']) (by simp [Value.cells]) ?_) | (refine xk_storeN 4 rfl rfl rfl (by kernel_rfl) (by simp [Value.cells, Value.oneCell']) (by simp [Value.cells]) ?_) | (refine xk_storeN 5 rfl rfl rfl (by kernel_rfl) (by simp [Value.cells, Value.oneCell']) (by simp [Value.cells]) ?_) | (refine xk_storeN 6 rfl rfl rfl (by kernel_rfl) (by simp [Value.cells, Value.oneCell']) (by simp [Value.cells]) ?_) | (refine xk_storeN 7 rfl rfl rfl (by kernel_rfl) (by simp [Value.cells, Value.oneCell']) (by simp [Value.cells]) ?_) | (refine xk_storeN 8 rfl rfl rfl (by kernel_rfl) (by simp [Value.cells, Value.oneCell']) (by simp [Value.cells]) ?_)); simp only [putN, Value.cells, List.set, List.take, List.drop, List.nil_append, List.append_nil, List.length_cons, List.length_nil, List.cons_append, Nat.reduceAdd]
      refine XA.bt ?_
      refine XA.done (by kernel_rfl) ?_
      refine XK.norm ?_
      exact XK.weakR (by simp) (XK.weak [0] rfl (by decide) (fun _ h => h) (XK.envS [(5, .pointer (some ⟨g4, 0, none⟩)), (4, .int .i32 (-4)), (3, .int .i64 0)] (XK.meet ⟨g4, rfl, rfl, rfl⟩)))
  rintro _ _ _ ⟨g4, rfl, rfl, rfl⟩
  refine XK.cutB 0 (True) ?_ ?_
  · skip

    refine XK.region ?_
    refine xk_move rfl (by decide) ?_
    refine xk_eql rfl rfl (by decide) ?_
    refine xk_move rfl (by decide) ?_
    (first | refine xk_split (t := 25) rfl (fun hg => ?_) (fun hg => ?_) | refine xk_splitB (t := 25) rfl (fun hg => ?_) (fun hg => ?_))
    ·
      refine xk_guardT rfl rfl ?_; refine xk_move rfl (by decide) ?_
      refine xk_guardT rfl rfl ?_; refine xk_eql rfl rfl (by decide) ?_
      (first | refine xk_pickT rfl rfl (by decide) ?_ | refine xk_pickF rfl rfl (by decide) ?_)
      refine xk_move rfl (by decide) ?_
      (first | refine xk_split (t := 29) rfl (fun hg => ?_) (fun hg => ?_) | refine xk_splitB (t := 29) rfl (fun hg => ?_) (fun hg => ?_))
      ·
        refine xk_guardT rfl rfl ?_; refine xk_ldN 2 rfl ?_
        refine xk_guardT rfl rfl ?_; refine xk_buildS (zs := [.int .u8 0, .int .i64 0]) (L := [(0, 1), (1, 1)]) (zeroB_of (by kernel_rfl)) (by kernel_rfl) rfl (by simp [fillL, setN, Value.cells]; rfl) (by decide) ?_
        refine xk_guardT rfl rfl ?_; refine xk_eqlS (xs := [.int .u8 0, .int .i64 0]) (ys := [.int .u8 0, .int .i64 0]) (by kernel_rfl) rfl rfl (by decide) ?_
        (first | refine xk_pickT rfl rfl (by decide) ?_ | refine xk_pickF rfl rfl (by decide) ?_)
        refine xk_assign rfl (by decide) ?_
        refine XK.nilN ?_
        exact XK.meetB (by repeat (first | exact trivial | refine ⟨rfl, ?_⟩)) (by first | (refine get_iff rfl ?_; omega) | (refine get_iff rfl ?_; simp_all; done) | (refine get_false rfl ?_; first | omega | (simp_all; done)) | (refine get_true rfl ?_; first | omega | (simp_all; done)) | (refine get_bool rfl ?_; simp_all; done) | (refine get_iff rfl ⟨fun hh => ?_, fun hh => ?_⟩ <;> first | omega | (simp_all; done) | (simp_all; omega)) | (exfalso; omega))
      ·
        refine xk_guardF rfl rfl rfl (by decide) ?_
        refine xk_guardF rfl rfl rfl (by decide) ?_
        refine xk_guardF rfl rfl rfl (by decide) ?_
        (first | refine xk_pickT rfl rfl (by decide) ?_ | refine xk_pickF rfl rfl (by decide) ?_)
        refine xk_assign rfl (by decide) ?_
        refine XK.nilN ?_
        exact XK.meetB (by repeat (first | exact trivial | refine ⟨rfl, ?_⟩)) (by first | (refine get_iff rfl ?_; omega) | (refine get_iff rfl ?_; simp_all; done) | (refine get_false rfl ?_; first | omega | (simp_all; done)) | (refine get_true rfl ?_; first | omega | (simp_all; done)) | (refine get_bool rfl ?_; simp_all; done) | (refine get_iff rfl ⟨fun hh => ?_, fun hh => ?_⟩ <;> first | omega | (simp_all; done) | (simp_all; omega)) | (exfalso; omega))
    ·
      refine xk_guardF rfl rfl rfl (by decide) ?_
      refine xk_guardF rfl rfl rfl (by decide) ?_
      (first | refine xk_pickT rfl rfl (by decide) ?_ | refine xk_pickF rfl rfl (by decide) ?_)
      refine xk_move rfl (by decide) ?_
      refine xk_guardF rfl rfl rfl (by decide) ?_
      refine xk_guardF rfl rfl rfl (by decide) ?_
      refine xk_guardF rfl rfl rfl (by decide) ?_
      (first | refine xk_pickT rfl rfl (by decide) ?_ | refine xk_pickF rfl rfl (by decide) ?_)
      refine xk_assign rfl (by decide) ?_
      refine XK.nilN ?_
      exact XK.meetB (by repeat (first | exact trivial | refine ⟨rfl, ?_⟩)) (by first | (refine get_iff rfl ?_; omega) | (refine get_iff rfl ?_; simp_all; done) | (refine get_false rfl ?_; first | omega | (simp_all; done)) | (refine get_true rfl ?_; first | omega | (simp_all; done)) | (refine get_bool rfl ?_; simp_all; done) | (refine get_iff rfl ⟨fun hh => ?_, fun hh => ?_⟩ <;> first | omega | (simp_all; done) | (simp_all; omega)) | (exfalso; omega))
  refine XK.ret ?_
  refine XK.norm ?_
  exact XK.ret1 rfl rfl fun w1 st => ⟨by simp, st.below (by simp)⟩

end Go.Proofs.Ytbcfbafpeidifaa
/- chapter 14's laws: asks, and what is told of them. No walk in sight. -/
namespace Go.Proofs.Ytbcfbafpeidifaa
set_option linter.all false
open Go.RowKit
structure AskT where
  a1 : Int
  a2 : Int
  a3 : Int
  a4 : Int
  a5 : Int
  a6 : Int
def AskT.cells (a : AskT) : List Value := [.int .i64 a.a1, .int .i64 a.a2, .int .i64 a.a3, .int .i64 a.a4, .int .i64 a.a5, .int .i64 a.a6]
def I64 (a : Int) : Prop := -9223372036854775808 ≤ a ∧ a ≤ 9223372036854775807
structure AskT.ok (a : AskT) : Prop where
  h1 : I64 a.a1
  h2 : I64 a.a2
  h3 : I64 a.a3
  h4 : I64 a.a4
  h5 : I64 a.a5
  h6 : I64 a.a6
theorem SlS.ask {w : World} {A : Option Addr} {n : Nat} {qs : List AskT} (h : SlS (all w) 6 A n (qs.flatMap AskT.cells)) {k : Nat} {a : AskT} (hk : qs[k]? = some a) (hn : k < n) : ∃ b off, A = some ⟨b, off, none⟩ ∧ ROn w b (off + k * 6) a.cells := by
  obtain ⟨b, off, hA, hz, hc⟩ := SlS.at_ h hn
  refine ⟨b, off, hA, hz, fun f u hu => hc f u ?_⟩
  have hf : f < 6 := by
    rcases Nat.lt_or_ge f a.cells.length with h | h
    · exact h
    · rw [List.getElem?_eq_none h] at hu; cases hu
  rw [flat_get AskT.cells 6 qs (fun x _ => rfl) k f a hk hf, hu]
theorem StR.six {q : Piece} {x y : Wsh} {X0 X1 X2 X3 X4 X5 : Option Addr} {k0 k1 k2 k3 k4 k5 : Nat} (h : StR q x y (.agg #[.slice X0 x.d.length k0, .slice X1 x.c.length k1, .slice X2 x.l.length k2, .slice X3 y.d.length k3, .slice X4 y.c.length k4, .slice X5 y.l.length k5])) :
    SlS q 1 X0 x.d.length (boolCells x.d) ∧ SlS q 1 X1 x.c.length (boolCells x.c) ∧ SlS q 1 X2 x.l.length (boolCells x.l) ∧ SlS q 1 X3 y.d.length (boolCells y.d) ∧ SlS q 1 X4 y.c.length (boolCells y.c) ∧ SlS q 1 X5 y.l.length (boolCells y.l) := by
  obtain ⟨C1, j1, C2, j2, C3, j3, D1, i1, D2, i2, D3, i3, he, s1, s2, s3, s4, s5, s6⟩ := h
  simp only [Value.agg.injEq, Array.mk.injEq, List.cons.injEq, Value.slice.injEq] at he
  obtain ⟨⟨rfl, _⟩, ⟨rfl, _⟩, ⟨rfl, _⟩, ⟨rfl, _⟩, ⟨rfl, _⟩, ⟨rfl, _⟩, _⟩ := he
  exact ⟨s1, s2, s3, s4, s5, s6⟩
theorem setW_len (x : Wsh) (k id : Int) : (setW x k id).d.length = x.d.length ∧ (setW x k id).c.length = x.c.length ∧ (setW x k id).l.length = x.l.length := by
  unfold setW
  split
  · exact ⟨setBL_len _ _ _, rfl, rfl⟩
  · split
    · exact ⟨rfl, setBL_len _ _ _, rfl⟩
    · split
      · exact ⟨rfl, rfl, setBL_len _ _ _⟩
      · exact ⟨rfl, rfl, rfl⟩
theorem setW_sm {x : Wsh} (h : x.sm) (k id : Int) : (setW x k id).sm := by
  obtain ⟨h1, h2, h3⟩ := setW_len x k id
  exact ⟨by rw [h1]; exact h.d, by rw [h2]; exact h.c, by rw [h3]; exact h.l⟩
theorem doneX_sm {x : Wsh} (h : x.sm) (ag : Nat) (k id : Int) : (doneX x ag k id).sm := by
  unfold doneX; split
  · exact setW_sm h k id
  · exact h
theorem doneY_sm {x : Wsh} (h : x.sm) (ag : Nat) (k id : Int) : (doneY x ag k id).sm := by
  unfold doneY; split
  · exact h
  · exact setW_sm h k id
theorem zeroW_sm {s : Soc} (h : s.okT) : (zeroW s).sm := by
  have h1 := h.nc
  have h2 := h.nd
  have h3 := h.nr
  exact ⟨by simp [zeroW]; omega, by simp [zeroW]; omega, by simp [zeroW]; omega⟩
/-- what only asks has a status, and nothing is to be done -/
theorem dec_zero {s : Soc} {x y : Wsh} {wt : List Int} {ag : Nat} {l : List Int} {st : Int} (h : readF s l = (st, 0, 0)) : decF s x y wt ag l = (st, 0, 0) := by
  unfold decF
  rw [h, if_pos (.inr (.inl rfl))]
end Go.Proofs.Ytbcfbafpeidifaa
/- chapter 14: what is switched on, and off again. No walk in sight. -/
namespace Go.Proofs.Ytbcfbafpeidifaa
set_option linter.all false
open Go.RowKit
/-! wishes -/
section
variable {s : Soc} {r : Nat} {p m on off kn kf n : Int}
/-! what is told -/
theorem dec_bad {x y : Wsh} {wt : List Int} {ag : Nat} {l : List Int} {st : Int} (hr : readF s l = (st, 0, 0)) : decF s x y wt ag l = (st, 0, 0) := dec_zero hr
end
section
variable {s : Soc} {r : Nat} {p m on off kn kf n : Int} {a b : Nat}
end
end Go.Proofs.Ytbcfbafpeidifaa
/- chapter 14: the token of a message, and its type. No walk in sight. -/
namespace Go.Proofs.Ytbcfbafpeidifaa
set_option linter.all false
open Go.RowKit
theorem wrapN {n : Nat} (h : n < 4294967296) : IntKind.u32.wrap (n : Int) = n := by
  first | exact wrap_u32 (by omega) | skip
theorem ofIntN (n : Nat) : BitVec.ofInt 32 (n : Int) = BitVec.ofNat 32 n := by
  apply BitVec.eq_of_toNat_eq
  simp
theorem getZ_bv (x : BitVec 32) (low many : Nat) (hl : low ≤ 31) (mk : Nat) (hm : maskZ many 0 = (mk : Int)) : getZ (x.toNat : Int) low many = (((x >>> low) &&& BitVec.ofNat 32 mk).toNat : Int) := by
  unfold getZ and32
  rw [hm, ofIntN]
  have e : (Int.fdiv (x.toNat : Int) (2 ^ min ((low : Nat) : Int).toNat 32)) = ((x.toNat / 2 ^ low : Nat) : Int) := by
    rw [Int.toNat_natCast, Nat.min_eq_left (by omega)]
    rw [Int.fdiv_eq_ediv_of_nonneg _ (by exact_mod_cast Nat.zero_le _)]
    norm_cast
  rw [e, ofIntN]
  have e2 : BitVec.ofNat 32 (x.toNat / 2 ^ low) = x >>> low := by
    apply BitVec.eq_of_toNat_eq
    rw [BitVec.toNat_ofNat, BitVec.toNat_ushiftRight, Nat.shiftRight_eq_div_pow]
    exact Nat.mod_eq_of_lt (Nat.lt_of_le_of_lt (Nat.div_le_self _ _) x.isLt)
  rw [e2, wrapN (BitVec.isLt _)]
/-- fields are alike where the bits are -/
theorem field_same (x y : BitVec 32) (low many mk : Nat) (hl : low ≤ 31) (hm : maskZ many 0 = (mk : Int)) (hmk : ∀ i, i < 32 → (BitVec.ofNat 32 mk).getLsbD i = true → i < many) (h : ∀ j, low ≤ j → j < low + many → x.getLsbD j = y.getLsbD j) : getZ (x.toNat : Int) low many = getZ (y.toNat : Int) low many := by
  rw [getZ_bv x low many hl mk hm, getZ_bv y low many hl mk hm]
  congr 2
  apply BitVec.eq_of_getLsbD_eq
  intro i hi
  rw [BitVec.getLsbD_and, BitVec.getLsbD_and, BitVec.getLsbD_ushiftRight, BitVec.getLsbD_ushiftRight]
  cases hb : (BitVec.ofNat 32 mk).getLsbD i with
  | false => simp
  | true => rw [h (low + i) (by omega) (by have := hmk i hi hb; omega)]
theorem tok_bit (x : BitVec 32) (t : Nat) (ht : t < 1024) (j : Nat) (hj : ¬ (18 ≤ j ∧ j < 28)) : ((x &&& ~~~ BitVec.ofNat 32 268173312) ||| BitVec.ofNat 32 (t * 262144)).getLsbD j = x.getLsbD j := by
  by_cases hj2 : j < 32
  · have e1 : (BitVec.ofNat 32 268173312).getLsbD j = false := by
      have : ∀ j : Nat, j < 32 → ¬ (18 ≤ j ∧ j < 28) → (BitVec.ofNat 32 268173312).getLsbD j = false := by decide
      exact this j hj2 hj
    have e2 : (BitVec.ofNat 32 (t * 262144)).getLsbD j = false := by
      rw [BitVec.getLsbD_ofNat]
      have : (t * 262144).testBit j = false := by
        rw [show t * 262144 = t <<< 18 by rw [Nat.shiftLeft_eq]]
        rw [Nat.testBit_shiftLeft]
        by_cases h18 : 18 ≤ j
        · have : 28 ≤ j := by omega
          rw [Nat.testBit_lt_two_pow (Nat.lt_of_lt_of_le ht (by
            have : 2 ^ 10 ≤ 2 ^ (j - 18) := Nat.pow_le_pow_right (by omega) (by omega)
            omega))]
          simp
        · simp [h18]
      rw [this]; simp
    rw [BitVec.getLsbD_or, BitVec.getLsbD_and, BitVec.getLsbD_not, e1, e2]
    simp [hj2]
  · rw [BitVec.getLsbD_of_ge _ _ (by omega), BitVec.getLsbD_of_ge _ _ (by omega)]
theorem typ_bit (x : BitVec 32) (t : Nat) (ht : t < 4) (j : Nat) (hj : 8 ≤ j ∧ j < 10) : ((x &&& ~~~ BitVec.ofNat 32 768) ||| BitVec.ofNat 32 (t * 256)).getLsbD j = (BitVec.ofNat 32 t).getLsbD (j - 8) := by
  have e1 : (BitVec.ofNat 32 768).getLsbD j = true := by rcases (by omega : j = 8 ∨ j = 9) with rfl | rfl <;> decide
  rw [BitVec.getLsbD_or, BitVec.getLsbD_and, BitVec.getLsbD_not, e1]
  rcases (by omega : j = 8 ∨ j = 9) with rfl | rfl <;> rcases (by omega : t = 0 ∨ t = 1 ∨ t = 2 ∨ t = 3) with rfl | rfl | rfl | rfl <;> simp <;> decide
/-- the word with another token -/
def tokW (w t : Int) : Int := or32 (andN32 w 268173312) (IntKind.u32.wrap (t * 2 ^ min (18 : Int).toNat 32))
def typW (w t : Int) : Int := or32 (andN32 w 768) (IntKind.u32.wrap (t * 2 ^ min (8 : Int).toNat 32))
theorem or_and (x : BitVec 32) (c d : Nat) (hc : c < 4294967296) (hd : d < 4294967296) : or32 (andN32 (x.toNat : Int) (c : Int)) (d : Int) = (((x &&& ~~~ BitVec.ofNat 32 c) ||| BitVec.ofNat 32 d).toNat : Int) := by
  unfold or32 andN32
  rw [ofIntN, ofIntN, ofIntN]
  rw [show BitVec.ofNat 32 x.toNat = x by apply BitVec.eq_of_toNat_eq; simp]
  rw [wrapN (BitVec.isLt _), wrapN (BitVec.isLt _), ofIntN]
  rw [show BitVec.ofNat 32 (x &&& ~~~ BitVec.ofNat 32 c).toNat = x &&& ~~~ BitVec.ofNat 32 c by rw [BitVec.ofNat_toNat]; exact BitVec.setWidth_eq _]
theorem bv_of {w : Int} (h0 : 0 ≤ w) (h1 : w < 4294967296) : ∃ x : BitVec 32, w = (x.toNat : Int) := ⟨BitVec.ofNat 32 w.toNat, by rw [BitVec.toNat_ofNat, Nat.mod_eq_of_lt (by omega)]; omega⟩
theorem tokW_bv (x : BitVec 32) (t : Nat) (ht : t < 1024) : tokW (x.toNat : Int) t = (((x &&& ~~~ BitVec.ofNat 32 268173312) ||| BitVec.ofNat 32 (t * 262144)).toNat : Int) := by
  unfold tokW
  have e : IntKind.u32.wrap ((t : Int) * 2 ^ min (18 : Int).toNat 32) = ((t * 262144 : Nat) : Int) := by
    rw [show ((2 : Int) ^ min (18 : Int).toNat 32) = 262144 by decide, ← wrapN (n := t * 262144) (by omega)]
    congr 1
  rw [e]
  exact or_and x 268173312 (t * 262144) (by omega) (by omega)
theorem typW_bv (x : BitVec 32) (t : Nat) (ht : t < 4) : typW (x.toNat : Int) t = (((x &&& ~~~ BitVec.ofNat 32 768) ||| BitVec.ofNat 32 (t * 256)).toNat : Int) := by
  unfold typW
  have e : IntKind.u32.wrap ((t : Int) * 2 ^ min (8 : Int).toNat 32) = ((t * 256 : Nat) : Int) := by
    rw [show ((2 : Int) ^ min (8 : Int).toNat 32) = 256 by decide, ← wrapN (n := t * 256) (by omega)]
    congr 1
  rw [e]
  exact or_and x 768 (t * 256) (by omega) (by omega)
theorem mask4 : maskZ (4 : Nat) 0 = (15 : Nat) := by decide +kernel
theorem mask8 : maskZ (8 : Nat) 0 = (255 : Nat) := by decide +kernel
theorem mask2 : maskZ (2 : Nat) 0 = (3 : Nat) := by decide +kernel
theorem mk4 : ∀ i, i < 32 → (BitVec.ofNat 32 15).getLsbD i = true → i < 4 := by decide
theorem mk8 : ∀ i, i < 32 → (BitVec.ofNat 32 255).getLsbD i = true → i < 8 := by decide
theorem mk2 : ∀ i, i < 32 → (BitVec.ofNat 32 3).getLsbD i = true → i < 2 := by decide
/-- the token touches no other field -/
theorem tok_fields {w : Int} (h0 : 0 ≤ w) (h1 : w < 4294967296) {t : Nat} (ht : t < 1024) : getZ (tokW w t) 28 4 = getZ w 28 4 ∧ getZ (tokW w t) 0 8 = getZ w 0 8 ∧ getZ (tokW w t) 8 2 = getZ w 8 2 ∧ getZ (tokW w t) 10 8 = getZ w 10 8 := by
  obtain ⟨x, rfl⟩ := bv_of h0 h1
  rw [tokW_bv x t ht]
  exact ⟨field_same _ _ 28 4 15 (by omega) mask4 mk4 fun j h1 h2 => tok_bit x t ht j (by omega), field_same _ _ 0 8 255 (by omega) mask8 mk8 fun j h1 h2 => tok_bit x t ht j (by omega),
    field_same _ _ 8 2 3 (by omega) mask2 mk2 fun j h1 h2 => tok_bit x t ht j (by omega), field_same _ _ 10 8 255 (by omega) mask8 mk8 fun j h1 h2 => tok_bit x t ht j (by omega)⟩
theorem tok_read (s : Soc) {w : Int} (h0 : 0 ≤ w) (h1 : w < 4294967296) {t : Nat} (ht : t < 1024) (r : List Int) : readF s (tokW w t :: r) = readF s (w :: r) := by
  obtain ⟨a, b, c, d⟩ := tok_fields h0 h1 ht
  have e1 : unpackE (tokW w t) = unpackE w := by unfold unpackE; rw [a]
  have e2 : hTyp (tokW w t) = hTyp w := by unfold hTyp; rw [a, c]
  have e3 : hPro (tokW w t) = hPro w := by unfold hPro; rw [a, d]
  have e4 : hMsg (tokW w t) = hMsg w := by unfold hMsg; rw [a, b]
  unfold readF
  dsimp only
  rw [e1, e2, e3, e4]
theorem typ_field {w : Int} (h0 : 0 ≤ w) (h1 : w < 4294967296) {t : Nat} (ht : 0 < t ∧ t < 4) : getZ (typW w t) 8 2 ≠ 0 := by
  obtain ⟨x, rfl⟩ := bv_of h0 h1
  rw [typW_bv x t ht.2]
  have key := field_same ((x &&& ~~~ BitVec.ofNat 32 768) ||| BitVec.ofNat 32 (t * 256)) (BitVec.ofNat 32 (t * 256)) 8 2 3 (by omega) mask2 mk2 fun j h1 h2 => by
    rw [typ_bit x t ht.2 j ⟨h1, by omega⟩]
    rcases (by omega : j = 8 ∨ j = 9) with rfl | rfl <;> rcases (by omega : t = 1 ∨ t = 2 ∨ t = 3) with rfl | rfl | rfl <;> decide
  have e : ((8 : Nat) : Int) = 8 ∧ ((2 : Nat) : Int) = 2 := ⟨rfl, rfl⟩
  rw [show getZ _ 8 2 = getZ _ ((8 : Nat) : Int) ((2 : Nat) : Int) from rfl, key]
  rcases (by omega : t = 1 ∨ t = 2 ∨ t = 3) with rfl | rfl | rfl <;> decide +kernel
theorem typ_read (s : Soc) {w : Int} (h0 : 0 ≤ w) (h1 : w < 4294967296) {t : Nat} (ht : 0 < t ∧ t < 4) (r : List Int) : readF s (typW w t :: r) = (-10, 0, 0) := by
  unfold readF
  dsimp only
  rw [if_pos]
  by_cases h : getZ (typW w t) 28 4 ≠ 0
  · left; unfold unpackE; rw [if_pos h]; decide
  · right; unfold hTyp; rw [if_neg h]; exact typ_field h0 h1 ht
theorem tok_readZ (s : Soc) {w : Int} (h0 : 0 ≤ w) (h1 : w < 4294967296) {t : Int} (ht : 0 ≤ t ∧ t < 1024) (r : List Int) : readF s (tokW w t :: r) = readF s (w :: r) := by
  obtain ⟨k, rfl⟩ : ∃ k : Nat, t = (k : Int) := ⟨t.toNat, by omega⟩
  exact tok_read s h0 h1 (by omega) r
theorem typ_readZ (s : Soc) {w : Int} (h0 : 0 ≤ w) (h1 : w < 4294967296) {t : Int} (ht : 0 < t ∧ t < 4) (r : List Int) : readF s (typW w t :: r) = (-10, 0, 0) := by
  obtain ⟨k, rfl⟩ : ∃ k : Nat, t = (k : Int) := ⟨t.toNat, by omega⟩
  exact typ_read s h0 h1 (by omega) r
theorem tokW_bd (w t : Int) : 0 ≤ tokW w t ∧ tokW w t < 4294967296 := or32_bd _ _
theorem typW_bd (w t : Int) : 0 ≤ typW w t ∧ typW w t < 4294967296 := or32_bd _ _
theorem dec_cong {s : Soc} {x y : Wsh} {wt : List Int} {ag : Nat} {l l' : List Int} (h : readF s l = readF s l') : decF s x y wt ag l = decF s x y wt ag l' := by
  unfold decF; rw [h]
end Go.Proofs.Ytbcfbafpeidifaa
/- chapter 14: the token of a message changes nothing; another type is not right. -/
namespace Go.Proofs.Ytbcfbafpeidifaa
set_option linter.all false
open Go.RowKit

theorem u32_hd {x y : Int} {l : List Int} (hy : 0 ≤ y ∧ y < 4294967296) (h : U32s (x :: l)) : U32s (y :: l) := by
  intro z hz
  rcases List.mem_cons.1 hz with rfl | hz
  · exact hy
  · exact h z (List.mem_cons_of_mem _ hz)
set_option maxHeartbeats 2000000 in
theorem tokens_any (A : Option Addr) (n c : Nat) (zs : List Int) (Aw : Option Addr) (nw cw : Nat) (wt : List Int) (Aa : Option Addr) (na ca : Nat) (qs0 : List AskT) (tk : Int) (w : World) (h0 : SlS (all w) 1 A n (intCells zs)) (hz : I64s zs) (hn : n = zs.length) (hn2 : n ≤ 9223372036854775807) (hw : SlS (all w) 1 Aw nw (intCells wt)) (hzw : I64s wt) (hnw : nw = wt.length) (hnw2 : nw ≤ 9223372036854775807) (hqs : SlS (all w) 6 Aa na (qs0.flatMap AskT.cells)) (hq0 : ∀ a ∈ qs0, a.ok) (hna0 : na = qs0.length) (hna2 : na ≤ 9223372036854775807) (htk : I64 tk) :
    Calls Try.prog 5 #[.slice A n c, .slice Aw nw cw, .slice Aa na ca, .int .i64 tk] w (Rt (.bool true) w) := by
  refine XK.enter (vs := [.slice A n c, .slice Aw nw cw, .slice Aa na ca, .int .i64 tk]) Try.func5 rfl Try.ntmps5 (by simp) ?_
  refine XK.seq ?_

  refine XK.region ?_
  refine xk_assign rfl (by decide) ?_
  refine XK.nilN ?_
  refine XK.seq ?_

  refine XK.region ?_
  refine xk_callR (f := 6) (fi := []) (ca := []) (by kernel_rfl) rfl rfl (by decide) (fun w1 st => shown14_any w1) ?_
  refine xk_assign rfl (by decide) ?_
  refine XK.nilN ?_
  refine XK.seq ?_

  refine XK.region ?_
  refine xk_move rfl (by decide) ?_
  refine xk_call [] (f := 7) (fi := []) (ca := []) (by kernel_rfl) rfl rfl (by decide) (by simp) (fun v w w' => ∃ cs s, v = .agg cs ∧ SocR (slq (fresh w w')) s cs ∧ s.made) (fun w1 st => chip14_any A n c zs w1 (h0.le (st.le (by simp))) hz hn hn2) ?_
  rintro _ w1 q1 ⟨cs, s, rfl, hS, hm⟩ hf _ _
  obtain ⟨A1, n1, k1, A2, n2, k2, A3, n3, k3, A4, n4, k4, rfl, hSP⟩ := (hS.mono (slq_le hf)).P
  obtain ⟨rfl, rfl, rfl, rfl⟩ := hSP.len
  have hK := hm.okT
  clear hf hS
  refine xk_alloc (cs := [.slice none 0 0, .slice none 0 0, .slice none 0 0, .slice none 0 0]) (zeroB_of (by kernel_rfl)) (by decide) fun g1 => ?_
  (first | (refine xk_storeN 0 rfl rfl rfl (by kernel_rfl) (by simp [Value.cells, Value.oneCell']) (by simp [Value.cells]) ?_) | (refine xk_storeN 1 rfl rfl rfl (by kernel_rfl) (by simp [Value.cells, Value.oneCell']) (by simp [Value.cells]) ?_) | (refine xk_storeN 2 rfl rfl rfl (by kernel_rfl) (by simp [Value.cells, Value.oneCell']) (by simp [Value.cells]) ?_) | (refine xk_storeN 3 rfl rfl rfl (by kernel_rfl) (by simp [Value.cells, Value.oneCell']) (by simp [Value.cells]) ?_) | (refine xk_storeN 4 rfl rfl rfl (by kernel_rfl) (by simp [Value.cells, Value.oneCell']) (by simp [Value.cells]) ?_) | (refine xk_storeN 5 rfl rfl rfl (by kernel_rfl) (by simp [Value.cells, Value.oneCell']) (by simp [Value.cells]) ?_) | (refine xk_storeN 6 rfl rfl rfl (by kernel_rfl) (by simp [Value.cells, Value.oneCell']) (by simp [Value.cells]) ?_) | (refine xk_storeN 7 rfl rfl rfl (by kernel_rfl) (by simp [Value.cells, Value.oneCell']) (by simp [Value.cells]) ?_) | (refine xk_storeN 8 rfl rfl rfl (by kernel_rfl) (by simp [Value.cells, Value.oneCell']) (by simp [Value.cells]) ?_)); simp only [putN, Value.cells, List.set, List.take, List.drop, List.nil_append, List.append_nil, List.length_cons, List.length_nil, List.cons_append, Nat.reduceAdd]
  refine XK.nilN ?_
  refine XK.seq ?_
  refine XK.cutB 36 (na > 60 ∨ nw > 20) ?_ ?_
  · skip

    refine XK.region ?_
    refine xk_move rfl (by decide) ?_
    (first | refine xk_notD rfl (by decide) ?_ | refine xk_not rfl (by decide) ?_)
    refine xk_move rfl (by decide) ?_
    (first | refine xk_split (t := 27) rfl (fun hg => ?_) (fun hg => ?_) | refine xk_splitB (t := 27) rfl (fun hg => ?_) (fun hg => ?_))
    ·
      refine xk_guardF rfl rfl rfl (by decide) ?_
      refine xk_guardF rfl rfl rfl (by decide) ?_
      refine xk_guardF rfl rfl rfl (by decide) ?_
      (first | refine xk_pickT rfl rfl (by decide) ?_ | refine xk_pickF rfl rfl (by decide) ?_)
      refine xk_move rfl (by decide) ?_
      refine xk_guardF rfl rfl rfl (by decide) ?_
      refine xk_guardF rfl rfl rfl (by decide) ?_
      refine xk_guardF rfl rfl rfl (by decide) ?_
      (first | refine xk_pickT rfl rfl (by decide) ?_ | refine xk_pickF rfl rfl (by decide) ?_)
      refine XK.nilN ?_
      exact XK.meetB (by repeat (first | exact trivial | refine ⟨rfl, ?_⟩)) (by first | (refine get_iff rfl ?_; omega) | (refine get_false rfl ?_; first | exact id | omega) | (refine get_true rfl ?_; first | exact trivial | omega) | (refine get_iff rfl ⟨fun hh => ?_, fun hh => ?_⟩ <;> first | omega | exact trivial | (simp_all [eqVs, eqV]; done) | (simp_all [eqVs, eqV]; omega)) | (refine get_bool rfl ?_; simp [eqVs, eqV]; done) | (refine get_bool rfl ?_; simp_all [eqVs, eqV]; done) | (exfalso; simp_all; done) | (exfalso; simp_all; omega) | (exfalso; simp_all [eqVs, eqV]; done))
    ·
      refine xk_guardT rfl rfl ?_; refine xk_move rfl (by decide) ?_
      refine xk_guardT rfl rfl ?_; refine xk_len (el := 41) (by kernel_rfl) rfl (by decide) ?_
      refine xk_guardT rfl rfl ?_; refine xk_gtr rfl rfl (by decide) ?_
      (first | refine xk_pickT rfl rfl (by decide) ?_ | refine xk_pickF rfl rfl (by decide) ?_)
      refine xk_move rfl (by decide) ?_
      (first | refine xk_split (t := 32) rfl (fun hg => ?_) (fun hg => ?_) | refine xk_splitB (t := 32) rfl (fun hg => ?_) (fun hg => ?_))
      ·
        refine xk_guardF rfl rfl rfl (by decide) ?_
        refine xk_guardF rfl rfl rfl (by decide) ?_
        refine xk_guardF rfl rfl rfl (by decide) ?_
        (first | refine xk_pickT rfl rfl (by decide) ?_ | refine xk_pickF rfl rfl (by decide) ?_)
        refine XK.nilN ?_
        exact XK.meetB (by repeat (first | exact trivial | refine ⟨rfl, ?_⟩)) (by first | (refine get_iff rfl ?_; omega) | (refine get_false rfl ?_; first | exact id | omega) | (refine get_true rfl ?_; first | exact trivial | omega) | (refine get_iff rfl ⟨fun hh => ?_, fun hh => ?_⟩ <;> first | omega | exact trivial | (simp_all [eqVs, eqV]; done) | (simp_all [eqVs, eqV]; omega)) | (refine get_bool rfl ?_; simp [eqVs, eqV]; done) | (refine get_bool rfl ?_; simp_all [eqVs, eqV]; done) | (exfalso; simp_all; done) | (exfalso; simp_all; omega) | (exfalso; simp_all [eqVs, eqV]; done))
      ·
        refine xk_guardT rfl rfl ?_; refine xk_move rfl (by decide) ?_
        refine xk_guardT rfl rfl ?_; refine xk_len (el := 3) (by kernel_rfl) rfl (by decide) ?_
        refine xk_guardT rfl rfl ?_; refine xk_gtr rfl rfl (by decide) ?_
        (first | refine xk_pickT rfl rfl (by decide) ?_ | refine xk_pickF rfl rfl (by decide) ?_)
        refine XK.nilN ?_
        exact XK.meetB (by repeat (first | exact trivial | refine ⟨rfl, ?_⟩)) (by first | (refine get_iff rfl ?_; omega) | (refine get_false rfl ?_; first | exact id | omega) | (refine get_true rfl ?_; first | exact trivial | omega) | (refine get_iff rfl ⟨fun hh => ?_, fun hh => ?_⟩ <;> first | omega | exact trivial | (simp_all [eqVs, eqV]; done) | (simp_all [eqVs, eqV]; omega)) | (refine get_bool rfl ?_; simp [eqVs, eqV]; done) | (refine get_bool rfl ?_; simp_all [eqVs, eqV]; done) | (exfalso; simp_all; done) | (exfalso; simp_all; omega) | (exfalso; simp_all [eqVs, eqV]; done))
  refine XK.if_ rfl (fun hbig => ?_) (fun hbig => ?_)
  ·
    refine XK.seq ?_

    refine XK.region ?_
    refine xk_move rfl (by decide) ?_
    refine xk_assign rfl (by decide) ?_
    refine XK.nilN ?_
    refine XK.ret ?_
    refine XK.norm ?_
    exact XK.ret1 rfl rfl fun w1 st => ⟨rfl, st.below (by simp)⟩
  ·
    refine XK.skip ?_
    refine XK.norm ?_
    refine XK.seq ?_
    have hna : na ≤ 60 := by omega
    have hnc := hm.nc
    have hnd := hm.nd
    have hnr := hm.nr

    refine XK.region ?_
    refine xk_ldN 4 rfl ?_
    refine xk_call [] (f := 8) (fi := []) (ca := []) (by kernel_rfl) rfl rfl (by decide) (by simp) (fun v w w' => StR (fresh w w') (zeroW s) (zeroW s) v) (fun w1 st => start_any s A1 A2 A3 A4 k1 k2 k3 k4 w1 hK) ?_
    rintro _ w1 qs hS0 hf _ _
    have hS0 := StR.le hS0 hf
    clear hf
    obtain ⟨X0, Xk0, X1, Xk1, X2, Xk2, X3, Xk3, X4, Xk4, X5, Xk5, rfl, e1, e2, e3, e4, e5, e6⟩ := hS0
    have hS0 : StR qs (zeroW s) (zeroW s) (.agg #[.slice X0 (zeroW s).d.length Xk0, .slice X1 (zeroW s).c.length Xk1, .slice X2 (zeroW s).l.length Xk2, .slice X3 (zeroW s).d.length Xk3, .slice X4 (zeroW s).c.length Xk4, .slice X5 (zeroW s).l.length Xk5]) := ⟨X0, Xk0, X1, Xk1, X2, Xk2, X3, Xk3, X4, Xk4, X5, Xk5, rfl, e1, e2, e3, e4, e5, e6⟩
    clear e1 e2 e3 e4 e5 e6
    refine xk_alloc (cs := [.slice none 0 0, .slice none 0 0, .slice none 0 0, .slice none 0 0, .slice none 0 0, .slice none 0 0]) (zeroB_of (by kernel_rfl)) (by decide) fun g2 => ?_
    (first | (refine xk_storeN 0 rfl rfl rfl (by kernel_rfl) (by simp [Value.cells, Value.oneCell']) (by simp [Value.cells]) ?_) | (refine xk_storeN 1 rfl rfl rfl (by kernel_rfl) (by simp [Value.cells, Value.oneCell']) (by simp [Value.cells]) ?_) | (refine xk_storeN 2 rfl rfl rfl (by kernel_rfl) (by simp [Value.cells, Value.oneCell']) (by simp [Value.cells]) ?_) | (refine xk_storeN 3 rfl rfl rfl (by kernel_rfl) (by simp [Value.cells, Value.oneCell']) (by simp [Value.cells]) ?_) | (refine xk_storeN 4 rfl rfl rfl (by kernel_rfl) (by simp [Value.cells, Value.oneCell']) (by simp [Value.cells]) ?_) | (refine xk_storeN 5 rfl rfl rfl (by kernel_rfl) (by simp [Value.cells, Value.oneCell']) (by simp [Value.cells]) ?_) | (refine xk_storeN 6 rfl rfl rfl (by kernel_rfl) (by simp [Value.cells, Value.oneCell']) (by simp [Value.cells]) ?_) | (refine xk_storeN 7 rfl rfl rfl (by kernel_rfl) (by simp [Value.cells, Value.oneCell']) (by simp [Value.cells]) ?_) | (refine xk_storeN 8 rfl rfl rfl (by kernel_rfl) (by simp [Value.cells, Value.oneCell']) (by simp [Value.cells]) ?_)); simp only [putN, Value.cells, List.set, List.take, List.drop, List.nil_append, List.append_nil, List.length_cons, List.length_nil, List.cons_append, Nat.reduceAdd]
    refine XK.nilN ?_
    refine XK.seq ?_
    refine XK.seq ?_

    refine XK.region ?_
    refine xk_assign rfl (by decide) ?_
    refine XK.nilN ?_
    refine XK.envS [(12, .int .i64 0), (11, .pointer (some ⟨g2, 0, none⟩)), (10, .pointer (some ⟨g1, 0, none⟩)), (3, .int .i64 tk), (2, .slice Aa na ca), (1, .slice Aw nw cw)] ?_
    refine XK.block ?_
    refine XK.loop (fun m e R H => ∃ (k : Nat) (qx : Piece) (x y : Wsh) (X0 X1 X2 X3 X4 X5 : Option Addr) (Xk0 Xk1 Xk2 Xk3 Xk4 Xk5 : Nat), k ≤ na ∧ m = na - k ∧ x.sm ∧ y.sm ∧ StR qx x y (.agg #[.slice X0 x.d.length Xk0, .slice X1 x.c.length Xk1, .slice X2 x.l.length Xk2, .slice X3 y.d.length Xk3, .slice X4 y.c.length Xk4, .slice X5 y.l.length Xk5]) ∧ e = [(12, .int .i64 k), (11, .pointer (some ⟨g2, 0, none⟩)), (10, .pointer (some ⟨g1, 0, none⟩)), (3, .int .i64 tk), (2, .slice Aa na ca), (1, .slice Aw nw cw)] ∧ R = [qx, q1, all w] ∧ H = [HP.blk g2 37 [.slice X0 x.d.length Xk0, .slice X1 x.c.length Xk1, .slice X2 x.l.length Xk2, .slice X3 y.d.length Xk3, .slice X4 y.c.length Xk4, .slice X5 y.l.length Xk5], HP.blk g1 30 [.slice A1 s.clocks.length k1, .slice A2 s.domains.length k2, .slice A3 s.resets.length k3, .slice A4 s.devs.length k4]]) na ⟨0, qs, zeroW s, zeroW s, X0, X1, X2, X3, X4, X5, Xk0, Xk1, Xk2, Xk3, Xk4, Xk5, by omega, rfl, zeroW_sm hK, zeroW_sm hK, hS0, rfl, rfl, rfl⟩ fun m e R H hI => ?_
    obtain ⟨k, qx, x, y, X0, X1, X2, X3, X4, X5, Xk0, Xk1, Xk2, Xk3, Xk4, Xk5, hk, rfl, hx, hy, hSt, rfl, rfl, rfl⟩ := hI
    refine XK.seq ?_
    refine XK.seq ?_

    refine XK.region ?_
    refine xk_move rfl (by decide) ?_
    refine xk_move rfl (by decide) ?_
    refine xk_len (el := 41) (by kernel_rfl) rfl (by decide) ?_
    refine xk_lss rfl rfl (by decide) ?_
    refine XK.nilN ?_
    refine XK.if_ rfl (fun h => ?_) (fun h => ?_)
    ·
      refine XK.skip ?_
      refine XK.norm ?_
      refine XK.seq ?_
      refine XK.block ?_
      refine XK.seq ?_
      have hkl : k < na := by have h' : (k : Int) < (na : Int) := h; omega
      obtain ⟨a, ha⟩ : ∃ a, qs0[k]? = some a := ⟨qs0[k]'(by omega), List.getElem?_eq_getElem _⟩
      have hao := hq0 a (List.mem_of_getElem? ha)
      obtain ⟨ba, oa, rfl, hca⟩ := hqs.ask ha hkl
      have hca0 := hca.at_ (j := 0) rfl

      refine XK.region ?_
      refine xk_move rfl (by decide) ?_
      refine xk_move rfl (by decide) ?_
      refine xk_at k (oa + k * 6) (el := 41) (sz := 6) (by kernel_rfl) (by kernel_rfl) rfl rfl (by omega) (by omega) (by omega) (by decide) ?_
      refine xk_field (off := 0) (by kernel_rfl) rfl (by decide) ?_
      refine xk_ld rfl ?_
      refine xk_callV (f := 9) (fi := []) (ca := []) (by kernel_rfl) rfl rfl (by decide) (fun v => ∃ r : Int, v = .int .i64 r ∧ 0 ≤ r ∧ r < 2) (fun w1 st => pick14_any _ _ w1 hao.h1 (by omega)) fun v hv => ?_
      obtain ⟨r1, rfl, hr0, hr1⟩ := hv
      obtain ⟨ag, rfl⟩ : ∃ ag : Nat, r1 = (ag : Int) := ⟨r1.toNat, by omega⟩
      refine xk_assign rfl (by decide) ?_
      refine XK.nilN ?_
      refine XK.seq ?_

      refine XK.region ?_
      refine xk_move rfl (by decide) ?_
      refine xk_move rfl (by decide) ?_
      refine xk_at k (oa + k * 6) (el := 41) (sz := 6) (by kernel_rfl) (by kernel_rfl) rfl rfl (by omega) (by omega) (by omega) (by decide) ?_
      refine xk_loadN 6 (by kernel_rfl) rfl (RdN.roc (by simp) hca) rfl (by decide) ?_
      refine xk_call [] (f := 11) (fi := []) (ca := []) (by kernel_rfl) rfl rfl (by decide) (by simp) WordsOk (fun w1 st => message14_any _ _ _ _ _ _ w1 hao.h1 hao.h2 hao.h3 hao.h4 hao.h5 hao.h6) ?_
      rintro _ w1 q2 ⟨l, Al, cl, rfl, hll, hlu, hl⟩ hf _ _
      have hl := hl.le hf
      clear hf
      refine xk_assign rfl (by decide) ?_
      refine XK.nilN ?_
      refine XK.seq ?_

      refine XK.region ?_
      refine xk_ldN 4 rfl ?_
      refine xk_ldN 6 rfl ?_
      refine xk_move rfl (by decide) ?_
      refine xk_move rfl (by decide) ?_
      refine xk_move rfl (by decide) ?_
      refine xk_callR (f := 10) (fi := []) (ca := []) (by kernel_rfl) rfl rfl (by decide) (v0 := actV (decF s x y wt ag l)) (fun w1 st => decide_any q1 qx s A1 A2 A3 A4 _ k1 _ k2 _ k3 _ k4 X0 X1 X2 X3 X4 X5 _ Xk0 _ Xk1 _ Xk2 _ Xk3 _ Xk4 _ Xk5 x y Aw nw cw wt ag Al l.length cl l w1 hSP hK (st.le (by simp)) hSt (st.le (by simp)) (hw.le (st.le (by simp))) hnw (by omega) (hl.le (st.le (by simp))) rfl (by omega) hlu) ?_
      generalize hdd : decF s x y wt ag l = dd
      obtain ⟨t1, kd, ac⟩ := dd
      simp only [actV]
      refine xk_move rfl (by decide) ?_
      refine xk_extract rfl rfl (by decide) ?_
      refine xk_extract rfl rfl (by decide) ?_
      refine xk_alloc (cs := [.int .u8 0, .int .i64 0]) (zeroB_of (by kernel_rfl)) (by decide) fun g3 => ?_
      refine xk_assign rfl (by decide) ?_
      (first | (refine xk_storeN 0 rfl rfl rfl (by kernel_rfl) (by simp [Value.cells, Value.oneCell']) (by simp [Value.cells]) ?_) | (refine xk_storeN 1 rfl rfl rfl (by kernel_rfl) (by simp [Value.cells, Value.oneCell']) (by simp [Value.cells]) ?_) | (refine xk_storeN 2 rfl rfl rfl (by kernel_rfl) (by simp [Value.cells, Value.oneCell']) (by simp [Value.cells]) ?_) | (refine xk_storeN 3 rfl rfl rfl (by kernel_rfl) (by simp [Value.cells, Value.oneCell']) (by simp [Value.cells]) ?_) | (refine xk_storeN 4 rfl rfl rfl (by kernel_rfl) (by simp [Value.cells, Value.oneCell']) (by simp [Value.cells]) ?_) | (refine xk_storeN 5 rfl rfl rfl (by kernel_rfl) (by simp [Value.cells, Value.oneCell']) (by simp [Value.cells]) ?_) | (refine xk_storeN 6 rfl rfl rfl (by kernel_rfl) (by simp [Value.cells, Value.oneCell']) (by simp [Value.cells]) ?_) | (refine xk_storeN 7 rfl rfl rfl (by kernel_rfl) (by simp [Value.cells, Value.oneCell']) (by simp [Value.cells]) ?_) | (refine xk_storeN 8 rfl rfl rfl (by kernel_rfl) (by simp [Value.cells, Value.oneCell']) (by simp [Value.cells]) ?_)); simp only [putN, Value.cells, List.set, List.take, List.drop, List.nil_append, List.append_nil, List.length_cons, List.length_nil, List.cons_append, Nat.reduceAdd]
      refine XK.nilN ?_
      refine XK.cut (fun e R H => e = [(16, .pointer (some ⟨g3, 0, none⟩)), (13, .int .i64 (ag : Int)), (12, .int .i64 k), (11, .pointer (some ⟨g2, 0, none⟩)), (10, .pointer (some ⟨g1, 0, none⟩)), (3, .int .i64 tk), (2, .slice (some ⟨ba, oa, none⟩) na ca), (1, .slice Aw nw cw)] ∧ R = [qx, q1, all w] ∧ H = [HP.blk g3 43 [.int .u8 kd, .int .i64 ac], HP.blk g2 37 [.slice X0 x.d.length Xk0, .slice X1 x.c.length Xk1, .slice X2 x.l.length Xk2, .slice X3 y.d.length Xk3, .slice X4 y.c.length Xk4, .slice X5 y.l.length Xk5], HP.blk g1 30 [.slice A1 s.clocks.length k1, .slice A2 s.domains.length k2, .slice A3 s.resets.length k3, .slice A4 s.devs.length k4]]) ?_ ?_
      ·
        refine XK.seq ?_

        refine XK.region ?_
        refine xk_move rfl (by decide) ?_
        refine xk_len (el := 54) (by kernel_rfl) rfl (by decide) ?_
        refine xk_gtr rfl rfl (by decide) ?_
        refine XK.nilN ?_
        refine XK.if_ rfl (fun hlen => ?_) (fun hlen => ?_)
        ·
          refine XK.seq ?_
          have hl0 : 0 < l.length := by have h' : (0 : Int) < (l.length : Int) := hlen; omega
          obtain ⟨x0, l1, rfl⟩ : ∃ x r, l = x :: r := by
            cases l with
            | nil => exact absurd hl0 (by simp)
            | cons x r => exact ⟨x, r, rfl⟩
          have hx0 := hlu x0 (List.mem_cons_self)

          refine XK.region ?_
          refine xk_slice0 (el := 54) (sz := 1) (by kernel_rfl) (by kernel_rfl) (by decide) fun g4 => ?_
          refine XK.asOwn 0 1 0 rfl rfl (by omega) ?_
          dsimp only [List.set]
          refine xk_move rfl (by decide) ?_
          refine xk_appendT 0 1 4 (l1.length + 1) (n' := l1.length + 1) (el := 54) (by kernel_rfl) (by kernel_rfl) (by decide) rfl rfl rfl (sl_ro (by simp) hl) (u32Cells_one _) (by omega) (by simp at hll; omega) (by simp at hll; omega) (by decide) fun A2 c2 => ?_
          dsimp only [List.set, List.nil_append]
          refine xk_assign rfl (by decide) ?_
          refine XK.nilN ?_
          refine XK.seq ?_
          refine XK.ownAt 0 rfl (by omega) ?_
          rintro ⟨gb, rfl⟩
          refine XK.openOwn 0 rfl fun cs hcl hct hnc hcm => ?_
          dsimp only [List.set]
          have hct1 : cs.take (l1.length + 1) = u32Cells (x0 :: l1) := by simpa using hct
          have hc0 : cs[0]? = some (.int .u32 (x0)) := by
            have := congrArg (fun z : List Value => z[0]?) hct1
            rw [show (cs.take (l1.length + 1))[0]? = cs[0]? by rw [List.getElem?_take]; simp] at this
            simpa [u32Cells] using this

          refine XK.draw 10 (by kernel_rfl) (by kernel_rfl) ?_
          refine XA.dA 0 rfl rfl rfl (does_move rfl) ?_
          refine XA.dA 1 rfl rfl rfl (does_move rfl) ?_
          refine XA.dA 2 rfl rfl rfl (does_at 0 0 (el := 54) (sz := 1) (by kernel_rfl) (by kernel_rfl) rfl rfl (by rfl) (by omega) (by omega)) ?_
          refine XA.dA 3 rfl rfl rfl (does_load (by kernel_rfl) rfl (Rd.blk 0 rfl hc0)) ?_
          refine XA.dA 4 rfl rfl rfl (does_bits rfl rfl (fun w => run_andN32 _ (x0) 268173312 w) (by simp)) ?_
          refine XA.dA 5 rfl rfl rfl (does_move rfl) ?_
          refine XA.next 6 rfl (by kernel_rfl) ?_
          refine xk_callV (f := 9) (fi := []) (ca := []) (by kernel_rfl) rfl rfl (by decide) (fun v => ∃ r : Int, v = .int .i64 r ∧ 0 ≤ r ∧ r < 1024) (fun w1 st => pick14_any _ _ w1 htk (by omega)) fun v hv => ?_
          obtain ⟨r9, rfl, hr09, hr19⟩ := hv
          refine XA.bk ?_
          refine XA.dA 7 rfl rfl rfl (does_conv (ds := .int .i64) (by kernel_rfl) (by kernel_rfl) rfl (wrap_u32 (by omega))) ?_
          refine XA.dA 8 rfl rfl rfl (does_shl rfl rfl (by omega) rfl) ?_
          refine XA.dA 9 rfl rfl rfl (does_bits rfl rfl (fun w => run_or32 _ _ _ w) (by simp)) ?_
          refine XA.next 10 rfl (by kernel_rfl) ?_
          refine xk_at 0 0 (el := 54) (sz := 1) (by kernel_rfl) (by kernel_rfl) rfl rfl (by rfl) (by omega) (by omega) (by decide) ?_
          refine XA.bt ?_
          refine XA.next 11 rfl (by kernel_rfl) ?_
          refine xk_store 0 rfl (by kernel_rfl) rfl rfl rfl (by simp at hcl; omega) ?_; dsimp only [List.set]
          refine XA.bt ?_
          refine XA.done (by kernel_rfl) ?_
          refine XK.norm ?_
          refine XK.seq ?_
          refine XK.closeOwn 0 (n := l1.length + 1) (c := c2) (sz := 1) (xs := u32Cells (tokW x0 r9 :: l1)) rfl (by simpa using hcl) (by show (cs.set 0 (.int .u32 (tokW x0 r9))).take _ = _; rw [Nat.mul_one, show u32Cells (tokW x0 r9 :: l1) = (u32Cells (x0 :: l1)).set 0 (.int .u32 (tokW x0 r9)) from rfl, ← hct1, List.take_set]) hnc hcm ?_
          dsimp only [List.set]
          clear hct hct1 hc0 hcl

          refine XK.region ?_
          refine xk_ldN 4 rfl ?_
          refine xk_ldN 6 rfl ?_
          refine xk_move rfl (by decide) ?_
          refine xk_move rfl (by decide) ?_
          refine xk_move rfl (by decide) ?_
          refine xk_callR (f := 10) (fi := []) (ca := []) (by kernel_rfl) rfl rfl (by decide) (v0 := actV (decF s x y wt ag (tokW x0 r9 :: l1))) (fun w1 st => decide_any q1 qx s A1 A2 A3 A4 _ k1 _ k2 _ k3 _ k4 X0 X1 X2 X3 X4 X5 _ Xk0 _ Xk1 _ Xk2 _ Xk3 _ Xk4 _ Xk5 x y Aw nw cw wt ag (some ⟨gb, 0, none⟩) (l1.length + 1) c2 (tokW x0 r9 :: l1) w1 hSP hK (st.le (by simp)) hSt (st.le (by simp)) (hw.le (st.le (by simp))) hnw (by omega) (st.slO (i := 0) rfl) rfl (by simp at hll; omega) (u32_hd (tokW_bd _ _) hlu)) ?_
          rw [dec_cong (tok_readZ s hx0.1 hx0.2 ⟨hr09, hr19⟩ l1), hdd]
          simp only [actV]
          refine xk_move rfl (by decide) ?_
          refine xk_extract rfl rfl (by decide) ?_
          refine xk_extract rfl rfl (by decide) ?_
          refine xk_alloc (cs := [.int .u8 0, .int .i64 0]) (zeroB_of (by kernel_rfl)) (by decide) fun g5 => ?_
          refine xk_assign rfl (by decide) ?_
          (first | (refine xk_storeN 0 rfl rfl rfl (by kernel_rfl) (by simp [Value.cells, Value.oneCell']) (by simp [Value.cells]) ?_) | (refine xk_storeN 1 rfl rfl rfl (by kernel_rfl) (by simp [Value.cells, Value.oneCell']) (by simp [Value.cells]) ?_) | (refine xk_storeN 2 rfl rfl rfl (by kernel_rfl) (by simp [Value.cells, Value.oneCell']) (by simp [Value.cells]) ?_) | (refine xk_storeN 3 rfl rfl rfl (by kernel_rfl) (by simp [Value.cells, Value.oneCell']) (by simp [Value.cells]) ?_) | (refine xk_storeN 4 rfl rfl rfl (by kernel_rfl) (by simp [Value.cells, Value.oneCell']) (by simp [Value.cells]) ?_) | (refine xk_storeN 5 rfl rfl rfl (by kernel_rfl) (by simp [Value.cells, Value.oneCell']) (by simp [Value.cells]) ?_) | (refine xk_storeN 6 rfl rfl rfl (by kernel_rfl) (by simp [Value.cells, Value.oneCell']) (by simp [Value.cells]) ?_) | (refine xk_storeN 7 rfl rfl rfl (by kernel_rfl) (by simp [Value.cells, Value.oneCell']) (by simp [Value.cells]) ?_) | (refine xk_storeN 8 rfl rfl rfl (by kernel_rfl) (by simp [Value.cells, Value.oneCell']) (by simp [Value.cells]) ?_)); simp only [putN, Value.cells, List.set, List.take, List.drop, List.nil_append, List.append_nil, List.length_cons, List.length_nil, List.cons_append, Nat.reduceAdd]
          refine XK.nilN ?_
          refine XK.seq ?_
          refine XK.openOwn 1 rfl fun cs hcl hct hnc hcm => ?_
          dsimp only [List.set]
          have hct1 : cs.take (l1.length + 1) = u32Cells (tokW x0 r9 :: l1) := by simpa using hct
          have hc0 : cs[0]? = some (.int .u32 (tokW x0 r9)) := by
            have := congrArg (fun z : List Value => z[0]?) hct1
            rw [show (cs.take (l1.length + 1))[0]? = cs[0]? by rw [List.getElem?_take]; simp] at this
            simpa [u32Cells] using this

          refine XK.draw 11 (by kernel_rfl) (by kernel_rfl) ?_
          refine XA.dA 0 rfl rfl rfl (does_move rfl) ?_
          refine XA.dA 1 rfl rfl rfl (does_move rfl) ?_
          refine XA.dA 2 rfl rfl rfl (does_at 0 0 (el := 54) (sz := 1) (by kernel_rfl) (by kernel_rfl) rfl rfl (by rfl) (by omega) (by omega)) ?_
          refine XA.dA 3 rfl rfl rfl (does_load (by kernel_rfl) rfl (Rd.blk 1 rfl hc0)) ?_
          refine XA.dA 4 rfl rfl rfl (does_bits rfl rfl (fun w => run_andN32 _ (tokW x0 r9) 768 w) (by simp)) ?_
          refine XA.dA 5 rfl rfl rfl (does_move rfl) ?_
          refine XA.next 6 rfl (by kernel_rfl) ?_
          refine xk_callV (f := 9) (fi := []) (ca := []) (by kernel_rfl) rfl rfl (by decide) (fun v => ∃ r : Int, v = .int .i64 r ∧ 0 ≤ r ∧ r < 3) (fun w1 st => pick14_any _ _ w1 htk (by omega)) fun v hv => ?_
          obtain ⟨r8, rfl, hr08, hr18⟩ := hv
          refine XA.bk ?_
          refine XA.dA 7 rfl rfl rfl (does_add rfl rfl (wrap_in (by omega))) ?_
          refine XA.dA 8 rfl rfl rfl (does_conv (ds := .int .i64) (by kernel_rfl) (by kernel_rfl) rfl (wrap_u32 (by omega))) ?_
          refine XA.dA 9 rfl rfl rfl (does_shl rfl rfl (by omega) rfl) ?_
          refine XA.dA 10 rfl rfl rfl (does_bits rfl rfl (fun w => run_or32 _ _ _ w) (by simp)) ?_
          refine XA.next 11 rfl (by kernel_rfl) ?_
          refine xk_at 0 0 (el := 54) (sz := 1) (by kernel_rfl) (by kernel_rfl) rfl rfl (by rfl) (by omega) (by omega) (by decide) ?_
          refine XA.bt ?_
          refine XA.next 12 rfl (by kernel_rfl) ?_
          refine xk_store 1 rfl (by kernel_rfl) rfl rfl rfl (by simp at hcl; omega) ?_; dsimp only [List.set]
          refine XA.bt ?_
          refine XA.done (by kernel_rfl) ?_
          refine XK.norm ?_
          refine XK.seq ?_
          refine XK.closeOwn 1 (n := l1.length + 1) (c := c2) (sz := 1) (xs := u32Cells (typW (tokW x0 r9) (1 + r8) :: l1)) rfl (by simpa using hcl) (by show (cs.set 0 (.int .u32 (typW (tokW x0 r9) (1 + r8)))).take _ = _; rw [Nat.mul_one, show u32Cells (typW (tokW x0 r9) (1 + r8) :: l1) = (u32Cells (tokW x0 r9 :: l1)).set 0 (.int .u32 (typW (tokW x0 r9) (1 + r8))) from rfl, ← hct1, List.take_set]) hnc hcm ?_
          dsimp only [List.set]
          clear hct hct1 hc0 hcl

          refine XK.region ?_
          refine xk_ldN 4 rfl ?_
          refine xk_ldN 6 rfl ?_
          refine xk_move rfl (by decide) ?_
          refine xk_move rfl (by decide) ?_
          refine xk_move rfl (by decide) ?_
          refine xk_callR (f := 10) (fi := []) (ca := []) (by kernel_rfl) rfl rfl (by decide) (v0 := actV (decF s x y wt ag (typW (tokW x0 r9) (1 + r8) :: l1))) (fun w1 st => decide_any q1 qx s A1 A2 A3 A4 _ k1 _ k2 _ k3 _ k4 X0 X1 X2 X3 X4 X5 _ Xk0 _ Xk1 _ Xk2 _ Xk3 _ Xk4 _ Xk5 x y Aw nw cw wt ag (some ⟨gb, 0, none⟩) (l1.length + 1) c2 (typW (tokW x0 r9) (1 + r8) :: l1) w1 hSP hK (st.le (by simp)) hSt (st.le (by simp)) (hw.le (st.le (by simp))) hnw (by omega) (st.slO (i := 1) rfl) rfl (by simp at hll; omega) (u32_hd (typW_bd _ _) hlu)) ?_
          rw [dec_bad (typ_readZ s (tokW_bd x0 r9).1 (tokW_bd x0 r9).2 ⟨by omega, by omega⟩ l1)]
          simp only [actV]
          refine xk_move rfl (by decide) ?_
          refine xk_extract rfl rfl (by decide) ?_
          refine xk_extract rfl rfl (by decide) ?_
          refine xk_alloc (cs := [.int .u8 0, .int .i64 0]) (zeroB_of (by kernel_rfl)) (by decide) fun g6 => ?_
          refine xk_assign rfl (by decide) ?_
          (first | (refine xk_storeN 0 rfl rfl rfl (by kernel_rfl) (by simp [Value.cells, Value.oneCell']) (by simp [Value.cells]) ?_) | (refine xk_storeN 1 rfl rfl rfl (by kernel_rfl) (by simp [Value.cells, Value.oneCell']) (by simp [Value.cells]) ?_) | (refine xk_storeN 2 rfl rfl rfl (by kernel_rfl) (by simp [Value.cells, Value.oneCell']) (by simp [Value.cells]) ?_) | (refine xk_storeN 3 rfl rfl rfl (by kernel_rfl) (by simp [Value.cells, Value.oneCell']) (by simp [Value.cells]) ?_) | (refine xk_storeN 4 rfl rfl rfl (by kernel_rfl) (by simp [Value.cells, Value.oneCell']) (by simp [Value.cells]) ?_) | (refine xk_storeN 5 rfl rfl rfl (by kernel_rfl) (by simp [Value.cells, Value.oneCell']) (by simp [Value.cells]) ?_) | (refine xk_storeN 6 rfl rfl rfl (by kernel_rfl) (by simp [Value.cells, Value.oneCell']) (by simp [Value.cells]) ?_) | (refine xk_storeN 7 rfl rfl rfl (by kernel_rfl) (by simp [Value.cells, Value.oneCell']) (by simp [Value.cells]) ?_) | (refine xk_storeN 8 rfl rfl rfl (by kernel_rfl) (by simp [Value.cells, Value.oneCell']) (by simp [Value.cells]) ?_)); simp only [putN, Value.cells, List.set, List.take, List.drop, List.nil_append, List.append_nil, List.length_cons, List.length_nil, List.cons_append, Nat.reduceAdd]
          refine XK.nilN ?_
          refine XK.cutB 129 (False) ?_ ?_
          · skip

            refine XK.region ?_
            refine xk_move rfl (by decide) ?_
            refine xk_move rfl (by decide) ?_
            refine xk_neq rfl rfl (by decide) ?_
            refine xk_move rfl (by decide) ?_
            (first | refine xk_split (t := 116) rfl (fun hg => ?_) (fun hg => ?_) | refine xk_splitB (t := 116) rfl (fun hg => ?_) (fun hg => ?_))
            ·
              refine xk_guardF rfl rfl rfl (by decide) ?_
              refine xk_guardF rfl rfl rfl (by decide) ?_
              refine xk_guardF rfl rfl rfl (by decide) ?_
              (first | refine xk_pickT rfl rfl (by decide) ?_ | refine xk_pickF rfl rfl (by decide) ?_)
              refine xk_move rfl (by decide) ?_
              refine xk_guardF rfl rfl rfl (by decide) ?_
              refine xk_guardF rfl rfl rfl (by decide) ?_
              (first | refine xk_pickT rfl rfl (by decide) ?_ | refine xk_pickF rfl rfl (by decide) ?_)
              refine xk_move rfl (by decide) ?_
              refine xk_guardF rfl rfl rfl (by decide) ?_
              refine xk_guardF rfl rfl rfl (by decide) ?_
              refine xk_guardF rfl rfl rfl (by decide) ?_
              (first | refine xk_pickT rfl rfl (by decide) ?_ | refine xk_pickF rfl rfl (by decide) ?_)
              refine XK.nilN ?_
              exact XK.meetB (by repeat (first | exact trivial | refine ⟨rfl, ?_⟩)) (by first | (refine get_iff rfl ?_; omega) | (refine get_false rfl ?_; first | exact id | omega) | (refine get_true rfl ?_; first | exact trivial | omega) | (refine get_iff rfl ⟨fun hh => ?_, fun hh => ?_⟩ <;> first | omega | exact trivial | (simp_all [eqVs, eqV]; done) | (simp_all [eqVs, eqV]; omega)) | (refine get_bool rfl ?_; simp [eqVs, eqV]; done) | (refine get_bool rfl ?_; simp_all [eqVs, eqV]; done) | (exfalso; simp_all; done) | (exfalso; simp_all; omega) | (exfalso; simp_all [eqVs, eqV]; done))
            ·
              refine xk_guardT rfl rfl ?_; refine xk_ldN 2 rfl ?_
              refine xk_guardT rfl rfl ?_; refine xk_ldN 2 rfl ?_
              refine xk_guardT rfl rfl ?_; refine xk_neqS (xs := [.int .u8 kd, .int .i64 ac]) (ys := [.int .u8 kd, .int .i64 ac]) (by kernel_rfl) rfl rfl (by decide) ?_
              (first | refine xk_pickT rfl rfl (by decide) ?_ | refine xk_pickF rfl rfl (by decide) ?_)
              refine xk_move rfl (by decide) ?_
              (first | refine xk_split (t := 121) rfl (fun hg => ?_) (fun hg => ?_) | refine xk_splitB (t := 121) rfl (fun hg => ?_) (fun hg => ?_))
              ·
                refine xk_guardF rfl rfl rfl (by decide) ?_
                refine xk_guardF rfl rfl rfl (by decide) ?_
                (first | refine xk_pickT rfl rfl (by decide) ?_ | refine xk_pickF rfl rfl (by decide) ?_)
                refine xk_move rfl (by decide) ?_
                refine xk_guardF rfl rfl rfl (by decide) ?_
                refine xk_guardF rfl rfl rfl (by decide) ?_
                refine xk_guardF rfl rfl rfl (by decide) ?_
                (first | refine xk_pickT rfl rfl (by decide) ?_ | refine xk_pickF rfl rfl (by decide) ?_)
                refine XK.nilN ?_
                exact XK.meetB (by repeat (first | exact trivial | refine ⟨rfl, ?_⟩)) (by first | (refine get_iff rfl ?_; omega) | (refine get_false rfl ?_; first | exact id | omega) | (refine get_true rfl ?_; first | exact trivial | omega) | (refine get_iff rfl ⟨fun hh => ?_, fun hh => ?_⟩ <;> first | omega | exact trivial | (simp_all [eqVs, eqV]; done) | (simp_all [eqVs, eqV]; omega)) | (refine get_bool rfl ?_; simp [eqVs, eqV]; done) | (refine get_bool rfl ?_; simp_all [eqVs, eqV]; done) | (exfalso; simp_all; done) | (exfalso; simp_all; omega) | (exfalso; simp_all [eqVs, eqV]; done))
              ·
                refine xk_guardT rfl rfl ?_; refine xk_move rfl (by decide) ?_
                refine xk_guardT rfl rfl ?_; refine xk_neq rfl rfl (by decide) ?_
                (first | refine xk_pickT rfl rfl (by decide) ?_ | refine xk_pickF rfl rfl (by decide) ?_)
                refine xk_move rfl (by decide) ?_
                (first | refine xk_split (t := 125) rfl (fun hg => ?_) (fun hg => ?_) | refine xk_splitB (t := 125) rfl (fun hg => ?_) (fun hg => ?_))
                ·
                  refine xk_guardF rfl rfl rfl (by decide) ?_
                  refine xk_guardF rfl rfl rfl (by decide) ?_
                  refine xk_guardF rfl rfl rfl (by decide) ?_
                  (first | refine xk_pickT rfl rfl (by decide) ?_ | refine xk_pickF rfl rfl (by decide) ?_)
                  refine XK.nilN ?_
                  exact XK.meetB (by repeat (first | exact trivial | refine ⟨rfl, ?_⟩)) (by first | (refine get_iff rfl ?_; omega) | (refine get_false rfl ?_; first | exact id | omega) | (refine get_true rfl ?_; first | exact trivial | omega) | (refine get_iff rfl ⟨fun hh => ?_, fun hh => ?_⟩ <;> first | omega | exact trivial | (simp_all [eqVs, eqV]; done) | (simp_all [eqVs, eqV]; omega)) | (refine get_bool rfl ?_; simp [eqVs, eqV]; done) | (refine get_bool rfl ?_; simp_all [eqVs, eqV]; done) | (exfalso; simp_all; done) | (exfalso; simp_all; omega) | (exfalso; simp_all [eqVs, eqV]; done))
                ·
                  refine xk_guardT rfl rfl ?_; refine xk_field (off := 0) (by kernel_rfl) rfl (by decide) ?_
                  refine xk_guardT rfl rfl ?_; refine xk_ld rfl ?_
                  refine xk_guardT rfl rfl ?_; refine xk_neq rfl rfl (by decide) ?_
                  (first | refine xk_pickT rfl rfl (by decide) ?_ | refine xk_pickF rfl rfl (by decide) ?_)
                  refine XK.nilN ?_
                  exact XK.meetB (by repeat (first | exact trivial | refine ⟨rfl, ?_⟩)) (by first | (refine get_iff rfl ?_; omega) | (refine get_false rfl ?_; first | exact id | omega) | (refine get_true rfl ?_; first | exact trivial | omega) | (refine get_iff rfl ⟨fun hh => ?_, fun hh => ?_⟩ <;> first | omega | exact trivial | (simp_all [eqVs, eqV]; done) | (simp_all [eqVs, eqV]; omega)) | (refine get_bool rfl ?_; simp [eqVs, eqV]; done) | (refine get_bool rfl ?_; simp_all [eqVs, eqV]; done) | (exfalso; simp_all; done) | (exfalso; simp_all; omega) | (exfalso; simp_all [eqVs, eqV]; done))
          refine XK.cond rfl (fun h => by simp at h) (fun _ => ?_)

          ·
            refine XK.skip ?_
            refine XK.norm ?_
            exact XK.weakR (by simp) (XK.weak [3, 4, 5] rfl (by decide) (fun _ h => h) (XK.envS [(16, .pointer (some ⟨g3, 0, none⟩)), (13, .int .i64 (ag : Int)), (12, .int .i64 k), (11, .pointer (some ⟨g2, 0, none⟩)), (10, .pointer (some ⟨g1, 0, none⟩)), (3, .int .i64 tk), (2, .slice (some ⟨ba, oa, none⟩) na ca), (1, .slice Aw nw cw)] (XK.meet ⟨rfl, rfl, rfl⟩)))
        ·
          refine XK.skip ?_
          refine XK.norm ?_
          exact XK.weakR (by simp) (XK.weak [0, 1, 2] rfl (by decide) (fun _ h => h) (XK.envS [(16, .pointer (some ⟨g3, 0, none⟩)), (13, .int .i64 (ag : Int)), (12, .int .i64 k), (11, .pointer (some ⟨g2, 0, none⟩)), (10, .pointer (some ⟨g1, 0, none⟩)), (3, .int .i64 tk), (2, .slice (some ⟨ba, oa, none⟩) na ca), (1, .slice Aw nw cw)] (XK.meet ⟨rfl, rfl, rfl⟩)))
      rintro _ _ _ ⟨rfl, rfl, rfl⟩

      refine XK.region ?_
      refine xk_ldN 6 rfl ?_
      refine xk_move rfl (by decide) ?_
      refine xk_ldN 2 rfl ?_
      refine xk_call [] (f := 12) (fi := []) (ca := []) (by kernel_rfl) rfl rfl (by decide) (by simp) (fun v w w' => StR (fresh w w') (doneX x ag kd ac) (doneY y ag kd ac) v) (fun w1 st => done_any qx X0 X1 X2 X3 X4 X5 Xk0 Xk1 Xk2 Xk3 Xk4 Xk5 x y ag kd ac w1 (st.le (by simp)) (by omega) hx hy hSt.six.1 hSt.six.2.1 hSt.six.2.2.1 hSt.six.2.2.2.1 hSt.six.2.2.2.2.1 hSt.six.2.2.2.2.2) ?_
      rintro _ w1 qd hD hf _ _
      have hD := StR.le hD hf
      clear hf
      have hx2 := doneX_sm hx ag kd ac
      have hy2 := doneY_sm hy ag kd ac
      generalize doneX x ag kd ac = x2 at *
      generalize doneY y ag kd ac = y2 at *
      obtain ⟨Z0, Zk0, Z1, Zk1, Z2, Zk2, Z3, Zk3, Z4, Zk4, Z5, Zk5, rfl, e1, e2, e3, e4, e5, e6⟩ := hD
      have hD : StR qd x2 y2 (.agg #[.slice Z0 x2.d.length Zk0, .slice Z1 x2.c.length Zk1, .slice Z2 x2.l.length Zk2, .slice Z3 y2.d.length Zk3, .slice Z4 y2.c.length Zk4, .slice Z5 y2.l.length Zk5]) := ⟨Z0, Zk0, Z1, Zk1, Z2, Zk2, Z3, Zk3, Z4, Zk4, Z5, Zk5, rfl, e1, e2, e3, e4, e5, e6⟩
      clear e1 e2 e3 e4 e5 e6
      (first | (refine xk_storeN 0 rfl rfl rfl (by kernel_rfl) (by simp [Value.cells, Value.oneCell']) (by simp [Value.cells]) ?_) | (refine xk_storeN 1 rfl rfl rfl (by kernel_rfl) (by simp [Value.cells, Value.oneCell']) (by simp [Value.cells]) ?_) | (refine xk_storeN 2 rfl rfl rfl (by kernel_rfl) (by simp [Value.cells, Value.oneCell']) (by simp [Value.cells]) ?_) | (refine xk_storeN 3 rfl rfl rfl (by kernel_rfl) (by simp [Value.cells, Value.oneCell']) (by simp [Value.cells]) ?_) | (refine xk_storeN 4 rfl rfl rfl (by kernel_rfl) (by simp [Value.cells, Value.oneCell']) (by simp [Value.cells]) ?_) | (refine xk_storeN 5 rfl rfl rfl (by kernel_rfl) (by simp [Value.cells, Value.oneCell']) (by simp [Value.cells]) ?_) | (refine xk_storeN 6 rfl rfl rfl (by kernel_rfl) (by simp [Value.cells, Value.oneCell']) (by simp [Value.cells]) ?_) | (refine xk_storeN 7 rfl rfl rfl (by kernel_rfl) (by simp [Value.cells, Value.oneCell']) (by simp [Value.cells]) ?_) | (refine xk_storeN 8 rfl rfl rfl (by kernel_rfl) (by simp [Value.cells, Value.oneCell']) (by simp [Value.cells]) ?_)); simp only [putN, Value.cells, List.set, List.take, List.drop, List.nil_append, List.append_nil, List.length_cons, List.length_nil, List.cons_append, Nat.reduceAdd]
      refine XK.nilN ?_

      refine XK.region ?_
      refine xk_move rfl (by decide) ?_
      refine xk_add rfl rfl (wrap_in (by omega)) (by decide) ?_
      refine xk_assign rfl (by decide) ?_
      refine XK.nilN ?_
      exact XK.weakR (R' := [qd, q1, all w]) (by simp) (XK.weak [1, 2] rfl (by decide) (fun _ h => h) (XK.envS [(12, .int .i64 ((k : Int) + 1)), (11, .pointer (some ⟨g2, 0, none⟩)), (10, .pointer (some ⟨g1, 0, none⟩)), (3, .int .i64 tk), (2, .slice (some ⟨ba, oa, none⟩) na ca), (1, .slice Aw nw cw)] (XK.round (na - (k + 1)) (by omega) ⟨k + 1, qd, x2, y2, Z0, Z1, Z2, Z3, Z4, Z5, Zk0, Zk1, Zk2, Zk3, Zk4, Zk5, by omega, rfl, hx2, hy2, hD, rfl, rfl, rfl⟩)))
    ·
      refine XK.exit ?_
      refine XK.norm ?_
      refine XK.seq ?_

      refine XK.region ?_
      refine xk_assign rfl (by decide) ?_
      refine XK.nilN ?_
      refine XK.ret ?_
      refine XK.norm ?_
      exact XK.ret1 rfl rfl fun w1 st => ⟨rfl, st.below (by simp)⟩

end Go.Proofs.Ytbcfbafpeidifaa
/- Asks that came in, opened. -/
namespace Go.Proofs.Ytbcfbafpeidifaa
set_option linter.all false
open Go.RowKit
theorem sixL {l : List Value} (h : l.length = 6) : ∃ a b c d e f, l = [a, b, c, d, e, f] := by
  match l, h with
  | [a, b, c, d, e, f], _ => exact ⟨a, b, c, d, e, f, rfl⟩
section
variable {H : Type} {enc : TypeId × Value → H} {w : World} {fuel : Nat} {cs : List Value} {x : DataW H × List MemPlace}
theorem ask_cells : Try.prog.cellsOf 41 = 6 := by kernel_rfl
theorem ask_cI : Try.prog.cellsOf 3 = 1 := by kernel_rfl
set_option maxRecDepth 100000 in
theorem ask_of_trod (h : DataW.trod enc Try.prog w 0 (fun _ => true) true fuel 41 cs = some x) : ∃ a : AskT, cs = a.cells ∧ a.ok := by
  obtain ⟨xs, n, rfl, _, hl, hxl, hf⟩ := DataW.trod_struct Try.underlying41 h
  rw [ask_cells] at hl
  obtain ⟨a, b, c, d, e, f, rfl⟩ := sixL hl
  have h0 := hf 0 _ rfl
  have h1 := hf 1 _ rfl
  have h2 := hf 2 _ rfl
  have h3 := hf 3 _ rfl
  have h4 := hf 4 _ rfl
  have h5 := hf 5 _ rfl
  simp only [List.getElem_toArray, List.getElem_cons_zero, List.getElem_cons_succ, List.drop_succ_cons, List.drop_zero, ask_cI, List.take_succ_cons, List.take_zero] at h0 h1 h2 h3 h4 h5
  have pk : ∀ i, i < 6 → ∃ y, xs[i]? = some y := fun i hi => ⟨xs[i]'(by rw [hxl]; exact hi), List.getElem?_eq_getElem _⟩
  obtain ⟨y0, e0⟩ := pk 0 (by omega)
  obtain ⟨y1, e1⟩ := pk 1 (by omega)
  obtain ⟨y2, e2⟩ := pk 2 (by omega)
  obtain ⟨y3, e3⟩ := pk 3 (by omega)
  obtain ⟨y4, e4⟩ := pk 4 (by omega)
  obtain ⟨y5, e5⟩ := pk 5 (by omega)
  rw [e0] at h0
  rw [e1] at h1
  rw [e2] at h2
  rw [e3] at h3
  rw [e4] at h4
  rw [e5] at h5
  obtain ⟨z0, g0, _, w0⟩ := DataW.trod_int Try.underlying3 h0
  obtain ⟨z1, g1, _, w1⟩ := DataW.trod_int Try.underlying3 h1
  obtain ⟨z2, g2, _, w2⟩ := DataW.trod_int Try.underlying3 h2
  obtain ⟨z3, g3, _, w3⟩ := DataW.trod_int Try.underlying3 h3
  obtain ⟨z4, g4, _, w4⟩ := DataW.trod_int Try.underlying3 h4
  obtain ⟨z5, g5, _, w5⟩ := DataW.trod_int Try.underlying3 h5
  simp at g0 g1 g2 g3 g4 g5
  subst g0; subst g1; subst g2; subst g3; subst g4; subst g5
  exact ⟨⟨z0, z1, z2, z3, z4, z5⟩, rfl, ⟨bounds64 w0, bounds64 w1, bounds64 w2, bounds64 w3, bounds64 w4, bounds64 w5⟩⟩
open Go.ChangeShapes Go.WideShapes Go.ChangeAt in
set_option maxRecDepth 100000 in
theorem open_asks {v : Value} {d : DataW H} {ps : List MemPlace} {base : Nat} (hval : Value.okWide Try.prog w .any base 23 v) (h : DataW.Trod enc Try.prog w 0 (fun _ => true) true 23 v d ps) :
    ∃ (A : Option Addr) (n c : Nat) (qs : List AskT), v = .slice A n c ∧ SlS (all w) 6 A n (qs.flatMap AskT.cells) ∧ (∀ a ∈ qs, a.ok) ∧ n = qs.length ∧ n ≤ 9223372036854775807 := by
  obtain ⟨a0, len, cap, rfl⟩ := okWide_slice Try.underlying23 hval
  obtain ⟨fuel, hf⟩ := h
  obtain ⟨A, n, c, ys, hcs, hsl, hn, hm, hR⟩ := slice_sl AskT.cells AskT.ok Try.underlying23 ask_cells (by omega) (fun _ => rfl) (fun _ _ _ h => ask_of_trod h) hf
  simp [Value.cells] at hcs
  obtain ⟨rfl, rfl, rfl⟩ := hcs
  exact ⟨_, _, _, ys, rfl, SlS.of_sl hsl, hR, hn, hm⟩
end
end Go.Proofs.Ytbcfbafpeidifaa
