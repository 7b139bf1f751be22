/- package table: what is wished then. -/
import Derived.KernelRfl
import Derived.Tactics2
import Derived.Test.YticjkhagldkejaaGreatDoorProg
import Derived.Test.YticjkhagldkejaaGreatDoorFirmRatesK5
namespace Go.Proofs.YticjkhagldkejaaGreatDoor
set_option linter.all false
open Go.RowKit

set_option maxHeartbeats 4000000 in
theorem done_any (qx : Piece) (X1 X2 X3 Y1 Y2 Y3 : Option Addr) (xk1 xk2 xk3 yk1 yk2 yk3 : Nat) (x y : Wsh) (ag : Nat) (k id : Int) (w : World) (hqx : qx.Le (all w)) (hag : ag < 2) (hbx : x.sm) (hby : y.sm) (s0 : SlS qx 1 X1 x.d.length (boolCells x.d)) (s1 : SlS qx 1 X2 x.c.length (boolCells x.c)) (s2 : SlS qx 1 X3 x.l.length (boolCells x.l)) (s3 : SlS qx 1 Y1 y.d.length (boolCells y.d)) (s4 : SlS qx 1 Y2 y.c.length (boolCells y.c)) (s5 : SlS qx 1 Y3 y.l.length (boolCells y.l)) :
    Calls Tryz.prog 151 #[.agg #[.slice X1 x.d.length xk1, .slice X2 x.c.length xk2, .slice X3 x.l.length xk3, .slice Y1 y.d.length yk1, .slice Y2 y.c.length yk2, .slice Y3 y.l.length yk3], .int .i64 (ag : Int), .agg #[.int .u8 k, .int .i64 id]] w (RtW (fun v w w' => StR (fresh w w') (doneX x ag k id) (doneY y ag k id) v) w) := by
  obtain ⟨h0, h1, h2⟩ := hbx
  obtain ⟨h3, h4, h5⟩ := hby
  refine XK.enter (vs := [.agg #[.slice X1 x.d.length xk1, .slice X2 x.c.length xk2, .slice X3 x.l.length xk3, .slice Y1 y.d.length yk1, .slice Y2 y.c.length yk2, .slice Y3 y.l.length yk3], .int .i64 (ag : Int), .agg #[.int .u8 k, .int .i64 id]]) Tryz.func151 rfl Tryz.ntmps151 (by simp) ?_
  refine XK.seq ?_
  refine XK.piece qx (by simp) hqx ?_

  refine XK.region ?_
  refine xk_box rfl (by decide) fun g1 => ?_
  refine xk_box rfl (by decide) fun g2 => ?_
  refine xk_alloc (cs := [.slice none 0 0, .slice none 0 0, .slice none 0 0, .slice none 0 0, .slice none 0 0, .slice none 0 0]) (zeroB_of (by kernel_rfl)) (by decide) fun g3 => ?_
  refine XK.nilN ?_
  refine XK.seq ?_

  refine XK.region ?_
  refine xk_alloc (cs := [.slice none 0 0, .slice none 0 0, .slice none 0 0, .slice none 0 0, .slice none 0 0, .slice none 0 0]) (zeroB_of (by kernel_rfl)) (by decide) fun g4 => ?_
  refine XK.nilN ?_
  refine XK.seq ?_
  refine XK.seq ?_

  refine XK.region ?_
  refine xk_field (off := 0) (by kernel_rfl) rfl (by decide) ?_
  refine xk_ldN 6 rfl ?_
  refine xk_move rfl (by decide) ?_
  refine XK.nilN ?_
  refine XK.envS [(13, .int .i64 0), (12, .agg #[.slice X1 x.d.length xk1, .slice X2 x.c.length xk2, .slice X3 x.l.length xk3, .slice Y1 y.d.length yk1, .slice Y2 y.c.length yk2, .slice Y3 y.l.length yk3]), (7, .pointer (some ⟨g4, 0, none⟩)), (6, .pointer (some ⟨g3, 0, none⟩)), (5, .pointer (some ⟨g2, 0, none⟩)), (3, .pointer (some ⟨g1, 0, none⟩)), (1, .int .i64 (ag : Int))] ?_
  refine XK.block ?_
  refine XK.loop (fun m e R H => (m = 2 ∧ e = [(13, .int .i64 0), (12, .agg #[.slice X1 x.d.length xk1, .slice X2 x.c.length xk2, .slice X3 x.l.length xk3, .slice Y1 y.d.length yk1, .slice Y2 y.c.length yk2, .slice Y3 y.l.length yk3]), (7, .pointer (some ⟨g4, 0, none⟩)), (6, .pointer (some ⟨g3, 0, none⟩)), (5, .pointer (some ⟨g2, 0, none⟩)), (3, .pointer (some ⟨g1, 0, none⟩)), (1, .int .i64 (ag : Int))] ∧ R = [qx, all w] ∧ H = [HP.blk g4 71 [.slice none 0 0, .slice none 0 0, .slice none 0 0, .slice none 0 0, .slice none 0 0, .slice none 0 0], HP.blk g3 71 [.slice none 0 0, .slice none 0 0, .slice none 0 0, .slice none 0 0, .slice none 0 0, .slice none 0 0], HP.blk g2 63 [.int .u8 k, .int .i64 id], HP.blk g1 71 [.slice X1 x.d.length xk1, .slice X2 x.c.length xk2, .slice X3 x.l.length xk3, .slice Y1 y.d.length yk1, .slice Y2 y.c.length yk2, .slice Y3 y.l.length yk3]]) ∨ (m = 1 ∧ ∃ (B0 : Option Addr) (c0 : Nat) (B1 : Option Addr) (c1 : Nat) (B2 : Option Addr) (c2 : Nat), e = [(13, .int .i64 1), (12, .agg #[.slice X1 x.d.length xk1, .slice X2 x.c.length xk2, .slice X3 x.l.length xk3, .slice Y1 y.d.length yk1, .slice Y2 y.c.length yk2, .slice Y3 y.l.length yk3]), (7, .pointer (some ⟨g4, 0, none⟩)), (6, .pointer (some ⟨g3, 0, none⟩)), (5, .pointer (some ⟨g2, 0, none⟩)), (3, .pointer (some ⟨g1, 0, none⟩)), (1, .int .i64 (ag : Int))] ∧ R = [qx, all w] ∧ H = [HP.own 4 1 (.slice B0 x.d.length c0) x.d.length (boolCells x.d), HP.own 4 1 (.slice B1 x.c.length c1) x.c.length (boolCells x.c), HP.own 4 1 (.slice B2 x.l.length c2) x.l.length (boolCells x.l), HP.blk g4 71 [.slice B0 x.d.length c0, .slice B1 x.c.length c1, .slice B2 x.l.length c2, .slice none 0 0, .slice none 0 0, .slice none 0 0], HP.blk g3 71 [.slice none 0 0, .slice none 0 0, .slice none 0 0, .slice none 0 0, .slice none 0 0, .slice none 0 0], HP.blk g2 63 [.int .u8 k, .int .i64 id], HP.blk g1 71 [.slice X1 x.d.length xk1, .slice X2 x.c.length xk2, .slice X3 x.l.length xk3, .slice Y1 y.d.length yk1, .slice Y2 y.c.length yk2, .slice Y3 y.l.length yk3]]) ∨ (m = 0 ∧ ∃ (B0 : Option Addr) (c0 : Nat) (B1 : Option Addr) (c1 : Nat) (B2 : Option Addr) (c2 : Nat) (B3 : Option Addr) (c3 : Nat) (B4 : Option Addr) (c4 : Nat) (B5 : Option Addr) (c5 : Nat), e = [(13, .int .i64 2), (12, .agg #[.slice X1 x.d.length xk1, .slice X2 x.c.length xk2, .slice X3 x.l.length xk3, .slice Y1 y.d.length yk1, .slice Y2 y.c.length yk2, .slice Y3 y.l.length yk3]), (7, .pointer (some ⟨g4, 0, none⟩)), (6, .pointer (some ⟨g3, 0, none⟩)), (5, .pointer (some ⟨g2, 0, none⟩)), (3, .pointer (some ⟨g1, 0, none⟩)), (1, .int .i64 (ag : Int))] ∧ R = [qx, all w] ∧ H = [HP.own 4 1 (.slice B0 x.d.length c0) x.d.length (boolCells x.d), HP.own 4 1 (.slice B1 x.c.length c1) x.c.length (boolCells x.c), HP.own 4 1 (.slice B2 x.l.length c2) x.l.length (boolCells x.l), HP.own 4 1 (.slice B3 y.d.length c3) y.d.length (boolCells y.d), HP.own 4 1 (.slice B4 y.c.length c4) y.c.length (boolCells y.c), HP.own 4 1 (.slice B5 y.l.length c5) y.l.length (boolCells y.l), HP.blk g4 71 [.slice B0 x.d.length c0, .slice B1 x.c.length c1, .slice B2 x.l.length c2, .slice B3 y.d.length c3, .slice B4 y.c.length c4, .slice B5 y.l.length c5], HP.blk g3 71 [.slice none 0 0, .slice none 0 0, .slice none 0 0, .slice none 0 0, .slice none 0 0, .slice none 0 0], HP.blk g2 63 [.int .u8 k, .int .i64 id], HP.blk g1 71 [.slice X1 x.d.length xk1, .slice X2 x.c.length xk2, .slice X3 x.l.length xk3, .slice Y1 y.d.length yk1, .slice Y2 y.c.length yk2, .slice Y3 y.l.length yk3]])) 2 (.inl ⟨rfl, rfl, rfl, rfl⟩) fun m e R H hI => ?_
  rcases hI with ⟨rfl, rfl, rfl, rfl⟩ | ⟨rfl, B0, c0, B1, c1, B2, c2, rfl, rfl, rfl⟩ | ⟨rfl, B0, c0, B1, c1, B2, c2, B3, c3, B4, c4, B5, c5, rfl, rfl, rfl⟩
  · skip
    refine XK.seq ?_

    refine XK.region ?_
    refine xk_lss rfl rfl (by decide) ?_
    refine XK.nilN ?_
    refine XK.seq ?_
    refine XK.cond rfl (fun _ => ?_) (fun h => by simp at h)
    refine XK.skip ?_
    refine XK.norm ?_
    refine XK.seq ?_
    refine XK.block ?_
    refine XK.seq ?_

    refine XK.region ?_
    refine xk_move rfl (by decide) ?_
    refine xk_indexA 0 (len := 2) (n := 3) (by kernel_rfl) rfl rfl rfl (by decide) rfl (by decide) ?_
    refine xk_alloc (cs := [.slice none 0 0, .slice none 0 0, .slice none 0 0]) (zeroB_of (by kernel_rfl)) (by decide) fun g5 => ?_
    refine xk_assign rfl (by decide) ?_
    refine xk_stN rfl rfl ?_; simp only [putN, Value.cells, List.set, List.take, List.drop, List.nil_append, List.append_nil, List.length_cons, List.length_nil, List.cons_append, Nat.reduceAdd]
    refine XK.nilN ?_

    refine XK.draw 12 (by kernel_rfl) (by kernel_rfl) ?_
    refine XA.dA 0 rfl rfl rfl (does_move rfl) ?_
    refine XA.dA 1 rfl rfl rfl (does_field (off := 0) (by kernel_rfl) rfl) ?_
    refine XA.dA 2 rfl rfl rfl (does_ld rfl) ?_
    refine XA.dA 4 rfl rfl rfl (does_field (off := 1) (by kernel_rfl) rfl) ?_
    refine XA.dA 5 rfl rfl rfl (does_ld rfl) ?_
    refine XA.dA 7 rfl rfl rfl (does_field (off := 2) (by kernel_rfl) rfl) ?_
    refine XA.dA 8 rfl rfl rfl (does_ld rfl) ?_
    refine XA.dA 11 rfl rfl rfl (does_field (off := 0) (by kernel_rfl) rfl) ?_
    refine XA.next 3 rfl (by kernel_rfl) ?_
    refine xk_callN (f := 100) (fi := []) (ca := []) (by kernel_rfl) rfl rfl (by decide) (CloneOk_clone_bool x.d.length (boolCells x.d)) (fun w1 st => clone_bool _ _ _ _ w1 (s0.le (st.le (by simp))) (boolCells_one _) (by have := h0; omega)) ?_
    rintro _ _ q0 ⟨B0, c0, rfl, rfl⟩ _
    simp only [List.cons_append, List.nil_append]
    refine XK.nil ?_; refine XK.thenN ?_; refine XA.back (fun _ h => h.tailR.tail) ?_
    refine XA.next 6 rfl (by kernel_rfl) ?_
    refine xk_callN (f := 100) (fi := []) (ca := []) (by kernel_rfl) rfl rfl (by decide) (CloneOk_clone_bool x.c.length (boolCells x.c)) (fun w1 st => clone_bool _ _ _ _ w1 (s1.le (st.le (by simp))) (boolCells_one _) (by have := h1; omega)) ?_
    rintro _ _ q1 ⟨B1, c1, rfl, rfl⟩ _
    simp only [List.cons_append, List.nil_append]
    refine XK.nil ?_; refine XK.thenN ?_; refine XA.back (fun _ h => h.tailR.tailR.tail.tail) ?_
    refine XA.next 9 rfl (by kernel_rfl) ?_
    refine xk_callN (f := 100) (fi := []) (ca := []) (by kernel_rfl) rfl rfl (by decide) (CloneOk_clone_bool x.l.length (boolCells x.l)) (fun w1 st => clone_bool _ _ _ _ w1 (s2.le (st.le (by simp))) (boolCells_one _) (by have := h2; omega)) ?_
    rintro _ _ q2 ⟨B2, c2, rfl, rfl⟩ _
    simp only [List.cons_append, List.nil_append]
    refine XK.nil ?_; refine XK.thenN ?_; refine XA.back (fun _ h => h.tailR.tailR.tailR.tail.tail.tail) ?_
    refine XA.do_ 10 rfl rfl rfl (by decide) (does_buildS (zs := [.slice none 0 0, .slice none 0 0, .slice none 0 0]) (L := [(0, 1), (1, 1), (2, 1)]) (zeroB_of (by kernel_rfl)) (by kernel_rfl) rfl (by simp [fillL, setN, Value.cells]; rfl)) (by kernel_rfl) (fun _ _ _ h => h) (fun _ h => h.tailR.tailR.tailR.tail.tail.tail) ?_
    refine XA.next 12 rfl (by kernel_rfl) ?_
    refine xk_atA 0 0 (n := 2) (el := 68) (sz := 3) (by kernel_rfl) (by kernel_rfl) rfl rfl (by omega) (by omega) (by omega) (by decide) ?_
    refine XA.bt ?_
    refine XA.next 13 rfl (by kernel_rfl) ?_
    refine xk_stN rfl rfl ?_; simp only [putN, Value.cells, List.set, List.take, List.drop, List.nil_append, List.append_nil, List.length_cons, List.length_nil, List.cons_append, Nat.reduceAdd]
    refine XA.bt ?_
    refine XA.done (by kernel_rfl) ?_
    refine XK.norm ?_

    refine XK.region ?_
    refine xk_add rfl rfl (wrap_in (by omega)) (by decide) ?_
    refine xk_move rfl (by decide) ?_
    refine XK.nilN ?_
    exact XK.weak [2, 1, 0, 4, 5, 6, 7] rfl (by decide) (by simp) (XK.envS [(13, .int .i64 1), (12, .agg #[.slice X1 x.d.length xk1, .slice X2 x.c.length xk2, .slice X3 x.l.length xk3, .slice Y1 y.d.length yk1, .slice Y2 y.c.length yk2, .slice Y3 y.l.length yk3]), (7, .pointer (some ⟨g4, 0, none⟩)), (6, .pointer (some ⟨g3, 0, none⟩)), (5, .pointer (some ⟨g2, 0, none⟩)), (3, .pointer (some ⟨g1, 0, none⟩)), (1, .int .i64 (ag : Int))] (XK.round 1 (by omega) (.inr (.inl ⟨rfl, B0, c0, B1, c1, B2, c2, rfl, rfl, rfl⟩))))
  · skip
    refine XK.seq ?_

    refine XK.region ?_
    refine xk_lss rfl rfl (by decide) ?_
    refine XK.nilN ?_
    refine XK.seq ?_
    refine XK.cond rfl (fun _ => ?_) (fun h => by simp at h)
    refine XK.skip ?_
    refine XK.norm ?_
    refine XK.seq ?_
    refine XK.block ?_
    refine XK.seq ?_

    refine XK.region ?_
    refine xk_move rfl (by decide) ?_
    refine xk_indexA 1 (len := 2) (n := 3) (by kernel_rfl) rfl rfl rfl (by decide) rfl (by decide) ?_
    refine xk_alloc (cs := [.slice none 0 0, .slice none 0 0, .slice none 0 0]) (zeroB_of (by kernel_rfl)) (by decide) fun g5 => ?_
    refine xk_assign rfl (by decide) ?_
    refine xk_stN rfl rfl ?_; simp only [putN, Value.cells, List.set, List.take, List.drop, List.nil_append, List.append_nil, List.length_cons, List.length_nil, List.cons_append, Nat.reduceAdd]
    refine XK.nilN ?_

    refine XK.draw 12 (by kernel_rfl) (by kernel_rfl) ?_
    refine XA.dA 0 rfl rfl rfl (does_move rfl) ?_
    refine XA.dA 1 rfl rfl rfl (does_field (off := 0) (by kernel_rfl) rfl) ?_
    refine XA.dA 2 rfl rfl rfl (does_ld rfl) ?_
    refine XA.dA 4 rfl rfl rfl (does_field (off := 1) (by kernel_rfl) rfl) ?_
    refine XA.dA 5 rfl rfl rfl (does_ld rfl) ?_
    refine XA.dA 7 rfl rfl rfl (does_field (off := 2) (by kernel_rfl) rfl) ?_
    refine XA.dA 8 rfl rfl rfl (does_ld rfl) ?_
    refine XA.dA 11 rfl rfl rfl (does_field (off := 0) (by kernel_rfl) rfl) ?_
    refine XA.next 3 rfl (by kernel_rfl) ?_
    refine xk_callN (f := 100) (fi := []) (ca := []) (by kernel_rfl) rfl rfl (by decide) (CloneOk_clone_bool y.d.length (boolCells y.d)) (fun w1 st => clone_bool _ _ _ _ w1 (s3.le (st.le (by simp))) (boolCells_one _) (by have := h3; omega)) ?_
    rintro _ _ q0 ⟨B3, c3, rfl, rfl⟩ _
    simp only [List.cons_append, List.nil_append]
    refine XK.nil ?_; refine XK.thenN ?_; refine XA.back (fun _ h => h.tailR.tail) ?_
    refine XA.next 6 rfl (by kernel_rfl) ?_
    refine xk_callN (f := 100) (fi := []) (ca := []) (by kernel_rfl) rfl rfl (by decide) (CloneOk_clone_bool y.c.length (boolCells y.c)) (fun w1 st => clone_bool _ _ _ _ w1 (s4.le (st.le (by simp))) (boolCells_one _) (by have := h4; omega)) ?_
    rintro _ _ q1 ⟨B4, c4, rfl, rfl⟩ _
    simp only [List.cons_append, List.nil_append]
    refine XK.nil ?_; refine XK.thenN ?_; refine XA.back (fun _ h => h.tailR.tailR.tail.tail) ?_
    refine XA.next 9 rfl (by kernel_rfl) ?_
    refine xk_callN (f := 100) (fi := []) (ca := []) (by kernel_rfl) rfl rfl (by decide) (CloneOk_clone_bool y.l.length (boolCells y.l)) (fun w1 st => clone_bool _ _ _ _ w1 (s5.le (st.le (by simp))) (boolCells_one _) (by have := h5; omega)) ?_
    rintro _ _ q2 ⟨B5, c5, rfl, rfl⟩ _
    simp only [List.cons_append, List.nil_append]
    refine XK.nil ?_; refine XK.thenN ?_; refine XA.back (fun _ h => h.tailR.tailR.tailR.tail.tail.tail) ?_
    refine XA.do_ 10 rfl rfl rfl (by decide) (does_buildS (zs := [.slice none 0 0, .slice none 0 0, .slice none 0 0]) (L := [(0, 1), (1, 1), (2, 1)]) (zeroB_of (by kernel_rfl)) (by kernel_rfl) rfl (by simp [fillL, setN, Value.cells]; rfl)) (by kernel_rfl) (fun _ _ _ h => h) (fun _ h => h.tailR.tailR.tailR.tail.tail.tail) ?_
    refine XA.next 12 rfl (by kernel_rfl) ?_
    refine xk_atA 1 3 (n := 2) (el := 68) (sz := 3) (by kernel_rfl) (by kernel_rfl) rfl rfl (by omega) (by omega) (by omega) (by decide) ?_
    refine XA.bt ?_
    refine XA.next 13 rfl (by kernel_rfl) ?_
    refine xk_stN rfl rfl ?_; simp only [putN, Value.cells, List.set, List.take, List.drop, List.nil_append, List.append_nil, List.length_cons, List.length_nil, List.cons_append, Nat.reduceAdd]
    refine XA.bt ?_
    refine XA.done (by kernel_rfl) ?_
    refine XK.norm ?_

    refine XK.region ?_
    refine xk_add rfl rfl (wrap_in (by omega)) (by decide) ?_
    refine xk_move rfl (by decide) ?_
    refine XK.nilN ?_
    exact XK.weak [4, 5, 6, 2, 1, 0, 7, 8, 9, 10] rfl (by decide) (by simp) (XK.envS [(13, .int .i64 2), (12, .agg #[.slice X1 x.d.length xk1, .slice X2 x.c.length xk2, .slice X3 x.l.length xk3, .slice Y1 y.d.length yk1, .slice Y2 y.c.length yk2, .slice Y3 y.l.length yk3]), (7, .pointer (some ⟨g4, 0, none⟩)), (6, .pointer (some ⟨g3, 0, none⟩)), (5, .pointer (some ⟨g2, 0, none⟩)), (3, .pointer (some ⟨g1, 0, none⟩)), (1, .int .i64 (ag : Int))] (XK.round 0 (by omega) (.inr (.inr ⟨rfl, B0, c0, B1, c1, B2, c2, B3, c3, B4, c4, B5, c5, rfl, rfl, rfl⟩))))
  · skip
    refine XK.seq ?_

    refine XK.region ?_
    refine xk_lss rfl rfl (by decide) ?_
    refine XK.nilN ?_
    refine XK.seq ?_
    refine XK.cond rfl (fun h => by simp at h) (fun _ => ?_)
    refine XK.exit ?_
    refine XK.norm ?_
    refine XK.seq ?_
    refine XK.cutB 36 (False) ?_ ?_
    · skip

      refine XK.region ?_
      refine xk_move rfl (by decide) ?_
      refine xk_lss rfl rfl (by decide) ?_
      refine xk_move rfl (by decide) ?_
      (first | refine xk_split (t := 33) rfl (fun hg => ?_) (fun hg => ?_) | refine xk_splitB (t := 33) rfl (fun hg => ?_) (fun hg => ?_))
      ·
        refine xk_guardF rfl rfl rfl (by decide) ?_
        refine xk_guardF rfl rfl rfl (by decide) ?_
        (first | refine xk_pickT rfl rfl (by decide) ?_ | refine xk_pickF rfl rfl (by decide) ?_)
        refine XK.nilN ?_
        exact XK.meetBS
      ·
        refine xk_guardT rfl rfl ?_; refine xk_move rfl (by decide) ?_
        refine xk_guardT rfl rfl ?_; refine xk_geq rfl rfl (by decide) ?_
        (first | refine xk_pickT rfl rfl (by decide) ?_ | refine xk_pickF rfl rfl (by decide) ?_)
        refine XK.nilN ?_
        exact XK.meetBS
    refine XK.cond rfl (fun h => by simp at h) (fun _ => ?_)
    refine XK.skip ?_
    refine XK.norm ?_
    refine XK.seq ?_
    refine XK.seq ?_
    rcases (by omega : ag = 0 ∨ ag = 1) with rfl | rfl
    · rcases (by by_cases h0 : k = 117 ∨ k = 100 ∨ k = 107 <;> by_cases h1 : k = 99 ∨ k = 111 <;> by_cases h2 : k = 114 ∨ k = 97 <;> simp [h0, h1, h2] : (k = 117 ∨ k = 100 ∨ k = 107) ∨ ((¬ (k = 117 ∨ k = 100 ∨ k = 107)) ∧ (k = 99 ∨ k = 111)) ∨ ((¬ (k = 117 ∨ k = 100 ∨ k = 107)) ∧ (¬ (k = 99 ∨ k = 111)) ∧ (k = 114 ∨ k = 97)) ∨ ((¬ (k = 117 ∨ k = 100 ∨ k = 107)) ∧ (¬ (k = 99 ∨ k = 111)) ∧ (¬ (k = 114 ∨ k = 97)))) with hk | hk | hk | hk
      · skip

        refine XK.draw 5 (by kernel_rfl) (by kernel_rfl) ?_
        refine XA.dA 0 rfl rfl rfl (does_move rfl) ?_
        refine XA.dA 1 rfl rfl rfl (does_field (off := 0) (by kernel_rfl) rfl) ?_
        refine XA.dA 2 rfl rfl rfl (does_atA 0 0 (n := 2) (el := 68) (sz := 3) (by kernel_rfl) (by kernel_rfl) rfl rfl (by omega) (by omega) (by omega)) ?_
        refine XA.dA 3 rfl rfl rfl (does_field (off := 0) (by kernel_rfl) rfl) ?_
        refine XA.dA 4 rfl rfl rfl (does_ld rfl) ?_
        refine XA.next 5 rfl (by kernel_rfl) ?_
        refine xk_callR (f := 179) (fi := []) (ca := []) (by kernel_rfl) rfl rfl (by decide) (v0 := .slice B0 x.d.length c0) (fun w1 st => (list_any g4 0 k (.slice B0 x.d.length c0) (.slice B1 x.c.length c1) (.slice B2 x.l.length c2) w1 (by simpa using (st.box (i := 6) rfl).at_ (j := 0) rfl) (by simpa using (st.box (i := 6) rfl).at_ (j := 1) rfl) (by simpa using (st.box (i := 6) rfl).at_ (j := 2) rfl)).mono fun _ _ h => Rt.conv h (by simp [listV, hk])) ?_
        refine XA.bt ?_
        refine XA.next 6 rfl (by kernel_rfl) ?_
        refine xk_assign rfl (by decide) ?_
        refine XA.bt ?_
        refine XA.done (by kernel_rfl) ?_
        refine XK.norm ?_
        refine XK.cutB 53 (0 ≤ id ∧ id < (x.d.length : Int)) ?_ ?_
        · skip

          refine XK.region ?_
          refine xk_field (off := 1) (by kernel_rfl) rfl (by decide) ?_
          refine xk_ld rfl ?_
          refine xk_geq rfl rfl (by decide) ?_
          refine xk_move rfl (by decide) ?_
          (first | refine xk_split (t := 47) rfl (fun hg => ?_) (fun hg => ?_) | refine xk_splitB (t := 47) rfl (fun hg => ?_) (fun hg => ?_))
          ·
            refine xk_guardT rfl rfl ?_; refine xk_field (off := 1) (by kernel_rfl) rfl (by decide) ?_
            refine xk_guardT rfl rfl ?_; refine xk_ld rfl ?_
            refine xk_guardT rfl rfl ?_; refine xk_move rfl (by decide) ?_
            refine xk_guardT rfl rfl ?_; refine xk_len (el := 4) (by kernel_rfl) rfl (by decide) ?_
            refine xk_guardT rfl rfl ?_; refine xk_lss rfl rfl (by decide) ?_
            (first | refine xk_pickT rfl rfl (by decide) ?_ | refine xk_pickF rfl rfl (by decide) ?_)
            refine XK.nilN ?_
            exact XK.meetBS
          ·
            refine xk_guardF rfl rfl rfl (by decide) ?_
            refine xk_guardF rfl rfl rfl (by decide) ?_
            refine xk_guardF rfl rfl rfl (by decide) ?_
            refine xk_guardF rfl rfl rfl (by decide) ?_
            refine xk_guardF rfl rfl rfl (by decide) ?_
            (first | refine xk_pickT rfl rfl (by decide) ?_ | refine xk_pickF rfl rfl (by decide) ?_)
            refine XK.nilN ?_
            exact XK.meetBS
        refine XK.if_ rfl (fun hin => ?_) (fun hin => ?_)
        ·
          refine XK.ownAt 0 rfl (by omega) ?_
          rintro ⟨gb, rfl⟩
          refine XK.openOwn 0 rfl fun cs hcl hct hnc hcm => ?_
          dsimp only [List.set]
          have hct1 : cs.take x.d.length = boolCells x.d := by simpa using hct

          refine XK.draw 6 (by kernel_rfl) (by kernel_rfl) ?_
          refine XA.dA 0 rfl rfl rfl (does_move rfl) ?_
          refine XA.dA 1 rfl rfl rfl (does_field (off := 1) (by kernel_rfl) rfl) ?_
          refine XA.dA 2 rfl rfl rfl (does_ld rfl) ?_
          refine XA.dA 3 rfl rfl rfl (does_field (off := 0) (by kernel_rfl) rfl) ?_
          refine XA.dA 4 rfl rfl rfl (does_ld rfl) ?_
          refine XA.next 5 rfl (by kernel_rfl) ?_
          refine xk_callR (f := 96) (fi := []) (ca := []) (by kernel_rfl) rfl rfl (by decide) (fun w1 st => on_any k w1) ?_
          refine XA.bk ?_
          refine XA.next 6 rfl (by kernel_rfl) ?_
          refine xk_at id.toNat id.toNat (el := 4) (sz := 1) (by kernel_rfl) (by kernel_rfl) rfl rfl (by omega) (by omega) (by omega) (by decide) ?_
          refine XA.bt ?_
          refine XA.next 7 rfl (by kernel_rfl) ?_
          refine xk_store 0 rfl (by kernel_rfl) rfl rfl rfl (by simp at hcl; omega) ?_; dsimp only [List.set]
          refine XA.bt ?_
          refine XA.done (by kernel_rfl) ?_
          refine XK.norm ?_
          refine XK.seq ?_
          refine XK.closeOwn 0 (n := x.d.length) (c := c0) (sz := 1) (xs := boolCells (setBL x.d id (decide (onB k)))) rfl (by simpa using hcl) (by rw [Nat.mul_one, ← boolCells_setB _ hin, ← hct1, List.take_set]) hnc hcm ?_
          dsimp only [List.set]

          refine XK.region ?_
          refine xk_ldN 6 rfl ?_
          refine xk_stN rfl rfl ?_; simp only [putN, Value.cells, List.set, List.take, List.drop, List.nil_append, List.append_nil, List.length_cons, List.length_nil, List.cons_append, Nat.reduceAdd]
          refine XK.nilN ?_
          refine XK.ret ?_
          refine XK.norm ?_
          have hdx : doneX x 0 k id = ⟨(setBL x.d id (decide (onB k))), x.c, x.l⟩ := by simp [doneX, setW, hk]
          have hdy : doneY y 0 k id = ⟨y.d, y.c, y.l⟩ := by simp [doneY, setW, hk]
          refine XK.still [] [0, 1, 2, 3, 4, 5] [6, 7, 8, 9] (by simp) rfl (by decide) (by decide) fun q hq _ hfr => ?_
          obtain ⟨F0, sf0, zf0⟩ := hq 0 _ (by simp) rfl
          obtain ⟨A0_, d0_, hB0, hs0⟩ := SlS.of_own (Y := q.Z) sf0 zf0
          injection hB0 with e1 e2 e3
          subst A0_
          obtain ⟨F1, sf1, zf1⟩ := hq 1 _ (by simp) rfl
          obtain ⟨A1_, d1_, hB1, hs1⟩ := SlS.of_own (Y := q.Z) sf1 zf1
          injection hB1 with e1 e2 e3
          subst A1_
          obtain ⟨F2, sf2, zf2⟩ := hq 2 _ (by simp) rfl
          obtain ⟨A2_, d2_, hB2, hs2⟩ := SlS.of_own (Y := q.Z) sf2 zf2
          injection hB2 with e1 e2 e3
          subst A2_
          obtain ⟨F3, sf3, zf3⟩ := hq 3 _ (by simp) rfl
          obtain ⟨A3_, d3_, hB3, hs3⟩ := SlS.of_own (Y := q.Z) sf3 zf3
          injection hB3 with e1 e2 e3
          subst A3_
          obtain ⟨F4, sf4, zf4⟩ := hq 4 _ (by simp) rfl
          obtain ⟨A4_, d4_, hB4, hs4⟩ := SlS.of_own (Y := q.Z) sf4 zf4
          injection hB4 with e1 e2 e3
          subst A4_
          obtain ⟨F5, sf5, zf5⟩ := hq 5 _ (by simp) rfl
          obtain ⟨A5_, d5_, hB5, hs5⟩ := SlS.of_own (Y := q.Z) sf5 zf5
          injection hB5 with e1 e2 e3
          subst A5_
          refine XK.retC rfl (n := 6) (vs := [.slice (some ⟨gb, 0, none⟩) x.d.length c0, .slice B1 x.c.length c1, .slice B2 x.l.length c2, .slice B3 y.d.length c3, .slice B4 y.c.length c4, .slice B5 y.l.length c5]) (by kernel_rfl) rfl rfl (RdN.whole 1 rfl) fun w1 st => ⟨⟨_, rfl, ?_⟩, st.below (by simp)⟩
          have hle := st.fresh_le (by simp) (hfr (by simp) (by simp))
          rw [show doneX x 0 k id = ⟨(setBL x.d id (decide (onB k))), x.c, x.l⟩ from hdx, show doneY y 0 k id = ⟨y.d, y.c, y.l⟩ from hdy]
          exact ⟨(some ⟨gb, 0, none⟩), c0, B1, c1, B2, c2, B3, c3, B4, c4, B5, c5, by simp only [setBL_len], SlS.le (p := q) (by dsimp only; rw [setBL_len]; exact hs0) hle, SlS.le hs1 hle, SlS.le hs2 hle, SlS.le hs3 hle, SlS.le hs4 hle, SlS.le hs5 hle⟩
        ·
          refine XK.skip ?_
          refine XK.norm ?_
          refine XK.seq ?_

          refine XK.region ?_
          refine xk_ldN 6 rfl ?_
          refine xk_stN rfl rfl ?_; simp only [putN, Value.cells, List.set, List.take, List.drop, List.nil_append, List.append_nil, List.length_cons, List.length_nil, List.cons_append, Nat.reduceAdd]
          refine XK.nilN ?_
          refine XK.ret ?_
          refine XK.norm ?_
          have hdx : doneX x 0 k id = x := by simp [doneX, setW, hk, setBL_out _ hin]
          have hdy : doneY y 0 k id = y := by simp [doneY, setW, hk, setBL_out _ hin]
          refine XK.still [] [0, 1, 2, 3, 4, 5] [6, 7, 8, 9] (by simp) rfl (by decide) (by decide) fun q hq _ hfr => ?_
          obtain ⟨F0, sf0, zf0⟩ := hq 0 _ (by simp) rfl
          obtain ⟨A0_, d0_, hB0, hs0⟩ := SlS.of_own (Y := q.Z) sf0 zf0
          injection hB0 with e1 e2 e3
          subst A0_
          obtain ⟨F1, sf1, zf1⟩ := hq 1 _ (by simp) rfl
          obtain ⟨A1_, d1_, hB1, hs1⟩ := SlS.of_own (Y := q.Z) sf1 zf1
          injection hB1 with e1 e2 e3
          subst A1_
          obtain ⟨F2, sf2, zf2⟩ := hq 2 _ (by simp) rfl
          obtain ⟨A2_, d2_, hB2, hs2⟩ := SlS.of_own (Y := q.Z) sf2 zf2
          injection hB2 with e1 e2 e3
          subst A2_
          obtain ⟨F3, sf3, zf3⟩ := hq 3 _ (by simp) rfl
          obtain ⟨A3_, d3_, hB3, hs3⟩ := SlS.of_own (Y := q.Z) sf3 zf3
          injection hB3 with e1 e2 e3
          subst A3_
          obtain ⟨F4, sf4, zf4⟩ := hq 4 _ (by simp) rfl
          obtain ⟨A4_, d4_, hB4, hs4⟩ := SlS.of_own (Y := q.Z) sf4 zf4
          injection hB4 with e1 e2 e3
          subst A4_
          obtain ⟨F5, sf5, zf5⟩ := hq 5 _ (by simp) rfl
          obtain ⟨A5_, d5_, hB5, hs5⟩ := SlS.of_own (Y := q.Z) sf5 zf5
          injection hB5 with e1 e2 e3
          subst A5_
          refine XK.retC rfl (n := 6) (vs := [.slice B0 x.d.length c0, .slice B1 x.c.length c1, .slice B2 x.l.length c2, .slice B3 y.d.length c3, .slice B4 y.c.length c4, .slice B5 y.l.length c5]) (by kernel_rfl) rfl rfl (RdN.whole 1 rfl) fun w1 st => ⟨⟨_, rfl, ?_⟩, st.below (by simp)⟩
          have hle := st.fresh_le (by simp) (hfr (by simp) (by simp))
          rw [show doneX x 0 k id = x from hdx, show doneY y 0 k id = y from hdy]
          exact ⟨B0, c0, B1, c1, B2, c2, B3, c3, B4, c4, B5, c5, rfl, SlS.le hs0 hle, SlS.le hs1 hle, SlS.le hs2 hle, SlS.le hs3 hle, SlS.le hs4 hle, SlS.le hs5 hle⟩
      · skip

        refine XK.draw 5 (by kernel_rfl) (by kernel_rfl) ?_
        refine XA.dA 0 rfl rfl rfl (does_move rfl) ?_
        refine XA.dA 1 rfl rfl rfl (does_field (off := 0) (by kernel_rfl) rfl) ?_
        refine XA.dA 2 rfl rfl rfl (does_atA 0 0 (n := 2) (el := 68) (sz := 3) (by kernel_rfl) (by kernel_rfl) rfl rfl (by omega) (by omega) (by omega)) ?_
        refine XA.dA 3 rfl rfl rfl (does_field (off := 0) (by kernel_rfl) rfl) ?_
        refine XA.dA 4 rfl rfl rfl (does_ld rfl) ?_
        refine XA.next 5 rfl (by kernel_rfl) ?_
        refine xk_callR (f := 179) (fi := []) (ca := []) (by kernel_rfl) rfl rfl (by decide) (v0 := .slice B1 x.c.length c1) (fun w1 st => (list_any g4 0 k (.slice B0 x.d.length c0) (.slice B1 x.c.length c1) (.slice B2 x.l.length c2) w1 (by simpa using (st.box (i := 6) rfl).at_ (j := 0) rfl) (by simpa using (st.box (i := 6) rfl).at_ (j := 1) rfl) (by simpa using (st.box (i := 6) rfl).at_ (j := 2) rfl)).mono fun _ _ h => Rt.conv h (by simp [listV, hk])) ?_
        refine XA.bt ?_
        refine XA.next 6 rfl (by kernel_rfl) ?_
        refine xk_assign rfl (by decide) ?_
        refine XA.bt ?_
        refine XA.done (by kernel_rfl) ?_
        refine XK.norm ?_
        refine XK.cutB 53 (0 ≤ id ∧ id < (x.c.length : Int)) ?_ ?_
        · skip

          refine XK.region ?_
          refine xk_field (off := 1) (by kernel_rfl) rfl (by decide) ?_
          refine xk_ld rfl ?_
          refine xk_geq rfl rfl (by decide) ?_
          refine xk_move rfl (by decide) ?_
          (first | refine xk_split (t := 47) rfl (fun hg => ?_) (fun hg => ?_) | refine xk_splitB (t := 47) rfl (fun hg => ?_) (fun hg => ?_))
          ·
            refine xk_guardT rfl rfl ?_; refine xk_field (off := 1) (by kernel_rfl) rfl (by decide) ?_
            refine xk_guardT rfl rfl ?_; refine xk_ld rfl ?_
            refine xk_guardT rfl rfl ?_; refine xk_move rfl (by decide) ?_
            refine xk_guardT rfl rfl ?_; refine xk_len (el := 4) (by kernel_rfl) rfl (by decide) ?_
            refine xk_guardT rfl rfl ?_; refine xk_lss rfl rfl (by decide) ?_
            (first | refine xk_pickT rfl rfl (by decide) ?_ | refine xk_pickF rfl rfl (by decide) ?_)
            refine XK.nilN ?_
            exact XK.meetBS
          ·
            refine xk_guardF rfl rfl rfl (by decide) ?_
            refine xk_guardF rfl rfl rfl (by decide) ?_
            refine xk_guardF rfl rfl rfl (by decide) ?_
            refine xk_guardF rfl rfl rfl (by decide) ?_
            refine xk_guardF rfl rfl rfl (by decide) ?_
            (first | refine xk_pickT rfl rfl (by decide) ?_ | refine xk_pickF rfl rfl (by decide) ?_)
            refine XK.nilN ?_
            exact XK.meetBS
        refine XK.if_ rfl (fun hin => ?_) (fun hin => ?_)
        ·
          refine XK.ownAt 1 rfl (by omega) ?_
          rintro ⟨gb, rfl⟩
          refine XK.openOwn 1 rfl fun cs hcl hct hnc hcm => ?_
          dsimp only [List.set]
          have hct1 : cs.take x.c.length = boolCells x.c := by simpa using hct

          refine XK.draw 6 (by kernel_rfl) (by kernel_rfl) ?_
          refine XA.dA 0 rfl rfl rfl (does_move rfl) ?_
          refine XA.dA 1 rfl rfl rfl (does_field (off := 1) (by kernel_rfl) rfl) ?_
          refine XA.dA 2 rfl rfl rfl (does_ld rfl) ?_
          refine XA.dA 3 rfl rfl rfl (does_field (off := 0) (by kernel_rfl) rfl) ?_
          refine XA.dA 4 rfl rfl rfl (does_ld rfl) ?_
          refine XA.next 5 rfl (by kernel_rfl) ?_
          refine xk_callR (f := 96) (fi := []) (ca := []) (by kernel_rfl) rfl rfl (by decide) (fun w1 st => on_any k w1) ?_
          refine XA.bk ?_
          refine XA.next 6 rfl (by kernel_rfl) ?_
          refine xk_at id.toNat id.toNat (el := 4) (sz := 1) (by kernel_rfl) (by kernel_rfl) rfl rfl (by omega) (by omega) (by omega) (by decide) ?_
          refine XA.bt ?_
          refine XA.next 7 rfl (by kernel_rfl) ?_
          refine xk_store 1 rfl (by kernel_rfl) rfl rfl rfl (by simp at hcl; omega) ?_; dsimp only [List.set]
          refine XA.bt ?_
          refine XA.done (by kernel_rfl) ?_
          refine XK.norm ?_
          refine XK.seq ?_
          refine XK.closeOwn 1 (n := x.c.length) (c := c1) (sz := 1) (xs := boolCells (setBL x.c id (decide (onB k)))) rfl (by simpa using hcl) (by rw [Nat.mul_one, ← boolCells_setB _ hin, ← hct1, List.take_set]) hnc hcm ?_
          dsimp only [List.set]

          refine XK.region ?_
          refine xk_ldN 6 rfl ?_
          refine xk_stN rfl rfl ?_; simp only [putN, Value.cells, List.set, List.take, List.drop, List.nil_append, List.append_nil, List.length_cons, List.length_nil, List.cons_append, Nat.reduceAdd]
          refine XK.nilN ?_
          refine XK.ret ?_
          refine XK.norm ?_
          have hdx : doneX x 0 k id = ⟨x.d, (setBL x.c id (decide (onB k))), x.l⟩ := by simp [doneX, setW, hk]
          have hdy : doneY y 0 k id = ⟨y.d, y.c, y.l⟩ := by simp [doneY, setW, hk]
          refine XK.still [] [0, 1, 2, 3, 4, 5] [6, 7, 8, 9] (by simp) rfl (by decide) (by decide) fun q hq _ hfr => ?_
          obtain ⟨F0, sf0, zf0⟩ := hq 0 _ (by simp) rfl
          obtain ⟨A0_, d0_, hB0, hs0⟩ := SlS.of_own (Y := q.Z) sf0 zf0
          injection hB0 with e1 e2 e3
          subst A0_
          obtain ⟨F1, sf1, zf1⟩ := hq 1 _ (by simp) rfl
          obtain ⟨A1_, d1_, hB1, hs1⟩ := SlS.of_own (Y := q.Z) sf1 zf1
          injection hB1 with e1 e2 e3
          subst A1_
          obtain ⟨F2, sf2, zf2⟩ := hq 2 _ (by simp) rfl
          obtain ⟨A2_, d2_, hB2, hs2⟩ := SlS.of_own (Y := q.Z) sf2 zf2
          injection hB2 with e1 e2 e3
          subst A2_
          obtain ⟨F3, sf3, zf3⟩ := hq 3 _ (by simp) rfl
          obtain ⟨A3_, d3_, hB3, hs3⟩ := SlS.of_own (Y := q.Z) sf3 zf3
          injection hB3 with e1 e2 e3
          subst A3_
          obtain ⟨F4, sf4, zf4⟩ := hq 4 _ (by simp) rfl
          obtain ⟨A4_, d4_, hB4, hs4⟩ := SlS.of_own (Y := q.Z) sf4 zf4
          injection hB4 with e1 e2 e3
          subst A4_
          obtain ⟨F5, sf5, zf5⟩ := hq 5 _ (by simp) rfl
          obtain ⟨A5_, d5_, hB5, hs5⟩ := SlS.of_own (Y := q.Z) sf5 zf5
          injection hB5 with e1 e2 e3
          subst A5_
          refine XK.retC rfl (n := 6) (vs := [.slice B0 x.d.length c0, .slice (some ⟨gb, 0, none⟩) x.c.length c1, .slice B2 x.l.length c2, .slice B3 y.d.length c3, .slice B4 y.c.length c4, .slice B5 y.l.length c5]) (by kernel_rfl) rfl rfl (RdN.whole 1 rfl) fun w1 st => ⟨⟨_, rfl, ?_⟩, st.below (by simp)⟩
          have hle := st.fresh_le (by simp) (hfr (by simp) (by simp))
          rw [show doneX x 0 k id = ⟨x.d, (setBL x.c id (decide (onB k))), x.l⟩ from hdx, show doneY y 0 k id = ⟨y.d, y.c, y.l⟩ from hdy]
          exact ⟨B0, c0, (some ⟨gb, 0, none⟩), c1, B2, c2, B3, c3, B4, c4, B5, c5, by simp only [setBL_len], SlS.le hs0 hle, SlS.le (p := q) (by dsimp only; rw [setBL_len]; exact hs1) hle, SlS.le hs2 hle, SlS.le hs3 hle, SlS.le hs4 hle, SlS.le hs5 hle⟩
        ·
          refine XK.skip ?_
          refine XK.norm ?_
          refine XK.seq ?_

          refine XK.region ?_
          refine xk_ldN 6 rfl ?_
          refine xk_stN rfl rfl ?_; simp only [putN, Value.cells, List.set, List.take, List.drop, List.nil_append, List.append_nil, List.length_cons, List.length_nil, List.cons_append, Nat.reduceAdd]
          refine XK.nilN ?_
          refine XK.ret ?_
          refine XK.norm ?_
          have hdx : doneX x 0 k id = x := by simp [doneX, setW, hk, setBL_out _ hin]
          have hdy : doneY y 0 k id = y := by simp [doneY, setW, hk, setBL_out _ hin]
          refine XK.still [] [0, 1, 2, 3, 4, 5] [6, 7, 8, 9] (by simp) rfl (by decide) (by decide) fun q hq _ hfr => ?_
          obtain ⟨F0, sf0, zf0⟩ := hq 0 _ (by simp) rfl
          obtain ⟨A0_, d0_, hB0, hs0⟩ := SlS.of_own (Y := q.Z) sf0 zf0
          injection hB0 with e1 e2 e3
          subst A0_
          obtain ⟨F1, sf1, zf1⟩ := hq 1 _ (by simp) rfl
          obtain ⟨A1_, d1_, hB1, hs1⟩ := SlS.of_own (Y := q.Z) sf1 zf1
          injection hB1 with e1 e2 e3
          subst A1_
          obtain ⟨F2, sf2, zf2⟩ := hq 2 _ (by simp) rfl
          obtain ⟨A2_, d2_, hB2, hs2⟩ := SlS.of_own (Y := q.Z) sf2 zf2
          injection hB2 with e1 e2 e3
          subst A2_
          obtain ⟨F3, sf3, zf3⟩ := hq 3 _ (by simp) rfl
          obtain ⟨A3_, d3_, hB3, hs3⟩ := SlS.of_own (Y := q.Z) sf3 zf3
          injection hB3 with e1 e2 e3
          subst A3_
          obtain ⟨F4, sf4, zf4⟩ := hq 4 _ (by simp) rfl
          obtain ⟨A4_, d4_, hB4, hs4⟩ := SlS.of_own (Y := q.Z) sf4 zf4
          injection hB4 with e1 e2 e3
          subst A4_
          obtain ⟨F5, sf5, zf5⟩ := hq 5 _ (by simp) rfl
          obtain ⟨A5_, d5_, hB5, hs5⟩ := SlS.of_own (Y := q.Z) sf5 zf5
          injection hB5 with e1 e2 e3
          subst A5_
          refine XK.retC rfl (n := 6) (vs := [.slice B0 x.d.length c0, .slice B1 x.c.length c1, .slice B2 x.l.length c2, .slice B3 y.d.length c3, .slice B4 y.c.length c4, .slice B5 y.l.length c5]) (by kernel_rfl) rfl rfl (RdN.whole 1 rfl) fun w1 st => ⟨⟨_, rfl, ?_⟩, st.below (by simp)⟩
          have hle := st.fresh_le (by simp) (hfr (by simp) (by simp))
          rw [show doneX x 0 k id = x from hdx, show doneY y 0 k id = y from hdy]
          exact ⟨B0, c0, B1, c1, B2, c2, B3, c3, B4, c4, B5, c5, rfl, SlS.le hs0 hle, SlS.le hs1 hle, SlS.le hs2 hle, SlS.le hs3 hle, SlS.le hs4 hle, SlS.le hs5 hle⟩
      · skip

        refine XK.draw 5 (by kernel_rfl) (by kernel_rfl) ?_
        refine XA.dA 0 rfl rfl rfl (does_move rfl) ?_
        refine XA.dA 1 rfl rfl rfl (does_field (off := 0) (by kernel_rfl) rfl) ?_
        refine XA.dA 2 rfl rfl rfl (does_atA 0 0 (n := 2) (el := 68) (sz := 3) (by kernel_rfl) (by kernel_rfl) rfl rfl (by omega) (by omega) (by omega)) ?_
        refine XA.dA 3 rfl rfl rfl (does_field (off := 0) (by kernel_rfl) rfl) ?_
        refine XA.dA 4 rfl rfl rfl (does_ld rfl) ?_
        refine XA.next 5 rfl (by kernel_rfl) ?_
        refine xk_callR (f := 179) (fi := []) (ca := []) (by kernel_rfl) rfl rfl (by decide) (v0 := .slice B2 x.l.length c2) (fun w1 st => (list_any g4 0 k (.slice B0 x.d.length c0) (.slice B1 x.c.length c1) (.slice B2 x.l.length c2) w1 (by simpa using (st.box (i := 6) rfl).at_ (j := 0) rfl) (by simpa using (st.box (i := 6) rfl).at_ (j := 1) rfl) (by simpa using (st.box (i := 6) rfl).at_ (j := 2) rfl)).mono fun _ _ h => Rt.conv h (by simp [listV, hk])) ?_
        refine XA.bt ?_
        refine XA.next 6 rfl (by kernel_rfl) ?_
        refine xk_assign rfl (by decide) ?_
        refine XA.bt ?_
        refine XA.done (by kernel_rfl) ?_
        refine XK.norm ?_
        refine XK.cutB 53 (0 ≤ id ∧ id < (x.l.length : Int)) ?_ ?_
        · skip

          refine XK.region ?_
          refine xk_field (off := 1) (by kernel_rfl) rfl (by decide) ?_
          refine xk_ld rfl ?_
          refine xk_geq rfl rfl (by decide) ?_
          refine xk_move rfl (by decide) ?_
          (first | refine xk_split (t := 47) rfl (fun hg => ?_) (fun hg => ?_) | refine xk_splitB (t := 47) rfl (fun hg => ?_) (fun hg => ?_))
          ·
            refine xk_guardT rfl rfl ?_; refine xk_field (off := 1) (by kernel_rfl) rfl (by decide) ?_
            refine xk_guardT rfl rfl ?_; refine xk_ld rfl ?_
            refine xk_guardT rfl rfl ?_; refine xk_move rfl (by decide) ?_
            refine xk_guardT rfl rfl ?_; refine xk_len (el := 4) (by kernel_rfl) rfl (by decide) ?_
            refine xk_guardT rfl rfl ?_; refine xk_lss rfl rfl (by decide) ?_
            (first | refine xk_pickT rfl rfl (by decide) ?_ | refine xk_pickF rfl rfl (by decide) ?_)
            refine XK.nilN ?_
            exact XK.meetBS
          ·
            refine xk_guardF rfl rfl rfl (by decide) ?_
            refine xk_guardF rfl rfl rfl (by decide) ?_
            refine xk_guardF rfl rfl rfl (by decide) ?_
            refine xk_guardF rfl rfl rfl (by decide) ?_
            refine xk_guardF rfl rfl rfl (by decide) ?_
            (first | refine xk_pickT rfl rfl (by decide) ?_ | refine xk_pickF rfl rfl (by decide) ?_)
            refine XK.nilN ?_
            exact XK.meetBS
        refine XK.if_ rfl (fun hin => ?_) (fun hin => ?_)
        ·
          refine XK.ownAt 2 rfl (by omega) ?_
          rintro ⟨gb, rfl⟩
          refine XK.openOwn 2 rfl fun cs hcl hct hnc hcm => ?_
          dsimp only [List.set]
          have hct1 : cs.take x.l.length = boolCells x.l := by simpa using hct

          refine XK.draw 6 (by kernel_rfl) (by kernel_rfl) ?_
          refine XA.dA 0 rfl rfl rfl (does_move rfl) ?_
          refine XA.dA 1 rfl rfl rfl (does_field (off := 1) (by kernel_rfl) rfl) ?_
          refine XA.dA 2 rfl rfl rfl (does_ld rfl) ?_
          refine XA.dA 3 rfl rfl rfl (does_field (off := 0) (by kernel_rfl) rfl) ?_
          refine XA.dA 4 rfl rfl rfl (does_ld rfl) ?_
          refine XA.next 5 rfl (by kernel_rfl) ?_
          refine xk_callR (f := 96) (fi := []) (ca := []) (by kernel_rfl) rfl rfl (by decide) (fun w1 st => on_any k w1) ?_
          refine XA.bk ?_
          refine XA.next 6 rfl (by kernel_rfl) ?_
          refine xk_at id.toNat id.toNat (el := 4) (sz := 1) (by kernel_rfl) (by kernel_rfl) rfl rfl (by omega) (by omega) (by omega) (by decide) ?_
          refine XA.bt ?_
          refine XA.next 7 rfl (by kernel_rfl) ?_
          refine xk_store 2 rfl (by kernel_rfl) rfl rfl rfl (by simp at hcl; omega) ?_; dsimp only [List.set]
          refine XA.bt ?_
          refine XA.done (by kernel_rfl) ?_
          refine XK.norm ?_
          refine XK.seq ?_
          refine XK.closeOwn 2 (n := x.l.length) (c := c2) (sz := 1) (xs := boolCells (setBL x.l id (decide (onB k)))) rfl (by simpa using hcl) (by rw [Nat.mul_one, ← boolCells_setB _ hin, ← hct1, List.take_set]) hnc hcm ?_
          dsimp only [List.set]

          refine XK.region ?_
          refine xk_ldN 6 rfl ?_
          refine xk_stN rfl rfl ?_; simp only [putN, Value.cells, List.set, List.take, List.drop, List.nil_append, List.append_nil, List.length_cons, List.length_nil, List.cons_append, Nat.reduceAdd]
          refine XK.nilN ?_
          refine XK.ret ?_
          refine XK.norm ?_
          have hdx : doneX x 0 k id = ⟨x.d, x.c, (setBL x.l id (decide (onB k)))⟩ := by simp [doneX, setW, hk]
          have hdy : doneY y 0 k id = ⟨y.d, y.c, y.l⟩ := by simp [doneY, setW, hk]
          refine XK.still [] [0, 1, 2, 3, 4, 5] [6, 7, 8, 9] (by simp) rfl (by decide) (by decide) fun q hq _ hfr => ?_
          obtain ⟨F0, sf0, zf0⟩ := hq 0 _ (by simp) rfl
          obtain ⟨A0_, d0_, hB0, hs0⟩ := SlS.of_own (Y := q.Z) sf0 zf0
          injection hB0 with e1 e2 e3
          subst A0_
          obtain ⟨F1, sf1, zf1⟩ := hq 1 _ (by simp) rfl
          obtain ⟨A1_, d1_, hB1, hs1⟩ := SlS.of_own (Y := q.Z) sf1 zf1
          injection hB1 with e1 e2 e3
          subst A1_
          obtain ⟨F2, sf2, zf2⟩ := hq 2 _ (by simp) rfl
          obtain ⟨A2_, d2_, hB2, hs2⟩ := SlS.of_own (Y := q.Z) sf2 zf2
          injection hB2 with e1 e2 e3
          subst A2_
          obtain ⟨F3, sf3, zf3⟩ := hq 3 _ (by simp) rfl
          obtain ⟨A3_, d3_, hB3, hs3⟩ := SlS.of_own (Y := q.Z) sf3 zf3
          injection hB3 with e1 e2 e3
          subst A3_
          obtain ⟨F4, sf4, zf4⟩ := hq 4 _ (by simp) rfl
          obtain ⟨A4_, d4_, hB4, hs4⟩ := SlS.of_own (Y := q.Z) sf4 zf4
          injection hB4 with e1 e2 e3
          subst A4_
          obtain ⟨F5, sf5, zf5⟩ := hq 5 _ (by simp) rfl
          obtain ⟨A5_, d5_, hB5, hs5⟩ := SlS.of_own (Y := q.Z) sf5 zf5
          injection hB5 with e1 e2 e3
          subst A5_
          refine XK.retC rfl (n := 6) (vs := [.slice B0 x.d.length c0, .slice B1 x.c.length c1, .slice (some ⟨gb, 0, none⟩) x.l.length c2, .slice B3 y.d.length c3, .slice B4 y.c.length c4, .slice B5 y.l.length c5]) (by kernel_rfl) rfl rfl (RdN.whole 1 rfl) fun w1 st => ⟨⟨_, rfl, ?_⟩, st.below (by simp)⟩
          have hle := st.fresh_le (by simp) (hfr (by simp) (by simp))
          rw [show doneX x 0 k id = ⟨x.d, x.c, (setBL x.l id (decide (onB k)))⟩ from hdx, show doneY y 0 k id = ⟨y.d, y.c, y.l⟩ from hdy]
          exact ⟨B0, c0, B1, c1, (some ⟨gb, 0, none⟩), c2, B3, c3, B4, c4, B5, c5, by simp only [setBL_len], SlS.le hs0 hle, SlS.le hs1 hle, SlS.le (p := q) (by dsimp only; rw [setBL_len]; exact hs2) hle, SlS.le hs3 hle, SlS.le hs4 hle, SlS.le hs5 hle⟩
        ·
          refine XK.skip ?_
          refine XK.norm ?_
          refine XK.seq ?_

          refine XK.region ?_
          refine xk_ldN 6 rfl ?_
          refine xk_stN rfl rfl ?_; simp only [putN, Value.cells, List.set, List.take, List.drop, List.nil_append, List.append_nil, List.length_cons, List.length_nil, List.cons_append, Nat.reduceAdd]
          refine XK.nilN ?_
          refine XK.ret ?_
          refine XK.norm ?_
          have hdx : doneX x 0 k id = x := by simp [doneX, setW, hk, setBL_out _ hin]
          have hdy : doneY y 0 k id = y := by simp [doneY, setW, hk, setBL_out _ hin]
          refine XK.still [] [0, 1, 2, 3, 4, 5] [6, 7, 8, 9] (by simp) rfl (by decide) (by decide) fun q hq _ hfr => ?_
          obtain ⟨F0, sf0, zf0⟩ := hq 0 _ (by simp) rfl
          obtain ⟨A0_, d0_, hB0, hs0⟩ := SlS.of_own (Y := q.Z) sf0 zf0
          injection hB0 with e1 e2 e3
          subst A0_
          obtain ⟨F1, sf1, zf1⟩ := hq 1 _ (by simp) rfl
          obtain ⟨A1_, d1_, hB1, hs1⟩ := SlS.of_own (Y := q.Z) sf1 zf1
          injection hB1 with e1 e2 e3
          subst A1_
          obtain ⟨F2, sf2, zf2⟩ := hq 2 _ (by simp) rfl
          obtain ⟨A2_, d2_, hB2, hs2⟩ := SlS.of_own (Y := q.Z) sf2 zf2
          injection hB2 with e1 e2 e3
          subst A2_
          obtain ⟨F3, sf3, zf3⟩ := hq 3 _ (by simp) rfl
          obtain ⟨A3_, d3_, hB3, hs3⟩ := SlS.of_own (Y := q.Z) sf3 zf3
          injection hB3 with e1 e2 e3
          subst A3_
          obtain ⟨F4, sf4, zf4⟩ := hq 4 _ (by simp) rfl
          obtain ⟨A4_, d4_, hB4, hs4⟩ := SlS.of_own (Y := q.Z) sf4 zf4
          injection hB4 with e1 e2 e3
          subst A4_
          obtain ⟨F5, sf5, zf5⟩ := hq 5 _ (by simp) rfl
          obtain ⟨A5_, d5_, hB5, hs5⟩ := SlS.of_own (Y := q.Z) sf5 zf5
          injection hB5 with e1 e2 e3
          subst A5_
          refine XK.retC rfl (n := 6) (vs := [.slice B0 x.d.length c0, .slice B1 x.c.length c1, .slice B2 x.l.length c2, .slice B3 y.d.length c3, .slice B4 y.c.length c4, .slice B5 y.l.length c5]) (by kernel_rfl) rfl rfl (RdN.whole 1 rfl) fun w1 st => ⟨⟨_, rfl, ?_⟩, st.below (by simp)⟩
          have hle := st.fresh_le (by simp) (hfr (by simp) (by simp))
          rw [show doneX x 0 k id = x from hdx, show doneY y 0 k id = y from hdy]
          exact ⟨B0, c0, B1, c1, B2, c2, B3, c3, B4, c4, B5, c5, rfl, SlS.le hs0 hle, SlS.le hs1 hle, SlS.le hs2 hle, SlS.le hs3 hle, SlS.le hs4 hle, SlS.le hs5 hle⟩
      · skip

        refine XK.draw 5 (by kernel_rfl) (by kernel_rfl) ?_
        refine XA.dA 0 rfl rfl rfl (does_move rfl) ?_
        refine XA.dA 1 rfl rfl rfl (does_field (off := 0) (by kernel_rfl) rfl) ?_
        refine XA.dA 2 rfl rfl rfl (does_atA 0 0 (n := 2) (el := 68) (sz := 3) (by kernel_rfl) (by kernel_rfl) rfl rfl (by omega) (by omega) (by omega)) ?_
        refine XA.dA 3 rfl rfl rfl (does_field (off := 0) (by kernel_rfl) rfl) ?_
        refine XA.dA 4 rfl rfl rfl (does_ld rfl) ?_
        refine XA.next 5 rfl (by kernel_rfl) ?_
        refine xk_callR (f := 179) (fi := []) (ca := []) (by kernel_rfl) rfl rfl (by decide) (v0 := .slice none 0 0) (fun w1 st => (list_any g4 0 k (.slice B0 x.d.length c0) (.slice B1 x.c.length c1) (.slice B2 x.l.length c2) w1 (by simpa using (st.box (i := 6) rfl).at_ (j := 0) rfl) (by simpa using (st.box (i := 6) rfl).at_ (j := 1) rfl) (by simpa using (st.box (i := 6) rfl).at_ (j := 2) rfl)).mono fun _ _ h => Rt.conv h (by simp [listV, hk])) ?_
        refine XA.bt ?_
        refine XA.next 6 rfl (by kernel_rfl) ?_
        refine xk_assign rfl (by decide) ?_
        refine XA.bt ?_
        refine XA.done (by kernel_rfl) ?_
        refine XK.norm ?_
        refine XK.cutB 53 (0 ≤ id ∧ id < (0 : Int)) ?_ ?_
        · skip

          refine XK.region ?_
          refine xk_field (off := 1) (by kernel_rfl) rfl (by decide) ?_
          refine xk_ld rfl ?_
          refine xk_geq rfl rfl (by decide) ?_
          refine xk_move rfl (by decide) ?_
          (first | refine xk_split (t := 47) rfl (fun hg => ?_) (fun hg => ?_) | refine xk_splitB (t := 47) rfl (fun hg => ?_) (fun hg => ?_))
          ·
            refine xk_guardT rfl rfl ?_; refine xk_field (off := 1) (by kernel_rfl) rfl (by decide) ?_
            refine xk_guardT rfl rfl ?_; refine xk_ld rfl ?_
            refine xk_guardT rfl rfl ?_; refine xk_move rfl (by decide) ?_
            refine xk_guardT rfl rfl ?_; refine xk_len (el := 4) (by kernel_rfl) rfl (by decide) ?_
            refine xk_guardT rfl rfl ?_; refine xk_lss rfl rfl (by decide) ?_
            (first | refine xk_pickT rfl rfl (by decide) ?_ | refine xk_pickF rfl rfl (by decide) ?_)
            refine XK.nilN ?_
            exact XK.meetBS
          ·
            refine xk_guardF rfl rfl rfl (by decide) ?_
            refine xk_guardF rfl rfl rfl (by decide) ?_
            refine xk_guardF rfl rfl rfl (by decide) ?_
            refine xk_guardF rfl rfl rfl (by decide) ?_
            refine xk_guardF rfl rfl rfl (by decide) ?_
            (first | refine xk_pickT rfl rfl (by decide) ?_ | refine xk_pickF rfl rfl (by decide) ?_)
            refine XK.nilN ?_
            exact XK.meetBS
        refine XK.if_ rfl (fun hin => ?_) (fun hin => ?_)
        ·
          exact absurd hin (by omega)
        ·
          refine XK.skip ?_
          refine XK.norm ?_
          refine XK.seq ?_

          refine XK.region ?_
          refine xk_ldN 6 rfl ?_
          refine xk_stN rfl rfl ?_; simp only [putN, Value.cells, List.set, List.take, List.drop, List.nil_append, List.append_nil, List.length_cons, List.length_nil, List.cons_append, Nat.reduceAdd]
          refine XK.nilN ?_
          refine XK.ret ?_
          refine XK.norm ?_
          have hdx : doneX x 0 k id = x := by simp [doneX, setW, hk]
          have hdy : doneY y 0 k id = y := by simp [doneY, setW, hk]
          refine XK.still [] [0, 1, 2, 3, 4, 5] [6, 7, 8, 9] (by simp) rfl (by decide) (by decide) fun q hq _ hfr => ?_
          obtain ⟨F0, sf0, zf0⟩ := hq 0 _ (by simp) rfl
          obtain ⟨A0_, d0_, hB0, hs0⟩ := SlS.of_own (Y := q.Z) sf0 zf0
          injection hB0 with e1 e2 e3
          subst A0_
          obtain ⟨F1, sf1, zf1⟩ := hq 1 _ (by simp) rfl
          obtain ⟨A1_, d1_, hB1, hs1⟩ := SlS.of_own (Y := q.Z) sf1 zf1
          injection hB1 with e1 e2 e3
          subst A1_
          obtain ⟨F2, sf2, zf2⟩ := hq 2 _ (by simp) rfl
          obtain ⟨A2_, d2_, hB2, hs2⟩ := SlS.of_own (Y := q.Z) sf2 zf2
          injection hB2 with e1 e2 e3
          subst A2_
          obtain ⟨F3, sf3, zf3⟩ := hq 3 _ (by simp) rfl
          obtain ⟨A3_, d3_, hB3, hs3⟩ := SlS.of_own (Y := q.Z) sf3 zf3
          injection hB3 with e1 e2 e3
          subst A3_
          obtain ⟨F4, sf4, zf4⟩ := hq 4 _ (by simp) rfl
          obtain ⟨A4_, d4_, hB4, hs4⟩ := SlS.of_own (Y := q.Z) sf4 zf4
          injection hB4 with e1 e2 e3
          subst A4_
          obtain ⟨F5, sf5, zf5⟩ := hq 5 _ (by simp) rfl
          obtain ⟨A5_, d5_, hB5, hs5⟩ := SlS.of_own (Y := q.Z) sf5 zf5
          injection hB5 with e1 e2 e3
          subst A5_
          refine XK.retC rfl (n := 6) (vs := [.slice B0 x.d.length c0, .slice B1 x.c.length c1, .slice B2 x.l.length c2, .slice B3 y.d.length c3, .slice B4 y.c.length c4, .slice B5 y.l.length c5]) (by kernel_rfl) rfl rfl (RdN.whole 1 rfl) fun w1 st => ⟨⟨_, rfl, ?_⟩, st.below (by simp)⟩
          have hle := st.fresh_le (by simp) (hfr (by simp) (by simp))
          rw [show doneX x 0 k id = x from hdx, show doneY y 0 k id = y from hdy]
          exact ⟨B0, c0, B1, c1, B2, c2, B3, c3, B4, c4, B5, c5, rfl, SlS.le hs0 hle, SlS.le hs1 hle, SlS.le hs2 hle, SlS.le hs3 hle, SlS.le hs4 hle, SlS.le hs5 hle⟩
    · rcases (by by_cases h0 : k = 117 ∨ k = 100 ∨ k = 107 <;> by_cases h1 : k = 99 ∨ k = 111 <;> by_cases h2 : k = 114 ∨ k = 97 <;> simp [h0, h1, h2] : (k = 117 ∨ k = 100 ∨ k = 107) ∨ ((¬ (k = 117 ∨ k = 100 ∨ k = 107)) ∧ (k = 99 ∨ k = 111)) ∨ ((¬ (k = 117 ∨ k = 100 ∨ k = 107)) ∧ (¬ (k = 99 ∨ k = 111)) ∧ (k = 114 ∨ k = 97)) ∨ ((¬ (k = 117 ∨ k = 100 ∨ k = 107)) ∧ (¬ (k = 99 ∨ k = 111)) ∧ (¬ (k = 114 ∨ k = 97)))) with hk | hk | hk | hk
      · skip

        refine XK.draw 5 (by kernel_rfl) (by kernel_rfl) ?_
        refine XA.dA 0 rfl rfl rfl (does_move rfl) ?_
        refine XA.dA 1 rfl rfl rfl (does_field (off := 0) (by kernel_rfl) rfl) ?_
        refine XA.dA 2 rfl rfl rfl (does_atA 1 3 (n := 2) (el := 68) (sz := 3) (by kernel_rfl) (by kernel_rfl) rfl rfl (by omega) (by omega) (by omega)) ?_
        refine XA.dA 3 rfl rfl rfl (does_field (off := 0) (by kernel_rfl) rfl) ?_
        refine XA.dA 4 rfl rfl rfl (does_ld rfl) ?_
        refine XA.next 5 rfl (by kernel_rfl) ?_
        refine xk_callR (f := 179) (fi := []) (ca := []) (by kernel_rfl) rfl rfl (by decide) (v0 := .slice B3 y.d.length c3) (fun w1 st => (list_any g4 3 k (.slice B3 y.d.length c3) (.slice B4 y.c.length c4) (.slice B5 y.l.length c5) w1 (by simpa using (st.box (i := 6) rfl).at_ (j := 3) rfl) (by simpa using (st.box (i := 6) rfl).at_ (j := 4) rfl) (by simpa using (st.box (i := 6) rfl).at_ (j := 5) rfl)).mono fun _ _ h => Rt.conv h (by simp [listV, hk])) ?_
        refine XA.bt ?_
        refine XA.next 6 rfl (by kernel_rfl) ?_
        refine xk_assign rfl (by decide) ?_
        refine XA.bt ?_
        refine XA.done (by kernel_rfl) ?_
        refine XK.norm ?_
        refine XK.cutB 53 (0 ≤ id ∧ id < (y.d.length : Int)) ?_ ?_
        · skip

          refine XK.region ?_
          refine xk_field (off := 1) (by kernel_rfl) rfl (by decide) ?_
          refine xk_ld rfl ?_
          refine xk_geq rfl rfl (by decide) ?_
          refine xk_move rfl (by decide) ?_
          (first | refine xk_split (t := 47) rfl (fun hg => ?_) (fun hg => ?_) | refine xk_splitB (t := 47) rfl (fun hg => ?_) (fun hg => ?_))
          ·
            refine xk_guardT rfl rfl ?_; refine xk_field (off := 1) (by kernel_rfl) rfl (by decide) ?_
            refine xk_guardT rfl rfl ?_; refine xk_ld rfl ?_
            refine xk_guardT rfl rfl ?_; refine xk_move rfl (by decide) ?_
            refine xk_guardT rfl rfl ?_; refine xk_len (el := 4) (by kernel_rfl) rfl (by decide) ?_
            refine xk_guardT rfl rfl ?_; refine xk_lss rfl rfl (by decide) ?_
            (first | refine xk_pickT rfl rfl (by decide) ?_ | refine xk_pickF rfl rfl (by decide) ?_)
            refine XK.nilN ?_
            exact XK.meetBS
          ·
            refine xk_guardF rfl rfl rfl (by decide) ?_
            refine xk_guardF rfl rfl rfl (by decide) ?_
            refine xk_guardF rfl rfl rfl (by decide) ?_
            refine xk_guardF rfl rfl rfl (by decide) ?_
            refine xk_guardF rfl rfl rfl (by decide) ?_
            (first | refine xk_pickT rfl rfl (by decide) ?_ | refine xk_pickF rfl rfl (by decide) ?_)
            refine XK.nilN ?_
            exact XK.meetBS
        refine XK.if_ rfl (fun hin => ?_) (fun hin => ?_)
        ·
          refine XK.ownAt 3 rfl (by omega) ?_
          rintro ⟨gb, rfl⟩
          refine XK.openOwn 3 rfl fun cs hcl hct hnc hcm => ?_
          dsimp only [List.set]
          have hct1 : cs.take y.d.length = boolCells y.d := by simpa using hct

          refine XK.draw 6 (by kernel_rfl) (by kernel_rfl) ?_
          refine XA.dA 0 rfl rfl rfl (does_move rfl) ?_
          refine XA.dA 1 rfl rfl rfl (does_field (off := 1) (by kernel_rfl) rfl) ?_
          refine XA.dA 2 rfl rfl rfl (does_ld rfl) ?_
          refine XA.dA 3 rfl rfl rfl (does_field (off := 0) (by kernel_rfl) rfl) ?_
          refine XA.dA 4 rfl rfl rfl (does_ld rfl) ?_
          refine XA.next 5 rfl (by kernel_rfl) ?_
          refine xk_callR (f := 96) (fi := []) (ca := []) (by kernel_rfl) rfl rfl (by decide) (fun w1 st => on_any k w1) ?_
          refine XA.bk ?_
          refine XA.next 6 rfl (by kernel_rfl) ?_
          refine xk_at id.toNat id.toNat (el := 4) (sz := 1) (by kernel_rfl) (by kernel_rfl) rfl rfl (by omega) (by omega) (by omega) (by decide) ?_
          refine XA.bt ?_
          refine XA.next 7 rfl (by kernel_rfl) ?_
          refine xk_store 3 rfl (by kernel_rfl) rfl rfl rfl (by simp at hcl; omega) ?_; dsimp only [List.set]
          refine XA.bt ?_
          refine XA.done (by kernel_rfl) ?_
          refine XK.norm ?_
          refine XK.seq ?_
          refine XK.closeOwn 3 (n := y.d.length) (c := c3) (sz := 1) (xs := boolCells (setBL y.d id (decide (onB k)))) rfl (by simpa using hcl) (by rw [Nat.mul_one, ← boolCells_setB _ hin, ← hct1, List.take_set]) hnc hcm ?_
          dsimp only [List.set]

          refine XK.region ?_
          refine xk_ldN 6 rfl ?_
          refine xk_stN rfl rfl ?_; simp only [putN, Value.cells, List.set, List.take, List.drop, List.nil_append, List.append_nil, List.length_cons, List.length_nil, List.cons_append, Nat.reduceAdd]
          refine XK.nilN ?_
          refine XK.ret ?_
          refine XK.norm ?_
          have hdx : doneX x 1 k id = ⟨x.d, x.c, x.l⟩ := by simp [doneX, setW, hk]
          have hdy : doneY y 1 k id = ⟨(setBL y.d id (decide (onB k))), y.c, y.l⟩ := by simp [doneY, setW, hk]
          refine XK.still [] [0, 1, 2, 3, 4, 5] [6, 7, 8, 9] (by simp) rfl (by decide) (by decide) fun q hq _ hfr => ?_
          obtain ⟨F0, sf0, zf0⟩ := hq 0 _ (by simp) rfl
          obtain ⟨A0_, d0_, hB0, hs0⟩ := SlS.of_own (Y := q.Z) sf0 zf0
          injection hB0 with e1 e2 e3
          subst A0_
          obtain ⟨F1, sf1, zf1⟩ := hq 1 _ (by simp) rfl
          obtain ⟨A1_, d1_, hB1, hs1⟩ := SlS.of_own (Y := q.Z) sf1 zf1
          injection hB1 with e1 e2 e3
          subst A1_
          obtain ⟨F2, sf2, zf2⟩ := hq 2 _ (by simp) rfl
          obtain ⟨A2_, d2_, hB2, hs2⟩ := SlS.of_own (Y := q.Z) sf2 zf2
          injection hB2 with e1 e2 e3
          subst A2_
          obtain ⟨F3, sf3, zf3⟩ := hq 3 _ (by simp) rfl
          obtain ⟨A3_, d3_, hB3, hs3⟩ := SlS.of_own (Y := q.Z) sf3 zf3
          injection hB3 with e1 e2 e3
          subst A3_
          obtain ⟨F4, sf4, zf4⟩ := hq 4 _ (by simp) rfl
          obtain ⟨A4_, d4_, hB4, hs4⟩ := SlS.of_own (Y := q.Z) sf4 zf4
          injection hB4 with e1 e2 e3
          subst A4_
          obtain ⟨F5, sf5, zf5⟩ := hq 5 _ (by simp) rfl
          obtain ⟨A5_, d5_, hB5, hs5⟩ := SlS.of_own (Y := q.Z) sf5 zf5
          injection hB5 with e1 e2 e3
          subst A5_
          refine XK.retC rfl (n := 6) (vs := [.slice B0 x.d.length c0, .slice B1 x.c.length c1, .slice B2 x.l.length c2, .slice (some ⟨gb, 0, none⟩) y.d.length c3, .slice B4 y.c.length c4, .slice B5 y.l.length c5]) (by kernel_rfl) rfl rfl (RdN.whole 1 rfl) fun w1 st => ⟨⟨_, rfl, ?_⟩, st.below (by simp)⟩
          have hle := st.fresh_le (by simp) (hfr (by simp) (by simp))
          rw [show doneX x 1 k id = ⟨x.d, x.c, x.l⟩ from hdx, show doneY y 1 k id = ⟨(setBL y.d id (decide (onB k))), y.c, y.l⟩ from hdy]
          exact ⟨B0, c0, B1, c1, B2, c2, (some ⟨gb, 0, none⟩), c3, B4, c4, B5, c5, by simp only [setBL_len], SlS.le hs0 hle, SlS.le hs1 hle, SlS.le hs2 hle, SlS.le (p := q) (by dsimp only; rw [setBL_len]; exact hs3) hle, SlS.le hs4 hle, SlS.le hs5 hle⟩
        ·
          refine XK.skip ?_
          refine XK.norm ?_
          refine XK.seq ?_

          refine XK.region ?_
          refine xk_ldN 6 rfl ?_
          refine xk_stN rfl rfl ?_; simp only [putN, Value.cells, List.set, List.take, List.drop, List.nil_append, List.append_nil, List.length_cons, List.length_nil, List.cons_append, Nat.reduceAdd]
          refine XK.nilN ?_
          refine XK.ret ?_
          refine XK.norm ?_
          have hdx : doneX x 1 k id = x := by simp [doneX, setW, hk, setBL_out _ hin]
          have hdy : doneY y 1 k id = y := by simp [doneY, setW, hk, setBL_out _ hin]
          refine XK.still [] [0, 1, 2, 3, 4, 5] [6, 7, 8, 9] (by simp) rfl (by decide) (by decide) fun q hq _ hfr => ?_
          obtain ⟨F0, sf0, zf0⟩ := hq 0 _ (by simp) rfl
          obtain ⟨A0_, d0_, hB0, hs0⟩ := SlS.of_own (Y := q.Z) sf0 zf0
          injection hB0 with e1 e2 e3
          subst A0_
          obtain ⟨F1, sf1, zf1⟩ := hq 1 _ (by simp) rfl
          obtain ⟨A1_, d1_, hB1, hs1⟩ := SlS.of_own (Y := q.Z) sf1 zf1
          injection hB1 with e1 e2 e3
          subst A1_
          obtain ⟨F2, sf2, zf2⟩ := hq 2 _ (by simp) rfl
          obtain ⟨A2_, d2_, hB2, hs2⟩ := SlS.of_own (Y := q.Z) sf2 zf2
          injection hB2 with e1 e2 e3
          subst A2_
          obtain ⟨F3, sf3, zf3⟩ := hq 3 _ (by simp) rfl
          obtain ⟨A3_, d3_, hB3, hs3⟩ := SlS.of_own (Y := q.Z) sf3 zf3
          injection hB3 with e1 e2 e3
          subst A3_
          obtain ⟨F4, sf4, zf4⟩ := hq 4 _ (by simp) rfl
          obtain ⟨A4_, d4_, hB4, hs4⟩ := SlS.of_own (Y := q.Z) sf4 zf4
          injection hB4 with e1 e2 e3
          subst A4_
          obtain ⟨F5, sf5, zf5⟩ := hq 5 _ (by simp) rfl
          obtain ⟨A5_, d5_, hB5, hs5⟩ := SlS.of_own (Y := q.Z) sf5 zf5
          injection hB5 with e1 e2 e3
          subst A5_
          refine XK.retC rfl (n := 6) (vs := [.slice B0 x.d.length c0, .slice B1 x.c.length c1, .slice B2 x.l.length c2, .slice B3 y.d.length c3, .slice B4 y.c.length c4, .slice B5 y.l.length c5]) (by kernel_rfl) rfl rfl (RdN.whole 1 rfl) fun w1 st => ⟨⟨_, rfl, ?_⟩, st.below (by simp)⟩
          have hle := st.fresh_le (by simp) (hfr (by simp) (by simp))
          rw [show doneX x 1 k id = x from hdx, show doneY y 1 k id = y from hdy]
          exact ⟨B0, c0, B1, c1, B2, c2, B3, c3, B4, c4, B5, c5, rfl, SlS.le hs0 hle, SlS.le hs1 hle, SlS.le hs2 hle, SlS.le hs3 hle, SlS.le hs4 hle, SlS.le hs5 hle⟩
      · skip

        refine XK.draw 5 (by kernel_rfl) (by kernel_rfl) ?_
        refine XA.dA 0 rfl rfl rfl (does_move rfl) ?_
        refine XA.dA 1 rfl rfl rfl (does_field (off := 0) (by kernel_rfl) rfl) ?_
        refine XA.dA 2 rfl rfl rfl (does_atA 1 3 (n := 2) (el := 68) (sz := 3) (by kernel_rfl) (by kernel_rfl) rfl rfl (by omega) (by omega) (by omega)) ?_
        refine XA.dA 3 rfl rfl rfl (does_field (off := 0) (by kernel_rfl) rfl) ?_
        refine XA.dA 4 rfl rfl rfl (does_ld rfl) ?_
        refine XA.next 5 rfl (by kernel_rfl) ?_
        refine xk_callR (f := 179) (fi := []) (ca := []) (by kernel_rfl) rfl rfl (by decide) (v0 := .slice B4 y.c.length c4) (fun w1 st => (list_any g4 3 k (.slice B3 y.d.length c3) (.slice B4 y.c.length c4) (.slice B5 y.l.length c5) w1 (by simpa using (st.box (i := 6) rfl).at_ (j := 3) rfl) (by simpa using (st.box (i := 6) rfl).at_ (j := 4) rfl) (by simpa using (st.box (i := 6) rfl).at_ (j := 5) rfl)).mono fun _ _ h => Rt.conv h (by simp [listV, hk])) ?_
        refine XA.bt ?_
        refine XA.next 6 rfl (by kernel_rfl) ?_
        refine xk_assign rfl (by decide) ?_
        refine XA.bt ?_
        refine XA.done (by kernel_rfl) ?_
        refine XK.norm ?_
        refine XK.cutB 53 (0 ≤ id ∧ id < (y.c.length : Int)) ?_ ?_
        · skip

          refine XK.region ?_
          refine xk_field (off := 1) (by kernel_rfl) rfl (by decide) ?_
          refine xk_ld rfl ?_
          refine xk_geq rfl rfl (by decide) ?_
          refine xk_move rfl (by decide) ?_
          (first | refine xk_split (t := 47) rfl (fun hg => ?_) (fun hg => ?_) | refine xk_splitB (t := 47) rfl (fun hg => ?_) (fun hg => ?_))
          ·
            refine xk_guardT rfl rfl ?_; refine xk_field (off := 1) (by kernel_rfl) rfl (by decide) ?_
            refine xk_guardT rfl rfl ?_; refine xk_ld rfl ?_
            refine xk_guardT rfl rfl ?_; refine xk_move rfl (by decide) ?_
            refine xk_guardT rfl rfl ?_; refine xk_len (el := 4) (by kernel_rfl) rfl (by decide) ?_
            refine xk_guardT rfl rfl ?_; refine xk_lss rfl rfl (by decide) ?_
            (first | refine xk_pickT rfl rfl (by decide) ?_ | refine xk_pickF rfl rfl (by decide) ?_)
            refine XK.nilN ?_
            exact XK.meetBS
          ·
            refine xk_guardF rfl rfl rfl (by decide) ?_
            refine xk_guardF rfl rfl rfl (by decide) ?_
            refine xk_guardF rfl rfl rfl (by decide) ?_
            refine xk_guardF rfl rfl rfl (by decide) ?_
            refine xk_guardF rfl rfl rfl (by decide) ?_
            (first | refine xk_pickT rfl rfl (by decide) ?_ | refine xk_pickF rfl rfl (by decide) ?_)
            refine XK.nilN ?_
            exact XK.meetBS
        refine XK.if_ rfl (fun hin => ?_) (fun hin => ?_)
        ·
          refine XK.ownAt 4 rfl (by omega) ?_
          rintro ⟨gb, rfl⟩
          refine XK.openOwn 4 rfl fun cs hcl hct hnc hcm => ?_
          dsimp only [List.set]
          have hct1 : cs.take y.c.length = boolCells y.c := by simpa using hct

          refine XK.draw 6 (by kernel_rfl) (by kernel_rfl) ?_
          refine XA.dA 0 rfl rfl rfl (does_move rfl) ?_
          refine XA.dA 1 rfl rfl rfl (does_field (off := 1) (by kernel_rfl) rfl) ?_
          refine XA.dA 2 rfl rfl rfl (does_ld rfl) ?_
          refine XA.dA 3 rfl rfl rfl (does_field (off := 0) (by kernel_rfl) rfl) ?_
          refine XA.dA 4 rfl rfl rfl (does_ld rfl) ?_
          refine XA.next 5 rfl (by kernel_rfl) ?_
          refine xk_callR (f := 96) (fi := []) (ca := []) (by kernel_rfl) rfl rfl (by decide) (fun w1 st => on_any k w1) ?_
          refine XA.bk ?_
          refine XA.next 6 rfl (by kernel_rfl) ?_
          refine xk_at id.toNat id.toNat (el := 4) (sz := 1) (by kernel_rfl) (by kernel_rfl) rfl rfl (by omega) (by omega) (by omega) (by decide) ?_
          refine XA.bt ?_
          refine XA.next 7 rfl (by kernel_rfl) ?_
          refine xk_store 4 rfl (by kernel_rfl) rfl rfl rfl (by simp at hcl; omega) ?_; dsimp only [List.set]
          refine XA.bt ?_
          refine XA.done (by kernel_rfl) ?_
          refine XK.norm ?_
          refine XK.seq ?_
          refine XK.closeOwn 4 (n := y.c.length) (c := c4) (sz := 1) (xs := boolCells (setBL y.c id (decide (onB k)))) rfl (by simpa using hcl) (by rw [Nat.mul_one, ← boolCells_setB _ hin, ← hct1, List.take_set]) hnc hcm ?_
          dsimp only [List.set]

          refine XK.region ?_
          refine xk_ldN 6 rfl ?_
          refine xk_stN rfl rfl ?_; simp only [putN, Value.cells, List.set, List.take, List.drop, List.nil_append, List.append_nil, List.length_cons, List.length_nil, List.cons_append, Nat.reduceAdd]
          refine XK.nilN ?_
          refine XK.ret ?_
          refine XK.norm ?_
          have hdx : doneX x 1 k id = ⟨x.d, x.c, x.l⟩ := by simp [doneX, setW, hk]
          have hdy : doneY y 1 k id = ⟨y.d, (setBL y.c id (decide (onB k))), y.l⟩ := by simp [doneY, setW, hk]
          refine XK.still [] [0, 1, 2, 3, 4, 5] [6, 7, 8, 9] (by simp) rfl (by decide) (by decide) fun q hq _ hfr => ?_
          obtain ⟨F0, sf0, zf0⟩ := hq 0 _ (by simp) rfl
          obtain ⟨A0_, d0_, hB0, hs0⟩ := SlS.of_own (Y := q.Z) sf0 zf0
          injection hB0 with e1 e2 e3
          subst A0_
          obtain ⟨F1, sf1, zf1⟩ := hq 1 _ (by simp) rfl
          obtain ⟨A1_, d1_, hB1, hs1⟩ := SlS.of_own (Y := q.Z) sf1 zf1
          injection hB1 with e1 e2 e3
          subst A1_
          obtain ⟨F2, sf2, zf2⟩ := hq 2 _ (by simp) rfl
          obtain ⟨A2_, d2_, hB2, hs2⟩ := SlS.of_own (Y := q.Z) sf2 zf2
          injection hB2 with e1 e2 e3
          subst A2_
          obtain ⟨F3, sf3, zf3⟩ := hq 3 _ (by simp) rfl
          obtain ⟨A3_, d3_, hB3, hs3⟩ := SlS.of_own (Y := q.Z) sf3 zf3
          injection hB3 with e1 e2 e3
          subst A3_
          obtain ⟨F4, sf4, zf4⟩ := hq 4 _ (by simp) rfl
          obtain ⟨A4_, d4_, hB4, hs4⟩ := SlS.of_own (Y := q.Z) sf4 zf4
          injection hB4 with e1 e2 e3
          subst A4_
          obtain ⟨F5, sf5, zf5⟩ := hq 5 _ (by simp) rfl
          obtain ⟨A5_, d5_, hB5, hs5⟩ := SlS.of_own (Y := q.Z) sf5 zf5
          injection hB5 with e1 e2 e3
          subst A5_
          refine XK.retC rfl (n := 6) (vs := [.slice B0 x.d.length c0, .slice B1 x.c.length c1, .slice B2 x.l.length c2, .slice B3 y.d.length c3, .slice (some ⟨gb, 0, none⟩) y.c.length c4, .slice B5 y.l.length c5]) (by kernel_rfl) rfl rfl (RdN.whole 1 rfl) fun w1 st => ⟨⟨_, rfl, ?_⟩, st.below (by simp)⟩
          have hle := st.fresh_le (by simp) (hfr (by simp) (by simp))
          rw [show doneX x 1 k id = ⟨x.d, x.c, x.l⟩ from hdx, show doneY y 1 k id = ⟨y.d, (setBL y.c id (decide (onB k))), y.l⟩ from hdy]
          exact ⟨B0, c0, B1, c1, B2, c2, B3, c3, (some ⟨gb, 0, none⟩), c4, B5, c5, by simp only [setBL_len], SlS.le hs0 hle, SlS.le hs1 hle, SlS.le hs2 hle, SlS.le hs3 hle, SlS.le (p := q) (by dsimp only; rw [setBL_len]; exact hs4) hle, SlS.le hs5 hle⟩
        ·
          refine XK.skip ?_
          refine XK.norm ?_
          refine XK.seq ?_

          refine XK.region ?_
          refine xk_ldN 6 rfl ?_
          refine xk_stN rfl rfl ?_; simp only [putN, Value.cells, List.set, List.take, List.drop, List.nil_append, List.append_nil, List.length_cons, List.length_nil, List.cons_append, Nat.reduceAdd]
          refine XK.nilN ?_
          refine XK.ret ?_
          refine XK.norm ?_
          have hdx : doneX x 1 k id = x := by simp [doneX, setW, hk, setBL_out _ hin]
          have hdy : doneY y 1 k id = y := by simp [doneY, setW, hk, setBL_out _ hin]
          refine XK.still [] [0, 1, 2, 3, 4, 5] [6, 7, 8, 9] (by simp) rfl (by decide) (by decide) fun q hq _ hfr => ?_
          obtain ⟨F0, sf0, zf0⟩ := hq 0 _ (by simp) rfl
          obtain ⟨A0_, d0_, hB0, hs0⟩ := SlS.of_own (Y := q.Z) sf0 zf0
          injection hB0 with e1 e2 e3
          subst A0_
          obtain ⟨F1, sf1, zf1⟩ := hq 1 _ (by simp) rfl
          obtain ⟨A1_, d1_, hB1, hs1⟩ := SlS.of_own (Y := q.Z) sf1 zf1
          injection hB1 with e1 e2 e3
          subst A1_
          obtain ⟨F2, sf2, zf2⟩ := hq 2 _ (by simp) rfl
          obtain ⟨A2_, d2_, hB2, hs2⟩ := SlS.of_own (Y := q.Z) sf2 zf2
          injection hB2 with e1 e2 e3
          subst A2_
          obtain ⟨F3, sf3, zf3⟩ := hq 3 _ (by simp) rfl
          obtain ⟨A3_, d3_, hB3, hs3⟩ := SlS.of_own (Y := q.Z) sf3 zf3
          injection hB3 with e1 e2 e3
          subst A3_
          obtain ⟨F4, sf4, zf4⟩ := hq 4 _ (by simp) rfl
          obtain ⟨A4_, d4_, hB4, hs4⟩ := SlS.of_own (Y := q.Z) sf4 zf4
          injection hB4 with e1 e2 e3
          subst A4_
          obtain ⟨F5, sf5, zf5⟩ := hq 5 _ (by simp) rfl
          obtain ⟨A5_, d5_, hB5, hs5⟩ := SlS.of_own (Y := q.Z) sf5 zf5
          injection hB5 with e1 e2 e3
          subst A5_
          refine XK.retC rfl (n := 6) (vs := [.slice B0 x.d.length c0, .slice B1 x.c.length c1, .slice B2 x.l.length c2, .slice B3 y.d.length c3, .slice B4 y.c.length c4, .slice B5 y.l.length c5]) (by kernel_rfl) rfl rfl (RdN.whole 1 rfl) fun w1 st => ⟨⟨_, rfl, ?_⟩, st.below (by simp)⟩
          have hle := st.fresh_le (by simp) (hfr (by simp) (by simp))
          rw [show doneX x 1 k id = x from hdx, show doneY y 1 k id = y from hdy]
          exact ⟨B0, c0, B1, c1, B2, c2, B3, c3, B4, c4, B5, c5, rfl, SlS.le hs0 hle, SlS.le hs1 hle, SlS.le hs2 hle, SlS.le hs3 hle, SlS.le hs4 hle, SlS.le hs5 hle⟩
      · skip

        refine XK.draw 5 (by kernel_rfl) (by kernel_rfl) ?_
        refine XA.dA 0 rfl rfl rfl (does_move rfl) ?_
        refine XA.dA 1 rfl rfl rfl (does_field (off := 0) (by kernel_rfl) rfl) ?_
        refine XA.dA 2 rfl rfl rfl (does_atA 1 3 (n := 2) (el := 68) (sz := 3) (by kernel_rfl) (by kernel_rfl) rfl rfl (by omega) (by omega) (by omega)) ?_
        refine XA.dA 3 rfl rfl rfl (does_field (off := 0) (by kernel_rfl) rfl) ?_
        refine XA.dA 4 rfl rfl rfl (does_ld rfl) ?_
        refine XA.next 5 rfl (by kernel_rfl) ?_
        refine xk_callR (f := 179) (fi := []) (ca := []) (by kernel_rfl) rfl rfl (by decide) (v0 := .slice B5 y.l.length c5) (fun w1 st => (list_any g4 3 k (.slice B3 y.d.length c3) (.slice B4 y.c.length c4) (.slice B5 y.l.length c5) w1 (by simpa using (st.box (i := 6) rfl).at_ (j := 3) rfl) (by simpa using (st.box (i := 6) rfl).at_ (j := 4) rfl) (by simpa using (st.box (i := 6) rfl).at_ (j := 5) rfl)).mono fun _ _ h => Rt.conv h (by simp [listV, hk])) ?_
        refine XA.bt ?_
        refine XA.next 6 rfl (by kernel_rfl) ?_
        refine xk_assign rfl (by decide) ?_
        refine XA.bt ?_
        refine XA.done (by kernel_rfl) ?_
        refine XK.norm ?_
        refine XK.cutB 53 (0 ≤ id ∧ id < (y.l.length : Int)) ?_ ?_
        · skip

          refine XK.region ?_
          refine xk_field (off := 1) (by kernel_rfl) rfl (by decide) ?_
          refine xk_ld rfl ?_
          refine xk_geq rfl rfl (by decide) ?_
          refine xk_move rfl (by decide) ?_
          (first | refine xk_split (t := 47) rfl (fun hg => ?_) (fun hg => ?_) | refine xk_splitB (t := 47) rfl (fun hg => ?_) (fun hg => ?_))
          ·
            refine xk_guardT rfl rfl ?_; refine xk_field (off := 1) (by kernel_rfl) rfl (by decide) ?_
            refine xk_guardT rfl rfl ?_; refine xk_ld rfl ?_
            refine xk_guardT rfl rfl ?_; refine xk_move rfl (by decide) ?_
            refine xk_guardT rfl rfl ?_; refine xk_len (el := 4) (by kernel_rfl) rfl (by decide) ?_
            refine xk_guardT rfl rfl ?_; refine xk_lss rfl rfl (by decide) ?_
            (first | refine xk_pickT rfl rfl (by decide) ?_ | refine xk_pickF rfl rfl (by decide) ?_)
            refine XK.nilN ?_
            exact XK.meetBS
          ·
            refine xk_guardF rfl rfl rfl (by decide) ?_
            refine xk_guardF rfl rfl rfl (by decide) ?_
            refine xk_guardF rfl rfl rfl (by decide) ?_
            refine xk_guardF rfl rfl rfl (by decide) ?_
            refine xk_guardF rfl rfl rfl (by decide) ?_
            (first | refine xk_pickT rfl rfl (by decide) ?_ | refine xk_pickF rfl rfl (by decide) ?_)
            refine XK.nilN ?_
            exact XK.meetBS
        refine XK.if_ rfl (fun hin => ?_) (fun hin => ?_)
        ·
          refine XK.ownAt 5 rfl (by omega) ?_
          rintro ⟨gb, rfl⟩
          refine XK.openOwn 5 rfl fun cs hcl hct hnc hcm => ?_
          dsimp only [List.set]
          have hct1 : cs.take y.l.length = boolCells y.l := by simpa using hct

          refine XK.draw 6 (by kernel_rfl) (by kernel_rfl) ?_
          refine XA.dA 0 rfl rfl rfl (does_move rfl) ?_
          refine XA.dA 1 rfl rfl rfl (does_field (off := 1) (by kernel_rfl) rfl) ?_
          refine XA.dA 2 rfl rfl rfl (does_ld rfl) ?_
          refine XA.dA 3 rfl rfl rfl (does_field (off := 0) (by kernel_rfl) rfl) ?_
          refine XA.dA 4 rfl rfl rfl (does_ld rfl) ?_
          refine XA.next 5 rfl (by kernel_rfl) ?_
          refine xk_callR (f := 96) (fi := []) (ca := []) (by kernel_rfl) rfl rfl (by decide) (fun w1 st => on_any k w1) ?_
          refine XA.bk ?_
          refine XA.next 6 rfl (by kernel_rfl) ?_
          refine xk_at id.toNat id.toNat (el := 4) (sz := 1) (by kernel_rfl) (by kernel_rfl) rfl rfl (by omega) (by omega) (by omega) (by decide) ?_
          refine XA.bt ?_
          refine XA.next 7 rfl (by kernel_rfl) ?_
          refine xk_store 5 rfl (by kernel_rfl) rfl rfl rfl (by simp at hcl; omega) ?_; dsimp only [List.set]
          refine XA.bt ?_
          refine XA.done (by kernel_rfl) ?_
          refine XK.norm ?_
          refine XK.seq ?_
          refine XK.closeOwn 5 (n := y.l.length) (c := c5) (sz := 1) (xs := boolCells (setBL y.l id (decide (onB k)))) rfl (by simpa using hcl) (by rw [Nat.mul_one, ← boolCells_setB _ hin, ← hct1, List.take_set]) hnc hcm ?_
          dsimp only [List.set]

          refine XK.region ?_
          refine xk_ldN 6 rfl ?_
          refine xk_stN rfl rfl ?_; simp only [putN, Value.cells, List.set, List.take, List.drop, List.nil_append, List.append_nil, List.length_cons, List.length_nil, List.cons_append, Nat.reduceAdd]
          refine XK.nilN ?_
          refine XK.ret ?_
          refine XK.norm ?_
          have hdx : doneX x 1 k id = ⟨x.d, x.c, x.l⟩ := by simp [doneX, setW, hk]
          have hdy : doneY y 1 k id = ⟨y.d, y.c, (setBL y.l id (decide (onB k)))⟩ := by simp [doneY, setW, hk]
          refine XK.still [] [0, 1, 2, 3, 4, 5] [6, 7, 8, 9] (by simp) rfl (by decide) (by decide) fun q hq _ hfr => ?_
          obtain ⟨F0, sf0, zf0⟩ := hq 0 _ (by simp) rfl
          obtain ⟨A0_, d0_, hB0, hs0⟩ := SlS.of_own (Y := q.Z) sf0 zf0
          injection hB0 with e1 e2 e3
          subst A0_
          obtain ⟨F1, sf1, zf1⟩ := hq 1 _ (by simp) rfl
          obtain ⟨A1_, d1_, hB1, hs1⟩ := SlS.of_own (Y := q.Z) sf1 zf1
          injection hB1 with e1 e2 e3
          subst A1_
          obtain ⟨F2, sf2, zf2⟩ := hq 2 _ (by simp) rfl
          obtain ⟨A2_, d2_, hB2, hs2⟩ := SlS.of_own (Y := q.Z) sf2 zf2
          injection hB2 with e1 e2 e3
          subst A2_
          obtain ⟨F3, sf3, zf3⟩ := hq 3 _ (by simp) rfl
          obtain ⟨A3_, d3_, hB3, hs3⟩ := SlS.of_own (Y := q.Z) sf3 zf3
          injection hB3 with e1 e2 e3
          subst A3_
          obtain ⟨F4, sf4, zf4⟩ := hq 4 _ (by simp) rfl
          obtain ⟨A4_, d4_, hB4, hs4⟩ := SlS.of_own (Y := q.Z) sf4 zf4
          injection hB4 with e1 e2 e3
          subst A4_
          obtain ⟨F5, sf5, zf5⟩ := hq 5 _ (by simp) rfl
          obtain ⟨A5_, d5_, hB5, hs5⟩ := SlS.of_own (Y := q.Z) sf5 zf5
          injection hB5 with e1 e2 e3
          subst A5_
          refine XK.retC rfl (n := 6) (vs := [.slice B0 x.d.length c0, .slice B1 x.c.length c1, .slice B2 x.l.length c2, .slice B3 y.d.length c3, .slice B4 y.c.length c4, .slice (some ⟨gb, 0, none⟩) y.l.length c5]) (by kernel_rfl) rfl rfl (RdN.whole 1 rfl) fun w1 st => ⟨⟨_, rfl, ?_⟩, st.below (by simp)⟩
          have hle := st.fresh_le (by simp) (hfr (by simp) (by simp))
          rw [show doneX x 1 k id = ⟨x.d, x.c, x.l⟩ from hdx, show doneY y 1 k id = ⟨y.d, y.c, (setBL y.l id (decide (onB k)))⟩ from hdy]
          exact ⟨B0, c0, B1, c1, B2, c2, B3, c3, B4, c4, (some ⟨gb, 0, none⟩), c5, by simp only [setBL_len], SlS.le hs0 hle, SlS.le hs1 hle, SlS.le hs2 hle, SlS.le hs3 hle, SlS.le hs4 hle, SlS.le (p := q) (by dsimp only; rw [setBL_len]; exact hs5) hle⟩
        ·
          refine XK.skip ?_
          refine XK.norm ?_
          refine XK.seq ?_

          refine XK.region ?_
          refine xk_ldN 6 rfl ?_
          refine xk_stN rfl rfl ?_; simp only [putN, Value.cells, List.set, List.take, List.drop, List.nil_append, List.append_nil, List.length_cons, List.length_nil, List.cons_append, Nat.reduceAdd]
          refine XK.nilN ?_
          refine XK.ret ?_
          refine XK.norm ?_
          have hdx : doneX x 1 k id = x := by simp [doneX, setW, hk, setBL_out _ hin]
          have hdy : doneY y 1 k id = y := by simp [doneY, setW, hk, setBL_out _ hin]
          refine XK.still [] [0, 1, 2, 3, 4, 5] [6, 7, 8, 9] (by simp) rfl (by decide) (by decide) fun q hq _ hfr => ?_
          obtain ⟨F0, sf0, zf0⟩ := hq 0 _ (by simp) rfl
          obtain ⟨A0_, d0_, hB0, hs0⟩ := SlS.of_own (Y := q.Z) sf0 zf0
          injection hB0 with e1 e2 e3
          subst A0_
          obtain ⟨F1, sf1, zf1⟩ := hq 1 _ (by simp) rfl
          obtain ⟨A1_, d1_, hB1, hs1⟩ := SlS.of_own (Y := q.Z) sf1 zf1
          injection hB1 with e1 e2 e3
          subst A1_
          obtain ⟨F2, sf2, zf2⟩ := hq 2 _ (by simp) rfl
          obtain ⟨A2_, d2_, hB2, hs2⟩ := SlS.of_own (Y := q.Z) sf2 zf2
          injection hB2 with e1 e2 e3
          subst A2_
          obtain ⟨F3, sf3, zf3⟩ := hq 3 _ (by simp) rfl
          obtain ⟨A3_, d3_, hB3, hs3⟩ := SlS.of_own (Y := q.Z) sf3 zf3
          injection hB3 with e1 e2 e3
          subst A3_
          obtain ⟨F4, sf4, zf4⟩ := hq 4 _ (by simp) rfl
          obtain ⟨A4_, d4_, hB4, hs4⟩ := SlS.of_own (Y := q.Z) sf4 zf4
          injection hB4 with e1 e2 e3
          subst A4_
          obtain ⟨F5, sf5, zf5⟩ := hq 5 _ (by simp) rfl
          obtain ⟨A5_, d5_, hB5, hs5⟩ := SlS.of_own (Y := q.Z) sf5 zf5
          injection hB5 with e1 e2 e3
          subst A5_
          refine XK.retC rfl (n := 6) (vs := [.slice B0 x.d.length c0, .slice B1 x.c.length c1, .slice B2 x.l.length c2, .slice B3 y.d.length c3, .slice B4 y.c.length c4, .slice B5 y.l.length c5]) (by kernel_rfl) rfl rfl (RdN.whole 1 rfl) fun w1 st => ⟨⟨_, rfl, ?_⟩, st.below (by simp)⟩
          have hle := st.fresh_le (by simp) (hfr (by simp) (by simp))
          rw [show doneX x 1 k id = x from hdx, show doneY y 1 k id = y from hdy]
          exact ⟨B0, c0, B1, c1, B2, c2, B3, c3, B4, c4, B5, c5, rfl, SlS.le hs0 hle, SlS.le hs1 hle, SlS.le hs2 hle, SlS.le hs3 hle, SlS.le hs4 hle, SlS.le hs5 hle⟩
      · skip

        refine XK.draw 5 (by kernel_rfl) (by kernel_rfl) ?_
        refine XA.dA 0 rfl rfl rfl (does_move rfl) ?_
        refine XA.dA 1 rfl rfl rfl (does_field (off := 0) (by kernel_rfl) rfl) ?_
        refine XA.dA 2 rfl rfl rfl (does_atA 1 3 (n := 2) (el := 68) (sz := 3) (by kernel_rfl) (by kernel_rfl) rfl rfl (by omega) (by omega) (by omega)) ?_
        refine XA.dA 3 rfl rfl rfl (does_field (off := 0) (by kernel_rfl) rfl) ?_
        refine XA.dA 4 rfl rfl rfl (does_ld rfl) ?_
        refine XA.next 5 rfl (by kernel_rfl) ?_
        refine xk_callR (f := 179) (fi := []) (ca := []) (by kernel_rfl) rfl rfl (by decide) (v0 := .slice none 0 0) (fun w1 st => (list_any g4 3 k (.slice B3 y.d.length c3) (.slice B4 y.c.length c4) (.slice B5 y.l.length c5) w1 (by simpa using (st.box (i := 6) rfl).at_ (j := 3) rfl) (by simpa using (st.box (i := 6) rfl).at_ (j := 4) rfl) (by simpa using (st.box (i := 6) rfl).at_ (j := 5) rfl)).mono fun _ _ h => Rt.conv h (by simp [listV, hk])) ?_
        refine XA.bt ?_
        refine XA.next 6 rfl (by kernel_rfl) ?_
        refine xk_assign rfl (by decide) ?_
        refine XA.bt ?_
        refine XA.done (by kernel_rfl) ?_
        refine XK.norm ?_
        refine XK.cutB 53 (0 ≤ id ∧ id < (0 : Int)) ?_ ?_
        · skip

          refine XK.region ?_
          refine xk_field (off := 1) (by kernel_rfl) rfl (by decide) ?_
          refine xk_ld rfl ?_
          refine xk_geq rfl rfl (by decide) ?_
          refine xk_move rfl (by decide) ?_
          (first | refine xk_split (t := 47) rfl (fun hg => ?_) (fun hg => ?_) | refine xk_splitB (t := 47) rfl (fun hg => ?_) (fun hg => ?_))
          ·
            refine xk_guardT rfl rfl ?_; refine xk_field (off := 1) (by kernel_rfl) rfl (by decide) ?_
            refine xk_guardT rfl rfl ?_; refine xk_ld rfl ?_
            refine xk_guardT rfl rfl ?_; refine xk_move rfl (by decide) ?_
            refine xk_guardT rfl rfl ?_; refine xk_len (el := 4) (by kernel_rfl) rfl (by decide) ?_
            refine xk_guardT rfl rfl ?_; refine xk_lss rfl rfl (by decide) ?_
            (first | refine xk_pickT rfl rfl (by decide) ?_ | refine xk_pickF rfl rfl (by decide) ?_)
            refine XK.nilN ?_
            exact XK.meetBS
          ·
            refine xk_guardF rfl rfl rfl (by decide) ?_
            refine xk_guardF rfl rfl rfl (by decide) ?_
            refine xk_guardF rfl rfl rfl (by decide) ?_
            refine xk_guardF rfl rfl rfl (by decide) ?_
            refine xk_guardF rfl rfl rfl (by decide) ?_
            (first | refine xk_pickT rfl rfl (by decide) ?_ | refine xk_pickF rfl rfl (by decide) ?_)
            refine XK.nilN ?_
            exact XK.meetBS
        refine XK.if_ rfl (fun hin => ?_) (fun hin => ?_)
        ·
          exact absurd hin (by omega)
        ·
          refine XK.skip ?_
          refine XK.norm ?_
          refine XK.seq ?_

          refine XK.region ?_
          refine xk_ldN 6 rfl ?_
          refine xk_stN rfl rfl ?_; simp only [putN, Value.cells, List.set, List.take, List.drop, List.nil_append, List.append_nil, List.length_cons, List.length_nil, List.cons_append, Nat.reduceAdd]
          refine XK.nilN ?_
          refine XK.ret ?_
          refine XK.norm ?_
          have hdx : doneX x 1 k id = x := by simp [doneX, setW, hk]
          have hdy : doneY y 1 k id = y := by simp [doneY, setW, hk]
          refine XK.still [] [0, 1, 2, 3, 4, 5] [6, 7, 8, 9] (by simp) rfl (by decide) (by decide) fun q hq _ hfr => ?_
          obtain ⟨F0, sf0, zf0⟩ := hq 0 _ (by simp) rfl
          obtain ⟨A0_, d0_, hB0, hs0⟩ := SlS.of_own (Y := q.Z) sf0 zf0
          injection hB0 with e1 e2 e3
          subst A0_
          obtain ⟨F1, sf1, zf1⟩ := hq 1 _ (by simp) rfl
          obtain ⟨A1_, d1_, hB1, hs1⟩ := SlS.of_own (Y := q.Z) sf1 zf1
          injection hB1 with e1 e2 e3
          subst A1_
          obtain ⟨F2, sf2, zf2⟩ := hq 2 _ (by simp) rfl
          obtain ⟨A2_, d2_, hB2, hs2⟩ := SlS.of_own (Y := q.Z) sf2 zf2
          injection hB2 with e1 e2 e3
          subst A2_
          obtain ⟨F3, sf3, zf3⟩ := hq 3 _ (by simp) rfl
          obtain ⟨A3_, d3_, hB3, hs3⟩ := SlS.of_own (Y := q.Z) sf3 zf3
          injection hB3 with e1 e2 e3
          subst A3_
          obtain ⟨F4, sf4, zf4⟩ := hq 4 _ (by simp) rfl
          obtain ⟨A4_, d4_, hB4, hs4⟩ := SlS.of_own (Y := q.Z) sf4 zf4
          injection hB4 with e1 e2 e3
          subst A4_
          obtain ⟨F5, sf5, zf5⟩ := hq 5 _ (by simp) rfl
          obtain ⟨A5_, d5_, hB5, hs5⟩ := SlS.of_own (Y := q.Z) sf5 zf5
          injection hB5 with e1 e2 e3
          subst A5_
          refine XK.retC rfl (n := 6) (vs := [.slice B0 x.d.length c0, .slice B1 x.c.length c1, .slice B2 x.l.length c2, .slice B3 y.d.length c3, .slice B4 y.c.length c4, .slice B5 y.l.length c5]) (by kernel_rfl) rfl rfl (RdN.whole 1 rfl) fun w1 st => ⟨⟨_, rfl, ?_⟩, st.below (by simp)⟩
          have hle := st.fresh_le (by simp) (hfr (by simp) (by simp))
          rw [show doneX x 1 k id = x from hdx, show doneY y 1 k id = y from hdy]
          exact ⟨B0, c0, B1, c1, B2, c2, B3, c3, B4, c4, B5, c5, rfl, SlS.le hs0 hle, SlS.le hs1 hle, SlS.le hs2 hle, SlS.le hs3 hle, SlS.le hs4 hle, SlS.le hs5 hle⟩

end Go.Proofs.YticjkhagldkejaaGreatDoor
/- package firm: take. -/
namespace Go.Proofs.YticjkhagldkejaaGreatDoor
set_option linter.all false
set_option maxHeartbeats 4000000
set_option maxRecDepth 20000
open Go.RowKit
section
variable {P : Program} {N : Frm} {w0 w : World} {e : Env} {R : List Piece} {H : List HP} {K : Act → World → Prop} {f h : Nat} {L : FmL} {s : Soc} {z : FmS} {Q : Exit → Act → World → Prop}
theorem XK.cutT {y : Code} {x : Code} (M : Env → List Piece → List HP → Prop) (h : XK N w0 (x.wp P (Exit.then (fun a' w' => ∃ e' R' H', M e' R' H' ∧ Rep N e' a' ∧ St w0 R' H' w') Q)) e R H)
  (hy : ∀ e' R' H', M e' R' H' → XK N w0 (y.wp P Q) e' R' H') : XK N w0 (x.wp P (Exit.then (y.wp P Q) Q)) e R H := fun a w hr st =>
 wp_mono (h a w hr st) fun x a' w' hq => by
  cases x with
  | normal =>
   obtain ⟨e', R', H', hm, hr', st'⟩ := hq
   exact hy e' R' H' hm a' w' hr' st'
  | _ => exact hq
theorem Rd.firm (i : Nat) {o : Nat} {v : Value} (hi : H[i]? = some (FirmH f h L s z)) (hv : (fmC h L s z)[o]? = some v) : Rd w0 R H f o v := fun w t => by
 have := ((t.firmR i hi).r0.at_ hv).2
 rwa [Nat.zero_add] at this
theorem RdN.firm (i : Nat) {o : Nat} {vs : List Value} (hi : H[i]? = some (FirmH f h L s z)) (hv : ((fmC h L s z).drop o).take vs.length = vs) : RdN w0 R H f o vs := .of fun _ _ hj => Rd.firm i hi (cell_mid hv hj)
end
def bxA (L : FmL) (b : Nat) : AC := if b = 0 then L.b0 else L.b1
section
variable {h : Nat} {L : FmL} {s : Soc} {z : FmS}
theorem fmC_has {b : Nat} (hb : b < 2) : (fmC h L s z)[11 + b * 2]? = some (.int .i64 (hasB' z b)) := by
 obtain rfl | rfl : b = 0 ∨ b = 1 := by omega
 ·rfl
 ·rfl
theorem fmC_box {b : Nat} (hb : b < 2) : (fmC h L s z)[12 + b * 2]? = some (.slice (bxA L b).1 (boxW z b).length (bxA L b).2) := by
 obtain rfl | rfl : b = 0 ∨ b = 1 := by omega
 ·rfl
 ·rfl
theorem FirmR.box {w : World} {f : Nat} (k : FirmR w f h L s z) {b : Nat} (hb : b < 2) : SlS (all w) 1 (bxA L b).1 (boxW z b).length (u32Cells (boxW z b)) := by
 obtain rfl | rfl : b = 0 ∨ b = 1 := by omega
 ·exact k.b0
 ·exact k.b1
theorem FirmR.stR {w : World} {f : Nat} (k : FirmR w f h L s z) : StR (all w) z.x z.y (.agg #[.slice L.x1.1 z.x.d.length L.x1.2, .slice L.x2.1 z.x.c.length L.x2.2, .slice L.x3.1 z.x.l.length L.x3.2, .slice L.y1.1 z.y.d.length L.y1.2, .slice L.y2.1 z.y.c.length L.y2.2, .slice L.y3.1 z.y.l.length L.y3.2]) :=
 ⟨_, _, _, _, _, _, _, _, _, _, _, _, rfl, k.st.1, k.st.2.1, k.st.2.2.1, k.st.2.2.2.1, k.st.2.2.2.2.1, k.st.2.2.2.2.2⟩
end
structure FmOk (s : Soc) (z : FmS) : Prop where
 la : z.last = 0 ∨ z.last = 1
 u0 : U32s z.w0
 u1 : U32s z.w1
 n0 : z.w0.length ≤ 1000000
 n1 : z.w1.length ≤ 1000000
 sx : z.x.sm
 sy : z.y.sm
theorem FmOk.box {s : Soc} {z : FmS} (h : FmOk s z) (b : Nat) : U32s (boxW z b) ∧ (boxW z b).length ≤ 1000000 := by
 unfold boxW
 split
 ·exact ⟨h.u0, h.n0⟩
 ·exact ⟨h.u1, h.n1⟩
def decZ (s : Soc) (x : HwS) (z : FmS) (a : Nat) : Int × Int × Int := decF s z.x z.y (waitL s x) a (boxW z a)
def takeA (s : Soc) (x : HwS) (z : FmS) (a : Nat) : FmS × Bool :=
 let d := decZ s x z a
 if d.2.1 = 0 then (replyF s x { z with last := a } a d.1, false)
 else ({ z with last := a, x := doneX z.x a d.2.1 d.2.2, y := doneY z.y a d.2.1 d.2.2, at_ := a, kind := d.2.1, id := d.2.2 }, true)
def takeF (s : Soc) (x : HwS) (z : FmS) : FmS × Bool := match nextF z with
 | none => (z, false)
 | some a => takeA s x z a
theorem fmTake_some (f : Nat) (hL : HL) (s : Soc) (z : FmS) (x : HwS) (hH : s.okH) (hLo : HLOk hL s) (hok : HwOk s x) (hz : FmOk s z) (l a : Nat) (hl : z.last = (l : Int)) (hl1 : l ≤ 1) (ha : a < 2) (hab : (hasB' z (1 - l) = 1 ∧ a = 1 - l) ∨ (hasB' z (1 - l) ≠ 1 ∧ a = l)) (h1 : hasB' z a = 1)
  (hst : (decZ s x z a).2.1 = 0 → (decZ s x z a).1 = 0 → ReplyOk (boxW z a)) (w : World) (F : Nat → Prop) (hp : (MachH f hL s z x).sat F w) (hF : ∀ b, F b → b < w.heap.size) :
  Calls Tryz.prog 74 #[.pointer (some ⟨f, 0, none⟩)] w (fun y w' => y = .returned (.bool (takeA s x z a).2) ∧ ∃ F', (MachH f hL s (takeA s x z a).1 x).sat F' w' ∧ Turns w w' F F') := by
 have hnv := hH.t.nv
 unfold takeA
 generalize hdz : decZ s x z a = dz at hst ⊢
 obtain ⟨st, k, id⟩ := dz
 dsimp only at hst ⊢
 obtain ⟨hbu, hbn⟩ := hz.box a
 refine XK.enterM (p := MachH f hL s z x) (F := F) (vs := [.pointer (some ⟨f, 0, none⟩)]) Tryz.func74 rfl Tryz.ntmps74 (by simp) hp hF ?_
 refine XK.take 0 0 rfl rfl ?_
 dsimp only [List.set]
 refine XK.openEx 0 rfl fun L => ?_
 dsimp only [List.set]
 have hc15 : (fmC hL.h L s z)[15]? = some (.int .i64 (l : Int)) := by rw [← hl]; rfl
 refine XK.seq ?_
 refine XK.region ?_
 refine kdo ?_
 refine XK.nilN ?_
 refine XK.seq ?_
 refine XK.region ?_
 refine kdo ?_
 refine kdo ?_
 refine kdo ?_
 refine kd (does_ld1 rfl (Rd.firm 0 rfl hc15)) ?_
 refine kd (does_sub rfl rfl (c := ((1 - l : Nat) : Int)) (by rw [show (1 : Int) - (l : Int) = ((1 - l : Nat) : Int) by omega]; exact wrap_in (by omega))) ?_
 refine kdo ?_
 refine XK.nilN ?_
 refine XK.cut (fun e R H => e = [(3, .int .i64 (a : Int)), (0, .pointer (some ⟨f, 0, none⟩))] ∧ R = [⟨w, fun b => b < w.heap.size ∧ ¬ F b⟩] ∧ H = [FirmH f hL.h L s z, HP.many [HP.emp, HardH hL s x]]) ?_ ?_
 ·refine XK.seq ?_
  refine XK.region ?_
  refine kdo ?_
  refine kdo ?_
  refine kdo ?_
  refine kdo ?_
  refine kd (datA (1 - l) (11 + (1 - l) * 2)) ?_
  refine kdo ?_
  refine kd (does_ld1 rfl (Rd.firm 0 rfl (fmC_has (by omega)))) ?_
  refine kdo ?_
  refine XK.nilN ?_
  rcases hab with ⟨h2, rfl⟩ | ⟨h2, rfl⟩
  ·refine XK.if_ rfl (fun h => absurd h2 h) (fun _ => ?_)
   refine XK.skip ?_
   refine XK.norm ?_
   exact XK.envS [(3, .int .i64 ((1 - l : Nat) : Int)), (0, .pointer (some ⟨f, 0, none⟩))] (XK.meet ⟨rfl, rfl, rfl⟩)
  ·refine XK.if_ rfl (fun _ => ?_) (fun h => absurd h2 h)
   refine XK.region ?_
   refine kdo ?_
   refine kdo ?_
   refine kdo ?_
   refine kd (does_ld1 rfl (Rd.firm 0 rfl hc15)) ?_
   refine kdo ?_
   refine XK.nilN ?_
   exact XK.envS [(3, .int .i64 (a : Int)), (0, .pointer (some ⟨f, 0, none⟩))] (XK.meet ⟨rfl, rfl, rfl⟩)
 rintro _ _ _ ⟨rfl, rfl, rfl⟩
 refine XK.go ?_
 refine kd (datA a (11 + a * 2)) ?_
 refine XK.go ?_
 refine kd (does_ld1 rfl (Rd.firm 0 rfl (fmC_has ha))) ?_
 refine XK.go ?_
 refine XK.if_ rfl (fun h => absurd h1 h) (fun _ => ?_)
 refine XK.go ?_
 refine XK.take 0 0 rfl rfl ?_
 dsimp only [List.set]
 refine kst rfl rfl ?_ (hs := StoreAt.mk 0 rfl OneT.h rfl (by simp [fmC]))
 dsimp only [List.set]
 rw [show (fmC hL.h L s z).set (0 + 15) (.int .i64 (a : Int)) = fmC hL.h L s { z with last := (a : Int) } from rfl]
 refine XK.give 0 0 rfl rfl ?_
 dsimp only [List.set]
 change XK _ _ _ _ _ [FirmH f hL.h L s { z with last := (a : Int) }, HP.many [HP.emp, HardH hL s x]]
 generalize hz1 : ({ z with last := (a : Int) } : FmS) = z1
 have e1 : z1.x = z.x := by rw [← hz1]
 have e2 : z1.y = z.y := by rw [← hz1]
 have e3 : boxW z1 a = boxW z a := by rw [← hz1]; rfl
 refine XK.go ?_
 refine kd (does_ld1 rfl (Rd.firm 0 rfl rfl)) ?_
 refine XK.go ?_
 refine xk_makeT (n := s.devs.length) 8 (el := 3) (z := .int .i64 0) (by kernel_rfl) (by kernel_rfl) rfl rfl rfl (by omega) (by omega) (by decide) fun gm => ?_
 refine XK.go ?_
 refine XK.take 2 1 rfl rfl ?_
 dsimp only [List.set]
 rw [show List.replicate s.devs.length (Value.int .i64 0) = intCells (midN (waitL s x) ((waitL s x).map fun _ => 0) 0) by
  rw [midN_zero]
  refine List.ext_getElem? fun j => ?_
  simp only [intCells, waitL, List.map_map, List.getElem?_replicate, List.getElem?_map]
  by_cases h : j < s.devs.length
  ·rw [if_pos h, List.getElem?_range h]; rfl
  ·rw [if_neg h, List.getElem?_eq_none (by simp; omega)]; rfl]
 refine XK.envS [(46, .int .i64 0), (45, .int .i64 s.devs.length), (4, .slice (some ⟨gm, 0, none⟩) s.devs.length s.devs.length), (3, .int .i64 (a : Int)), (0, .pointer (some ⟨f, 0, none⟩))] ?_
 have hwl : (waitL s x).length = s.devs.length := by simp [waitL]
 refine XK.loop (fun m e R H => ∃ i : Nat, i ≤ s.devs.length ∧ m = s.devs.length - i ∧ e = [(46, .int .i64 i), (45, .int .i64 s.devs.length), (4, .slice (some ⟨gm, 0, none⟩) s.devs.length s.devs.length), (3, .int .i64 (a : Int)), (0, .pointer (some ⟨f, 0, none⟩))] ∧ R = [⟨w, fun b => b < w.heap.size ∧ ¬ F b⟩] ∧ H = [HardH hL s x, HP.blk gm 3 (intCells (midN (waitL s x) ((waitL s x).map fun _ => 0) i)), FirmH f hL.h L s z1, HP.many [HP.emp, HP.emp]]) s.devs.length ⟨0, by omega, rfl, rfl, rfl, rfl⟩ fun m e R H hI => ?_
 obtain ⟨i, hi, rfl, rfl, rfl, rfl⟩ := hI
 have hml2 := midN_len (vs := waitL s x) (old := (waitL s x).map fun _ => 0) (n := s.devs.length) hwl (by simp [waitL]) hi
 have hcl : (intCells (midN (waitL s x) ((waitL s x).map fun _ => 0) i)).length = s.devs.length := by simp [intCells, hml2]
 refine XK.go ?_
 refine XK.if_ rfl (fun hlt => ?_) (fun hge => ?_)
 ·have hlt : i < s.devs.length := by omega
  have hwi : (waitL s x)[i]? = some (wtN x.wt i : Int) := by simp [waitL, hlt]
  have hset : (intCells (midN (waitL s x) ((waitL s x).map fun _ => 0) i)).set i (.int .i64 (wtN x.wt i : Nat)) = intCells (midN (waitL s x) ((waitL s x).map fun _ => 0) (i + 1)) := by
   rw [← midN_set (by simp) hwi, intCells, intCells, List.map_set]
  refine XK.go ?_
  refine kd (does_ld1 rfl (Rd.firm 2 rfl rfl)) ?_
  refine XK.go ?_
  refine kcall (fun w1 t => hdWaiting_any hL s x w1 i hlt (t.hardR 0 rfl hLo hok)) ?_
  refine XK.go ?_
  refine kd (dat i i) ?_
  refine kst rfl rfl ?_
  dsimp only [List.set]
  rw [hset]
  refine XK.go ?_
  refine XK.envS [(46, .int .i64 (i + 1 : Nat)), (45, .int .i64 s.devs.length), (4, .slice (some ⟨gm, 0, none⟩) s.devs.length s.devs.length), (3, .int .i64 (a : Int)), (0, .pointer (some ⟨f, 0, none⟩))] ?_
  exact XK.round (s.devs.length - (i + 1)) (by omega) ⟨i + 1, hlt, rfl, rfl, rfl, rfl⟩
 obtain rfl : i = s.devs.length := by omega
 rw [midN_all hwl (by simp [waitL])]
 refine XK.give 2 1 rfl rfl ?_
 dsimp only [List.set]
 refine XK.go ?_
 refine XK.cutT (fun e R H => ∃ g7 : Nat, e = [(7, .pointer (some ⟨g7, 0, none⟩)), (6, .int .i32 st), (3, .int .i64 (a : Int)), (0, .pointer (some ⟨f, 0, none⟩))] ∧ R = [⟨w, fun b => b < w.heap.size ∧ ¬ F b⟩] ∧ H = [HP.blk g7 63 [.int .u8 k, .int .i64 id], FirmH f hL.h L s z1, HP.many [HP.emp, HardH hL s x]]) ?_ ?_
 ·refine XK.drawB [1, 2, 3, 5, 6, 7, 12, 13, 14, 15, 16, 19, 20] ?_
  refine XB.mv 0 ?_
  refine XB.mv 4 ?_
  refine XB.mv 8 ?_
  refine XB.mv 9 ?_
  refine XB.mv 10 ?_
  refine XB.mv 11 ?_
  refine XB.q 1 ?_
  refine XB.q 2 ?_
  refine XB.q 3 ?_ (hdo := does_ldA rfl (RdN.firm 1 rfl (vs := [.slice L.a1.1 s.clocks.length L.a1.2, .slice L.a2.1 s.domains.length L.a2.2, .slice L.a3.1 s.resets.length L.a3.2, .slice L.a4.1 s.devs.length L.a4.2]) rfl))
  refine XB.q 5 ?_
  refine XB.q 6 ?_
  refine XB.q 7 ?_ (hdo := does_ldA rfl (RdN.firm 1 rfl (vs := [.slice L.x1.1 z1.x.d.length L.x1.2, .slice L.x2.1 z1.x.c.length L.x2.2, .slice L.x3.1 z1.x.l.length L.x3.2, .slice L.y1.1 z1.y.d.length L.y1.2, .slice L.y2.1 z1.y.c.length L.y2.2, .slice L.y3.1 z1.y.l.length L.y3.2]) rfl))
  refine XB.q 12 ?_
  refine XB.q 13 ?_
  refine XB.q 14 ?_ (hdo := datA (sz := 2) a (11 + a * 2))
  refine XB.q 15 ?_
  refine XB.q 16 ?_ (hdo := does_ld1 rfl (Rd.firm 1 rfl (v := .slice (bxA L a).1 (boxW z1 a).length (bxA L a).2) (by rw [show 11 + a * 2 + 1 = 12 + a * 2 by omega]; exact fmC_box ha)))
  have hcall : ∀ H : List HP, H[H.length - 2]? = some (FirmH f hL.h L s z1) → (H.length = 3 ∨ H.length = 4) → H[H.length - 3]? = some (HP.blk gm 3 (intCells (waitL s x))) → ∀ w1, St w [⟨w, fun b => b < w.heap.size ∧ ¬ F b⟩] H w1 → Calls Tryz.prog 32 #[.agg #[.slice L.a1.1 s.clocks.length L.a1.2, .slice L.a2.1 s.domains.length L.a2.2, .slice L.a3.1 s.resets.length L.a3.2, .slice L.a4.1 s.devs.length L.a4.2], .agg #[.slice L.x1.1 z1.x.d.length L.x1.2, .slice L.x2.1 z1.x.c.length L.x2.2, .slice L.x3.1 z1.x.l.length L.x3.2, .slice L.y1.1 z1.y.d.length L.y1.2, .slice L.y2.1 z1.y.c.length L.y2.2, .slice L.y3.1 z1.y.l.length L.y3.2], .slice (some ⟨gm, 0, none⟩) s.devs.length s.devs.length, .int .i64 (a : Int), .slice (bxA L a).1 (boxW z1 a).length (bxA L a).2] w1 (Rt (actV (st, k, id)) w1) := fun H h2 _ h3 w1 t => by
   have kf := t.firmR _ h2
   have := decide_any (all w1) (all w1) s _ _ _ _ _ L.a1.2 _ L.a2.2 _ L.a3.2 _ L.a4.2 _ _ _ _ _ _ _ L.x1.2 _ L.x2.2 _ L.x3.2 _ L.y1.2 _ L.y2.2 _ L.y3.2 z1.x z1.y (some ⟨gm, 0, none⟩) s.devs.length s.devs.length (waitL s x) a _ _ (bxA L a).2 (boxW z1 a) w1 kf.so hH.t (Piece.Le.refl _) kf.stR (Piece.Le.refl _) (t.slS h3 (by simp [intCells, hwl])) hwl.symm ha (kf.box ha) rfl (by rw [e3]; exact hbn) (by rw [e3]; exact hbu)
   rw [show decF s z1.x z1.y (waitL s x) a (boxW z1 a) = (st, k, id) by rw [e1, e2, e3]; exact hdz] at this
   exact this
  refine XB.either 17 21 rfl rfl (by kernel_rfl) ?_ ?_
  ·refine kcall (fun w1 t => hcall _ rfl (.inl rfl) rfl w1 t) ?_
   refine XB.bk ?_
   refine XB.mv 18 ?_
   refine XB.q 19 ?_
   refine XB.q 20 ?_
   refine XB.next 21 rfl (by kernel_rfl) ?_
   refine xk_alloc (cs := [.int .u8 0, .int .i64 0]) (zeroB_of (by kernel_rfl)) (by decide) fun g7 => ?_
   refine XB.bk ?_
   refine XB.next 22 rfl (by kernel_rfl) ?_
   refine kdo ?_
   refine XB.bk ?_
   refine XB.next 23 rfl (by kernel_rfl) ?_
   refine kstW 0 rfl ?_
   dsimp only [List.set]
   refine XB.bt ?_
   refine XB.done (by kernel_rfl) ?_
   refine XK.norm ?_
   refine XK.weak [0, 2, 3] rfl (by decide) (fun _ h => h) ?_
   exact XK.envS [(7, .pointer (some ⟨g7, 0, none⟩)), (6, .int .i32 st), (3, .int .i64 (a : Int)), (0, .pointer (some ⟨f, 0, none⟩))] (XK.meet ⟨g7, rfl, rfl, rfl⟩)
  ·refine xk_alloc (cs := [.int .u8 0, .int .i64 0]) (zeroB_of (by kernel_rfl)) (by decide) fun g7 => ?_
   refine XB.bk ?_
   refine XB.next 17 rfl (by kernel_rfl) ?_
   refine kcall (fun w1 t => hcall _ rfl (.inr rfl) rfl w1 t) ?_
   refine XB.bk ?_
   refine XB.mv 18 ?_
   refine XB.q 19 ?_
   refine XB.q 20 ?_
   refine XB.next 22 rfl (by kernel_rfl) ?_
   refine kdo ?_
   refine XB.bk ?_
   refine XB.next 23 rfl (by kernel_rfl) ?_
   refine kstW 0 rfl ?_
   dsimp only [List.set]
   refine XB.bt ?_
   refine XB.done (by kernel_rfl) ?_
   refine XK.norm ?_
   refine XK.weak [0, 2, 3] rfl (by decide) (fun _ h => h) ?_
   exact XK.envS [(7, .pointer (some ⟨g7, 0, none⟩)), (6, .int .i32 st), (3, .int .i64 (a : Int)), (0, .pointer (some ⟨f, 0, none⟩))] (XK.meet ⟨g7, rfl, rfl, rfl⟩)
 rintro _ _ _ ⟨g7, rfl, rfl, rfl⟩
 refine XK.go ?_
 refine XK.if_ rfl (fun hk => ?_) (fun hk => ?_)
 ·have hk : k = 0 := hk
  rw [if_pos hk]
  refine XK.toEx 1 (f := fun L : FmL => FirmH f hL.h L s z1) L rfl ?_
  dsimp only [List.set]
  refine XK.weak [1, 0, 2] rfl (by decide) (fun _ h => h) ?_
  refine XK.give 1 0 rfl rfl ?_
  dsimp only [List.set]
  refine XK.go ?_
  refine kcallW 1 (MachH f hL s (replyF s x z1 a st) x) (fun w1 F1 t h1 h2 h3 => fmReply_m f hL s z1 x hH hLo hok a ha st (fun h0 => by rw [e3]; exact hst hk h0) w1 F1 h1 h2) ?_
  dsimp only [List.set]
  refine XK.go ?_
  exact XK.ret1 rfl rfl fun w1 t => ⟨rfl, t.turns hF (by simp) (i := 1) rfl⟩
 ·rw [if_neg hk]
  rw [show ({ z with last := (a : Int), x := doneX z.x a k id, y := doneY z.y a k id, at_ := (a : Int), kind := k, id := id } : FmS) = { z1 with x := doneX z1.x a k id, y := doneY z1.y a k id, at_ := (a : Int), kind := k, id := id } by rw [← hz1]]
  refine XK.go ?_
  refine XK.drawB [2, 3, 4, 6] ?_
  refine XB.mv 0 ?_
  refine XB.mv 1 ?_
  refine XB.mv 5 ?_
  refine XB.q 2 ?_
  refine XB.q 3 ?_
  refine XB.q 4 ?_ (hdo := does_ldA rfl (RdN.firm 1 rfl (vs := [.slice L.x1.1 z1.x.d.length L.x1.2, .slice L.x2.1 z1.x.c.length L.x2.2, .slice L.x3.1 z1.x.l.length L.x3.2, .slice L.y1.1 z1.y.d.length L.y1.2, .slice L.y2.1 z1.y.c.length L.y2.2, .slice L.y3.1 z1.y.l.length L.y3.2]) rfl))
  refine XB.q 6 ?_
  refine XB.next 7 rfl (by kernel_rfl) ?_
  refine xk_call [] (f := 151) (fi := []) (ca := []) (by kernel_rfl) rfl rfl (by decide) (by simp) (fun v w w' => StR (fresh w w') (doneX z1.x a k id) (doneY z1.y a k id) v) (fun w1 t => by
   have kf := t.firmR 1 rfl
   exact done_any (all w1) _ _ _ _ _ _ _ _ _ _ _ _ z1.x z1.y a k id w1 (Piece.Le.refl _) ha (by rw [e1]; exact hz.sx) (by rw [e2]; exact hz.sy) kf.st.1 kf.st.2.1 kf.st.2.2.1 kf.st.2.2.2.1 kf.st.2.2.2.2.1 kf.st.2.2.2.2.2) ?_
  rintro _ w2 q2 hst2 hq2 _ hF2
  have hF2 := hF2 (by simp)
  obtain ⟨x1, x2, x3, y1, y2, y3, rfl, hsp2⟩ := hst2.P
  have hsp2 := StP.le _ _ hq2 (hsp2 L.a1 L.a2 L.a3 L.a4 L.b0 L.b1)
  refine XK.ownP (Φ := StP ⟨L.a1, L.a2, L.a3, L.a4, x1, x2, x3, y1, y2, y3, L.b0, L.b1⟩ (doneX z1.x a k id) (doneY z1.y a k id)) (hm := StP.le) hF2 (fun p hp b hb => by simp at hp; subst hp; exact hb.1) hsp2 ?_
  refine XB.bt ?_
  refine XB.next 8 rfl (by kernel_rfl) ?_
  refine kdo ?_
  refine XB.bt ?_
  refine XB.next 9 rfl (by kernel_rfl) ?_
  refine kdo ?_
  refine XB.bt ?_
  refine XB.next 10 rfl (by kernel_rfl) ?_
  refine XK.take 2 0 rfl rfl ?_
  dsimp only [List.set]
  refine xk_storeN 0 (t := 150) rfl rfl rfl (by kernel_rfl) (by simp [Value.cells, Value.oneCell', slV]) (by simp [Value.cells, fmC]) ?_
  dsimp only [List.set]
  rw [show putN (fmC hL.h L s z1) (0 + 5) (Value.agg #[slV x1 (doneX z1.x a k id).d.length, slV x2 (doneX z1.x a k id).c.length, slV x3 (doneX z1.x a k id).l.length, slV y1 (doneY z1.y a k id).d.length, slV y2 (doneY z1.y a k id).c.length, slV y3 (doneY z1.y a k id).l.length]).cells.toList = fmC hL.h ⟨L.a1, L.a2, L.a3, L.a4, x1, x2, x3, y1, y2, y3, L.b0, L.b1⟩ s { z1 with x := doneX z1.x a k id, y := doneY z1.y a k id } from rfl]
  refine XB.bt ?_
  refine XB.done (by kernel_rfl) ?_
  refine XK.norm ?_
  refine XK.take 3 2 rfl rfl ?_
  dsimp only [List.set]
  refine XK.weak [1, 2, 3, 4, 5] rfl (by decide) (R' := [⟨w, fun b => b < w.heap.size ∧ ¬ F b⟩]) (by simp) ?_
  refine XK.weak [1, 0, 2, 3, 4] rfl (by decide) (fun _ h => h) ?_
  refine XK.give 2 2 rfl rfl ?_
  dsimp only [List.set]
  generalize hz2 : ({ z1 with x := doneX z1.x a k id, y := doneY z1.y a k id } : FmS) = z2
  rw [show ({ z1 with x := doneX z1.x a k id, y := doneY z1.y a k id, at_ := (a : Int), kind := k, id := id } : FmS) = { z2 with at_ := (a : Int), kind := k, id := id } by rw [← hz2]]
  generalize hL2 : (⟨L.a1, L.a2, L.a3, L.a4, x1, x2, x3, y1, y2, y3, L.b0, L.b1⟩ : FmL) = L2
  refine XK.seq ?_
  refine XK.cutT (fun e R H => e = [(0, .pointer (some ⟨f, 0, none⟩))] ∧ R = [⟨w, fun b => b < w.heap.size ∧ ¬ F b⟩] ∧ H = [HP.blk f 150 (fmC hL.h L2 s { z2 with at_ := (a : Int), kind := k, id := id }), HP.blk g7 63 [.int .u8 k, .int .i64 id], HP.many [HP.emp, HP.pic (SoP L s) (SoP.le (L := L) (s := s)), HP.pic (StP L2 (doneX z1.x a k id) (doneY z1.y a k id)) (StP.le (L := L2) (x := doneX z1.x a k id) (y := doneY z1.y a k id)), HP.pic (BxP L.b0 z1.w0) (BxP.le (a := L.b0) (l := z1.w0)), HP.pic (BxP L.b1 z1.w1) (BxP.le (a := L.b1) (l := z1.w1))], HP.many [HP.emp, HardH hL s x]]) ?_ ?_
  ·refine XK.drawB [] ?_
   refine XB.mv 0 ?_
   refine XB.mv 1 ?_
   refine XB.mv 2 ?_
   refine XB.either 3 4 rfl rfl (by kernel_rfl) ?_ ?_
   ·refine kdo ?_
    refine XB.bt ?_
    refine XB.next 4 rfl (by kernel_rfl) ?_
    refine kdo ?_
    refine XB.bt ?_
    refine XB.next 5 rfl (by kernel_rfl) ?_
    refine kdo ?_
    refine XB.bt ?_
    refine XB.next 6 rfl (by kernel_rfl) ?_
    refine kst rfl rfl ?_ (hs := StoreAt.mk 0 rfl OneT.h rfl (by simp [fmC]))
    dsimp only [List.set]
    rw [show (fmC hL.h L2 s z2).set (0 + 16) (.int .i64 (a : Int)) = fmC hL.h L2 s { z2 with at_ := (a : Int) } from rfl]
    refine XB.bt ?_
    refine XB.next 7 rfl (by kernel_rfl) ?_
    refine kdo ?_
    refine XB.bt ?_
    refine XB.next 8 rfl (by kernel_rfl) ?_
    refine kdo ?_
    refine XB.bt ?_
    refine XB.next 9 rfl (by kernel_rfl) ?_
    refine xk_storeN 0 (t := 150) rfl rfl rfl (by kernel_rfl) (by simp [Value.cells, Value.oneCell']) (by simp [Value.cells, fmC]) ?_
    dsimp only [List.set]
    rw [show putN (fmC hL.h L2 s { z2 with at_ := (a : Int) }) (0 + 17) (Value.agg #[.int .u8 k, .int .i64 id]).cells.toList = fmC hL.h L2 s { z2 with at_ := (a : Int), kind := k, id := id } from rfl]
    refine XB.bt ?_
    refine XB.done (by kernel_rfl) ?_
    refine XK.norm ?_
    exact XK.envS [(0, .pointer (some ⟨f, 0, none⟩))] (XK.meet ⟨rfl, rfl, rfl⟩)
   ·refine kdo ?_
    refine XB.bt ?_
    refine XB.either 3 5 rfl rfl (by kernel_rfl) ?_ ?_
    ·refine kdo ?_
     refine XB.bt ?_
     refine XB.next 5 rfl (by kernel_rfl) ?_
     refine kdo ?_
     refine XB.bt ?_
     refine XB.next 6 rfl (by kernel_rfl) ?_
     refine kst rfl rfl ?_ (hs := StoreAt.mk 0 rfl OneT.h rfl (by simp [fmC]))
     dsimp only [List.set]
     rw [show (fmC hL.h L2 s z2).set (0 + 16) (.int .i64 (a : Int)) = fmC hL.h L2 s { z2 with at_ := (a : Int) } from rfl]
     refine XB.bt ?_
     refine XB.next 7 rfl (by kernel_rfl) ?_
     refine kdo ?_
     refine XB.bt ?_
     refine XB.next 8 rfl (by kernel_rfl) ?_
     refine kdo ?_
     refine XB.bt ?_
     refine XB.next 9 rfl (by kernel_rfl) ?_
     refine xk_storeN 0 (t := 150) rfl rfl rfl (by kernel_rfl) (by simp [Value.cells, Value.oneCell']) (by simp [Value.cells, fmC]) ?_
     dsimp only [List.set]
     rw [show putN (fmC hL.h L2 s { z2 with at_ := (a : Int) }) (0 + 17) (Value.agg #[.int .u8 k, .int .i64 id]).cells.toList = fmC hL.h L2 s { z2 with at_ := (a : Int), kind := k, id := id } from rfl]
     refine XB.bt ?_
     refine XB.done (by kernel_rfl) ?_
     refine XK.norm ?_
     exact XK.envS [(0, .pointer (some ⟨f, 0, none⟩))] (XK.meet ⟨rfl, rfl, rfl⟩)
    ·refine kdo ?_
     refine XB.bt ?_
     refine XB.either 3 6 rfl rfl (by kernel_rfl) ?_ ?_
     ·refine kdo ?_
      refine XB.bt ?_
      refine XB.next 6 rfl (by kernel_rfl) ?_
      refine kst rfl rfl ?_ (hs := StoreAt.mk 0 rfl OneT.h rfl (by simp [fmC]))
      dsimp only [List.set]
      rw [show (fmC hL.h L2 s z2).set (0 + 16) (.int .i64 (a : Int)) = fmC hL.h L2 s { z2 with at_ := (a : Int) } from rfl]
      refine XB.bt ?_
      refine XB.next 7 rfl (by kernel_rfl) ?_
      refine kdo ?_
      refine XB.bt ?_
      refine XB.next 8 rfl (by kernel_rfl) ?_
      refine kdo ?_
      refine XB.bt ?_
      refine XB.next 9 rfl (by kernel_rfl) ?_
      refine xk_storeN 0 (t := 150) rfl rfl rfl (by kernel_rfl) (by simp [Value.cells, Value.oneCell']) (by simp [Value.cells, fmC]) ?_
      dsimp only [List.set]
      rw [show putN (fmC hL.h L2 s { z2 with at_ := (a : Int) }) (0 + 17) (Value.agg #[.int .u8 k, .int .i64 id]).cells.toList = fmC hL.h L2 s { z2 with at_ := (a : Int), kind := k, id := id } from rfl]
      refine XB.bt ?_
      refine XB.done (by kernel_rfl) ?_
      refine XK.norm ?_
      exact XK.envS [(0, .pointer (some ⟨f, 0, none⟩))] (XK.meet ⟨rfl, rfl, rfl⟩)
     ·refine kst rfl rfl ?_ (hs := StoreAt.mk 0 rfl OneT.h rfl (by simp [fmC]))
      dsimp only [List.set]
      rw [show (fmC hL.h L2 s z2).set (0 + 16) (.int .i64 (a : Int)) = fmC hL.h L2 s { z2 with at_ := (a : Int) } from rfl]
      refine XB.bt ?_
      refine XB.next 3 rfl (by kernel_rfl) ?_
      refine kdo ?_
      refine XB.bt ?_
      refine XB.next 7 rfl (by kernel_rfl) ?_
      refine kdo ?_
      refine XB.bt ?_
      refine XB.next 8 rfl (by kernel_rfl) ?_
      refine kdo ?_
      refine XB.bt ?_
      refine XB.next 9 rfl (by kernel_rfl) ?_
      refine xk_storeN 0 (t := 150) rfl rfl rfl (by kernel_rfl) (by simp [Value.cells, Value.oneCell']) (by simp [Value.cells, fmC]) ?_
      dsimp only [List.set]
      rw [show putN (fmC hL.h L2 s { z2 with at_ := (a : Int) }) (0 + 17) (Value.agg #[.int .u8 k, .int .i64 id]).cells.toList = fmC hL.h L2 s { z2 with at_ := (a : Int), kind := k, id := id } from rfl]
      refine XB.bt ?_
      refine XB.done (by kernel_rfl) ?_
      refine XK.norm ?_
      exact XK.envS [(0, .pointer (some ⟨f, 0, none⟩))] (XK.meet ⟨rfl, rfl, rfl⟩)
  rintro _ _ _ ⟨rfl, rfl, rfl⟩
  refine XK.give 1 0 rfl rfl ?_
  dsimp only [List.set]
  subst hL2
  subst hz2
  refine XK.toEx 1 (f := fun L : FmL => FirmH f hL.h L s { ({ z1 with x := doneX z1.x a k id, y := doneY z1.y a k id } : FmS) with at_ := (a : Int), kind := k, id := id }) ⟨L.a1, L.a2, L.a3, L.a4, x1, x2, x3, y1, y2, y3, L.b0, L.b1⟩ rfl ?_
  dsimp only [List.set]
  refine XK.weak [1, 0, 2] rfl (by decide) (fun _ h => h) ?_
  refine XK.give 1 0 rfl rfl ?_
  dsimp only [List.set]
  refine XK.go ?_
  exact XK.ret1 rfl rfl fun w1 t => ⟨rfl, t.turns hF (by simp) (i := 1) rfl⟩
theorem fmTake_m (f : Nat) (hL : HL) (s : Soc) (z : FmS) (x : HwS) (hH : s.okH) (hLo : HLOk hL s) (hok : HwOk s x) (hz : FmOk s z) (hst : ∀ a, nextF z = some a → (decZ s x z a).2.1 = 0 → (decZ s x z a).1 = 0 → ReplyOk (boxW z a)) (w : World) (F : Nat → Prop) (hp : (MachH f hL s z x).sat F w) (hF : ∀ b, F b → b < w.heap.size) :
  Calls Tryz.prog 74 #[.pointer (some ⟨f, 0, none⟩)] w (fun y w' => y = .returned (.bool (takeF s x z).2) ∧ ∃ F', (MachH f hL s (takeF s x z).1 x).sat F' w' ∧ Turns w w' F F') := by
 unfold takeF
 cases hn : nextF z with
 | none => exact fmTake_none f hL s z x hz.la hn w F hp hF
 | some a =>
  obtain ⟨l, hl, hl1⟩ : ∃ l : Nat, z.last = (l : Int) ∧ l ≤ 1 := by
   rcases hz.la with h | h
   ·exact ⟨0, h, by omega⟩
   ·exact ⟨1, h, by omega⟩
  have hn2 := hn
  unfold nextF at hn
  rw [show (1 - z.last).toNat = 1 - l by omega, show z.last.toNat = l by omega] at hn
  by_cases h2 : hasB' z (1 - l) = 1
  ·rw [if_pos h2] at hn
   obtain rfl := Option.some.inj hn
   exact fmTake_some f hL s z x hH hLo hok hz l _ hl hl1 (by omega) (.inl ⟨h2, rfl⟩) h2 (hst _ hn2) w F hp hF
  ·rw [if_neg h2] at hn
   by_cases h3 : hasB' z l = 1
   ·rw [if_pos h3] at hn
    obtain rfl := Option.some.inj hn
    exact fmTake_some f hL s z x hH hLo hok hz l _ hl hl1 (by omega) (.inr ⟨h2, rfl⟩) h3 (hst _ hn2) w F hp hF
   ·rw [if_neg h3] at hn
    cases hn
end Go.Proofs.YticjkhagldkejaaGreatDoor
/- Functions that defer a recover: how they begin and end. -/
namespace Go.Proofs.YticjkhagldkejaaGreatDoor
set_option linter.all false
set_option maxHeartbeats 4000000
set_option maxRecDepth 20000
open Go.RowKit
section
variable {P : Program} {N : Frm} {w0 w : World} {K : Act → World → Prop} {e : Env} {R : List Piece} {H H' : List HP}
theorem XK.enterDM {nn : Nat} {F : Nat → Prop} {p : HP} {f : FuncId} {fn : Func} {c : Code} {vs : List Value} {Post : Ending → World → Prop} (hf : P.funcs[f]? = some fn) (hb : fn.body = some c) (hN : fn.ntmps = nn) (hl : vs.length ≤ nn) (hp : p.sat F w) (hF : ∀ b, F b → b < w.heap.size)
  (h : XK ⟨nn, []⟩ w (c.wp P (bodyPostD P fn Post)) (argEnv 0 vs) [⟨w, fun b => b < w.heap.size ∧ ¬ F b⟩] [p]) : Calls P f vs.toArray w Post := by
 refine calls_of_wp_defers hf hb (h _ _ ⟨?_, rfl, fun t v hv => ?_⟩ (St.startM hp hF))
 ·simp; omega
 ·obtain ⟨_, h2⟩ := argEnv_get vs 0 t v hv
  rw [Nat.sub_zero] at h2
  have hlt : t < vs.length := by
   rcases Nat.lt_or_ge t vs.length with h | h
   ·exact h
   ·rw [List.getElem?_eq_none h] at h2; cases h2
  rw [Array.getElem?_append_left (by simpa using hlt)]
  simpa using h2
theorem XK.leave0 {nn : Nat} {f : FuncId} {fi ca : List Value} {fn : Func} {Post : Ending → World → Prop} {x : Exit} (hx : x = .ret ∨ x = .normal) (hf : callB P f = true)
  (hcl : ∀ w, CallsD P f (fi ++ ca).toArray .returning w fun y u' w' => y = .returned (.tuple #[]) ∧ u' = .returning ∧ w' = w) (hr : fn.results = #[])
  (h : ∀ w, St w0 R H w → Post (.returned (.tuple #[])) w) : XK ⟨nn, [dfd f fi ca]⟩ w0 (bodyPostD P fn Post x) e R H := by
 have key : XK ⟨nn, [dfd f fi ca]⟩ w0 (bodyPostD P fn Post .ret) e R H := XK.leaveR (H' := H) hf (fun w1 st => (hcl w1).mono fun y u' w' h => by
  obtain ⟨h1, h2, rfl⟩ := h
  exact ⟨⟨_, h1⟩, h2, st⟩) fun a w1 _ st => ⟨.tuple #[], results_none hr _ _ _, h w1 st⟩
 rcases hx with rfl | rfl
 ·exact key
 ·exact key
end
theorem fmRec_idle (w : World) : CallsD Tryz.prog 73 #[] .returning w fun e u' w' => e = .returned (.tuple #[]) ∧ u' = .returning ∧ w' = w := by
 refine callsD_of_wpS Tryz.func73 rfl fun c₀ cs hu => ?_
 apply wpS_region
 simp [wpOpsS, go_sem, recoverD, hu, Tryz.ntmps73, Exit.thenS]
 cases c₀
 simp_all [bodyPostS, results, Tryz.results73]
section
variable {N : Frm} {w0 w : World} {e : Env} {R : List Piece} {H : List HP} {K : Act → World → Prop} {f : Nat} {hL : HL} {s : Soc} {z : FmS} {x : HwS}
theorem Rd.mach (i : Nat) {o : Nat} {v : Value} (hi : H[i]? = some (MachH f hL s z x)) (hv : ∀ L, (fmC hL.h L s z)[o]? = some v) : Rd w0 R H f o v := fun w t => by
 obtain ⟨F, ⟨G, g1, g2, _⟩, h2, _⟩ := t.chunk hi
 obtain ⟨L, hL'⟩ := g1 0 _ rfl
 have := ((FirmH.reads hL' fun b hb => h2 b (g2 0 b hb)).r0.at_ (hv L)).2
 rwa [Nat.zero_add] at this
end
theorem fmStep_ask (f : Nat) (hL : HL) (s : Soc) (z : FmS) (x : HwS) (hH : s.okH) (hLo : HLOk hL s) (hok : HwOk s x) (hz : FmOk s z) (hst : ∀ a, nextF z = some a → (decZ s x z a).2.1 = 0 → (decZ s x z a).1 = 0 → ReplyOk (boxW z a)) (hat : z.at_ < 0) (hno : (takeF s x z).2 = false) (w : World) (F : Nat → Prop) (hp : (MachH f hL s z x).sat F w) (hF : ∀ b, F b → b < w.heap.size) :
  Calls Tryz.prog 20 #[.pointer (some ⟨f, 0, none⟩)] w (fun y w' => y = .returned (.tuple #[]) ∧ ∃ F', (MachH f hL s (takeF s x z).1 x).sat F' w' ∧ Turns w w' F F') := by
 refine XK.enterDM (vs := [.pointer (some ⟨f, 0, none⟩)]) (p := MachH f hL s z x) Tryz.func20 rfl Tryz.ntmps20 (by simp) hp hF ?_
 refine XK.go ?_
 refine xk_defer (f := 73) (fi := []) (ca := []) rfl ?_
 refine XK.go ?_
 refine kd (does_ld1 rfl (Rd.mach 0 rfl fun _ => rfl)) ?_
 refine XK.go ?_
 refine xk_split (t := 8) rfl (fun _ => ?_) (fun h => absurd hat h)
 refine XK.go ?_
 refine kcallW 0 (MachH f hL s (takeF s x z).1 x) (fun w1 F1 t h1 h2 h3 => fmTake_m f hL s z x hH hLo hok hz hst w1 F1 h1 h2) ?_
 dsimp only [List.set]
 rw [hno]
 refine XK.go ?_
 exact XK.leave0 (.inl rfl) (by kernel_rfl) fmRec_idle rfl fun w1 t => ⟨rfl, t.turns hF (by simp) (i := 0) rfl⟩
end Go.Proofs.YticjkhagldkejaaGreatDoor
/- Heads of messages that have room; words. No walk in sight. -/
namespace Go.Proofs.YticjkhagldkejaaGreatDoor
set_option linter.all false
open Go.RowKit
theorem or32_bd (a b : Int) : 0 ≤ or32 a b ∧ or32 a b < 4294967296 := u32_bd _
theorem putW_bd (w low many v : Int) : 0 ≤ (putW w low many v).1 ∧ (putW w low many v).1 < 4294967296 := by
 unfold putW
 split
 ·exact ⟨by decide, by decide⟩
 ·split
  ·exact ⟨by decide, by decide⟩
  ·unfold putZ
   split
   ·exact ⟨by decide, by decide⟩
   ·exact or32_bd _ _
theorem pack_bd (m t p k : Int) : 0 ≤ (packZ m t p k).1 ∧ (packZ m t p k).1 < 4294967296 := by
 unfold packZ
 split
 ·exact ⟨by dsimp only; decide, by dsimp only; decide⟩
 ·split
  ·exact ⟨by dsimp only; decide, by dsimp only; decide⟩
  ·split
   ·exact ⟨by dsimp only; decide, by dsimp only; decide⟩
   ·split
    ·exact ⟨by dsimp only; decide, by dsimp only; decide⟩
    ·exact putW_bd _ _ _ _
theorem U32s.snoc {l : List Int} {x : Int} (h : U32s l) (hx : 0 ≤ x ∧ x < 4294967296) : U32s (l ++ [x]) := by
 intro y hy
 rcases List.mem_append.1 hy with hy | hy
 ·exact h y hy
 ·simp at hy; subst hy; exact hx
theorem U32s.set {l : List Int} {x : Int} {i : Nat} (h : U32s l) (hx : 0 ≤ x ∧ x < 4294967296) : U32s (l.set i x) := by
 intro y hy
 rcases List.mem_or_eq_of_mem_set hy with hy | hy
 ·exact h y hy
 ·subst hy; exact hx
theorem U32s.take {l : List Int} {n : Nat} (h : U32s l) : U32s (l.take n) := fun y hy => h y (List.mem_of_mem_take hy)
end Go.Proofs.YticjkhagldkejaaGreatDoor
/- A chip as it is made is as it must be; the chip without anything. -/
namespace Go.Proofs.YticjkhagldkejaaGreatDoor
set_option linter.all false
open Go.RowKit
theorem hw0_ok {s : Soc} (h : s.okH) : HwOk s (hw0 s) := by
 refine ⟨⟨by simp [hw0], fun x hx => ?_⟩, ⟨by simp [hw0], fun x hx => ?_, fun x hx => ?_⟩, ⟨by simp [hw0], fun x hx => ?_⟩, by simp [hw0], fun i d p hd hp => ?_, by simp [hw0]⟩
 ·obtain ⟨c, hc, rfl⟩ := List.mem_map.1 hx
  obtain ⟨i, hi⟩ := List.getElem?_of_mem hc
  have := (h.t.clocks i c hi).2
  unfold ck0
  dsimp only
  split
  ·omega
  ·omega
 ·obtain ⟨c, hc, rfl⟩ := List.mem_map.1 hx
  simp [dm0]
 ·obtain ⟨c, hc, rfl⟩ := List.mem_map.1 hx
  simp [dm0]
 ·obtain ⟨c, hc, rfl⟩ := List.mem_map.1 hx
  simp [ln0]
 ·simp only [hw0, List.getElem?_map, hd, Option.map_some] at hp
  cases hp
  have hf := h.t.devs i d hd
  refine ⟨⟨by simp [fl0], by simp [fl0], fun v hv => ?_, fun v hv => ?_⟩, by simp [QtOk, qt0]⟩
  ·obtain ⟨r, hr, rfl⟩ := List.mem_map.1 hv
   have := hf.2.2.2.2.2.2.2.2.2.1 r hr
   omega
  ·simp only [fl0, List.mem_map] at hv
   obtain ⟨r, _, rfl⟩ := hv
   omega
theorem zero_sm {s : Soc} (h : s.okT) : (zeroW s).sm := by
 have h1 := h.nc
 have h2 := h.nd
 have h3 := h.nr
 exact ⟨by simp [zeroW]; omega, by simp [zeroW]; omega, by simp [zeroW]; omega⟩
def socE : Soc := ⟨[], [], [], []⟩
theorem socE_small : socE.small := ⟨by decide, by decide, by decide, by decide, (fun c hc => by cases hc), (fun c hc => by cases hc)⟩
theorem socE_okT : socE.okT := ⟨fun _ _ h => by simp [socE] at h, fun _ _ h => by simp [socE] at h, by decide, by decide, by decide, by decide, by rfl, socE_small⟩
theorem socE_okH : socE.okH := ⟨socE_okT, fun _ _ h => by simp [socE] at h, by simp [socE]⟩
theorem socE_W (w : World) : SocW w socE none 0 none 0 none 0 none 0 :=
 ⟨⟨[], trivial, rfl, SlS.nil _ _⟩, ⟨[], trivial, rfl, SlS.nil _ _⟩, ⟨[], trivial, rfl, SlS.nil _ _⟩, ⟨[], trivial, rfl, SlS.nil _ _⟩, socE_small⟩
end Go.Proofs.YticjkhagldkejaaGreatDoor
/- FirmTurns in plain words: two agents ask, again and again. No walk in sight. -/
namespace Go.Proofs.YticjkhagldkejaaGreatDoor
set_option linter.all false
open Go.RowKit
def hB (o : Option Nat) : Int := if o.isSome then 1 else 0
def msgE : List Int := [(packZ 0 0 16 5).1]
def zE : FmS := { fm0 socE with h0 := 1, w0 := msgE }
theorem msgE_ok : (packZ 0 0 16 5).2 = 0 ∧ getZ (packZ 0 0 16 5).1 28 4 = 0 ∧ getZ (packZ 0 0 16 5).1 10 8 = 16 ∧ getZ (packZ 0 0 16 5).1 0 8 = 0 ∧ 0 ≤ (packZ 0 0 16 5).1 ∧ (packZ 0 0 16 5).1 < 4294967296 := by decide +kernel
theorem zE_send : (sendF (fm0 socE) 0 msgE) = (0, zE) := by simp [sendF, fm0, inB, zE]
theorem zE_next : nextF zE = some 0 := rfl
theorem zE_ok : FmOk socE zE := ⟨.inr rfl, fun x hx => by simp [zE, msgE] at hx; subst hx; exact msgE_ok.2.2.2.2, fun x hx => by simp [zE, fm0] at hx, by simp [zE, msgE], by simp [zE, fm0], zero_sm socE_okT, zero_sm socE_okT⟩
theorem zE_dec (x : HwS) : decZ socE x zE 0 = (0, 0, 0) := by
 have h : readF socE msgE = (0, 0, 0) := by decide +kernel
 unfold decZ decF
 rw [show boxW zE 0 = msgE from rfl, h]
 rfl
theorem zE_take (x : HwS) : takeF socE x zE = ({ zE with last := 0, h0 := 2, w0 := [(packZ 0 0 16 5).1, 0, 131072] }, false) := by
 unfold takeF
 rw [zE_next]
 dsimp only
 unfold takeA
 dsimp only
 rw [zE_dec]
 have hm : moreF socE x msgE = [131072] := by
  unfold moreF
  dsimp only
  rw [if_pos (show getZ (msgE.headD 0) 0 8 = 0 from msgE_ok.2.2.2.1)]
 have hw : IntKind.u32.wrap 0 = 0 := by decide +kernel
 simp [replyF, putBox, answF, boxW, zE, hm, hw]
 rfl
theorem zE_reply : ReplyOk (boxW zE 0) := ⟨⟨_, _, rfl, msgE_ok.2.1, fun h => by
 obtain ⟨_, _, h3, h4, _⟩ := msgE_ok
 rw [h3, h4] at h
 omega⟩⟩
end Go.Proofs.YticjkhagldkejaaGreatDoor
/- A call that turns a chunk, and tells how. -/
namespace Go.Proofs.YticjkhagldkejaaGreatDoor
set_option linter.all false
open Go.RowKit
section
variable {P : Program} {N : Frm} {w0 : World} {e : Env} {R : List Piece} {H : List HP} {Q : Exit → Act → World → Prop} {ops : Array Oper} {rest : List Oper}
variable {d : Nat} {ty : TypeId} {pos : String} {aft : Array Edge}
theorem xk_callMV {α : Type} (i : Nat) {f : FuncId} {x : Operand} {args : List Operand} {fi ca vs : List Value} {tys : Array TypeId} {p : HP} (v : α → Value) (q : α → HP) (G : α → Prop) (hf : callB P f = true) (hx : e.ev x = some (.func (.func f) fi.toArray ca.toArray)) (ha : e.evs args = some vs) (hi : H[i]? = some p) (hd : d < N.n)
  (hc : ∀ w F, St w0 R H w → p.sat F w → (∀ b, F b → b < w.heap.size) → (∀ q ∈ R, q.Le ⟨w, fun b => b < w.heap.size ∧ ¬ F b⟩) → Calls P f (fi ++ vs ++ ca).toArray w fun y w' => ∃ a, y = .returned (v a) ∧ G a ∧ ∃ F', (q a).sat F' w' ∧ Turns w w' F F')
  (k : ∀ a, G a → XK N w0 (wpList P ops Q rest) ((d, v a) :: e) R (H.set i (q a))) : XK N w0 (wpList P ops Q (⟨some d, .call { callee := .value x, args := args.toArray, argTypes := tys }, ty, pos, aft, none⟩ :: rest)) e R H := fun a w hr st => wpList_plain rfl fun K hK => by
 unfold callB at hf
 cases hq : P.funcs[f]? with
 | none => simp [hq] at hf
 | some fn =>
  simp [hq] at hf
  obtain ⟨hf1, hf2⟩ := hf
  have hrun : (execOp a.eval (⟨some d, .call { callee := .value x, args := args.toArray, argTypes := tys }, ty, pos, aft, none⟩ : Oper)).run P w = .ok (.enter f (fi ++ vs ++ ca).toArray) w := by
   cases hb : fn.body with
   | none => simp [hb] at hf2
   | some c => simp [execOp, resolve, hr.ev hx, Deferred.ofValue, invoke, callFunc, hq, hf1, hb, hr.evs ha]
  obtain ⟨F, hp, hlt, hle, hset⟩ := st.chunk hi
  unfold Oper.wp
  rw [hrun]
  refine (hc w F st hp hlt hle).mono fun y w' hy => ?_
  obtain ⟨a', rfl, hG, F', hs, ht⟩ := hy
  exact hK _ _ (k a' hG _ _ (hr.put hd (v a')) (hset w' F' (q a') hs ht))
end
end Go.Proofs.YticjkhagldkejaaGreatDoor
/- chapter 15's example. -/
namespace Go.Proofs.YticjkhagldkejaaGreatDoor
set_option linter.all false
set_option maxHeartbeats 4000000
set_option maxRecDepth 20000
open Go.RowKit
theorem shown15_any (w : World) : Calls Tryz.prog 13 #[] w (Rt (.bool true) w) := by
 refine XK.enter (vs := []) Tryz.func13 rfl Tryz.ntmps13 (by simp) ?_
 refine XK.go ?_
 refine xk_alloc (cs := [.slice none 0 0, .slice none 0 0, .slice none 0 0, .slice none 0 0]) (zeroB_of (by kernel_rfl)) (by decide) fun g1 => ?_
 refine XK.go ?_
 refine xk_callN (f := 15) (fi := []) (ca := []) (by kernel_rfl) rfl rfl (by decide) (HardOk socE) (fun w1 t => hardNew_ok socE socE_okH none none none none 0 0 0 0 0 0 0 0 w1 (socE_W w1)) ?_
 rintro _ _ q1 ⟨hL, rfl, rfl, hl1, hl2⟩ _
 dsimp only [List.cons_append, List.nil_append]
 refine XK.go ?_
 refine xk_callN (f := 16) (fi := []) (ca := []) (by kernel_rfl) rfl rfl (by decide) (FirmOk hL.h socE) (fun w1 t => firmNew_ok hL.h socE socE_okH none none none none 0 0 0 0 0 0 0 0 w1 (socE_W w1)) ?_
 rintro _ _ q2 ⟨f, rfl, rfl⟩ _
 dsimp only [List.cons_append, List.nil_append]
 refine XK.go ?_
 refine xk_buildS (zs := [.int .i64 0, .int .i64 0, .int .i64 0, .int .i64 0]) (L := [(0, 1), (1, 1), (2, 1), (3, 1)]) (zeroB_of (by kernel_rfl)) (by kernel_rfl) rfl (by simp [fillL, setN, Value.cells]; rfl) (by decide) ?_
 refine xk_call [] (f := 18) (fi := []) (ca := []) (by kernel_rfl) rfl rfl (by decide) (by simp) (CmdOk ((packZ 0 0 16 5).1 :: [])) (fun w1 t => command_any 0 0 16 5 none 0 0 [] w1 (SlS.nil _ _) rfl (by omega) msgE_ok.1) ?_
 rintro _ w1 q3 ⟨Al, cl, rfl, hl⟩ hf _ _
 have hl := hl.le hf
 clear hf
 refine XK.weak [0, 1] rfl (by decide) (R' := [q3, all w]) (by simp) ?_
 refine XK.go ?_
 refine kcallW 0 (FirmX f hL.h socE zE) (fun w1 F1 t h1 h2 h3 => by
  have := fmSend_m f hL.h socE (fm0 socE) 0 Al _ cl msgE w1 F1 h1 h2 (hl.le (h3 _ (by simp))) rfl (by decide)
  rw [zE_send] at this
  exact this) ?_
 dsimp only [List.set]
 refine XK.go ?_
 refine XK.pair ?_
 refine kcallW 0 (MachH f hL socE (takeF socE (hw0 socE) zE).1 (hw0 socE)) (fun w1 F1 t h1 h2 h3 => fmStep_ask f hL socE zE (hw0 socE) socE_okH ⟨hl1, hl2⟩ (hw0_ok socE_okH) zE_ok (fun a ha _ _ => by cases ha.symm.trans zE_next; exact zE_reply) (by decide) (by rw [zE_take]) w1 F1 h1 h2) ?_
 dsimp only [List.set]
 rw [zE_take]
 refine XK.go ?_
 refine XK.take 0 0 rfl rfl ?_
 dsimp only [List.set]
 refine xk_callMV (α := AC) 0 (f := 21) (fi := []) (ca := []) (fun c => .tuple #[.slice c.1 3 c.2, .bool true]) (fun c => readH f hL.h socE { zE with last := 0, h0 := 0, w0 := [] } [(packZ 0 0 16 5).1, 0, 131072] c) (fun _ => True) (by kernel_rfl) rfl rfl rfl (by decide) (fun w1 F1 t h1 h2 h3 => fmRead_m f hL.h socE { zE with last := 0, h0 := 2, w0 := [(packZ 0 0 16 5).1, 0, 131072] } 0 w1 F1 h1 h2) ?_
 rintro ⟨Ar, cr⟩ _
 dsimp only [List.set]
 refine XK.take 0 1 rfl rfl ?_
 dsimp only [List.set]
 refine XK.still [] [0] [] (by simp) rfl (by decide) (by decide) fun q hq _ hfr => ?_
 obtain ⟨F2, sf2, zf2⟩ := hq 0 _ (by simp) rfl
 have hr : BxP (Ar, cr) [(packZ 0 0 16 5).1, 0, 131072] q := BxP.le ⟨q.w, F2⟩ q (fun b hb => ⟨zf2 b hb, rfl⟩) sf2
 unfold msgE at hl
 generalize (packZ 0 0 16 5).1 = hd at hr hl ⊢
 obtain ⟨b, off, rfl, hb, hc⟩ := hr.2 (by simp)
 obtain ⟨lb, lo, rfl, hlb, hlc⟩ := hl.2 (by simp)
 have r0 : Rd w [q, q3, all w] [] b off (.int .u32 hd) := Rd.ro (p := q) (by simp) hb (hc 0 _ rfl)
 have r1 : Rd w [q, q3, all w] [] b (off + 1) (.int .u32 0) := Rd.ro (p := q) (by simp) hb (hc 1 _ rfl)
 have r2 : Rd w [q, q3, all w] [] b (off + 2) (.int .u32 131072) := Rd.ro (p := q) (by simp) hb (hc 2 _ rfl)
 have l0 : Rd w [q, q3, all w] [] lb lo (.int .u32 hd) := Rd.ro (p := q3) (by simp) hlb (hlc 0 _ rfl)
 refine XK.go ?_
 refine XK.drawQ ?_
 refine XQ.go ?_
 refine XQ.kd (dat 0 off) ?_
 refine XQ.go ?_
 refine XQ.kd (dat 0 lo (hlt := by simp)) ?_
 refine XQ.go ?_
 refine XQ.split 65 rfl (fun _ => ?_) (fun h => absurd rfl h)
 refine XQ.go ?_
 refine XQ.kd (dat 1 (off + 1)) ?_
 refine XQ.go ?_
 refine XQ.kd (dat 2 (off + 2)) ?_
 refine XQ.end_ ?_
 refine XK.go ?_
 exact XK.retE (by simp) rfl
end Go.Proofs.YticjkhagldkejaaGreatDoor
/- chip: a description that is right, of any raw numbers. No condition of ours. -/
namespace Go.Proofs.YticjkhagldkejaaGreatDoor
set_option linter.all false
open Go.RowKit

theorem pick15_any (c n : Int) (w : World) (hc : -9223372036854775808 ≤ c ∧ c ≤ 9223372036854775807) (hn : 0 < n) :
  Calls Tryz.prog 17 #[.int .i64 c, .int .i64 n] w fun x w' => (∃ v, x = .returned v ∧ ∃ r : Int, v = .int .i64 r ∧ 0 ≤ r ∧ r < n) ∧ Below w.heap.size w w' := by
 refine XK.enter (vs := [.int .i64 c, .int .i64 n]) Tryz.func17 rfl Tryz.ntmps17 (by simp) ?_
 refine XK.seq ?_
 refine XK.region ?_
 refine xk_assign rfl (by decide) ?_
 refine XK.nilN ?_
 refine XK.cut (fun e R H => ∃ c : Int, 0 ≤ c ∧ e = [(0, .int .i64 c), (1, .int .i64 n)] ∧ R = [all w] ∧ H = []) ?_ ?_
 ·refine XK.seq ?_
  refine XK.region ?_
  refine xk_move rfl (by decide) ?_
  refine xk_lss rfl rfl (by decide) ?_
  refine XK.nilN ?_
  refine XK.if_ rfl (fun h => ?_) (fun h => ?_)
  ·refine XK.region ?_
   refine xk_move rfl (by decide) ?_
   refine xk_add rfl rfl (wrap_in (by omega)) (by decide) ?_
   refine xk_neg rfl (wrap_in (by omega)) (by decide) ?_
   refine xk_assign rfl (by decide) ?_
   refine XK.nilN ?_
   exact XK.envS [(0, .int .i64 (0 - (c + 1))), (1, .int .i64 n)] (XK.meet ⟨_, by omega, rfl, rfl, rfl⟩)
  ·refine XK.skip ?_
   refine XK.norm ?_
   exact XK.envS [(0, .int .i64 c), (1, .int .i64 n)] (XK.meet ⟨_, by omega, rfl, rfl, rfl⟩)
 rintro _ _ _ ⟨c, hc0, rfl, rfl, rfl⟩
 refine XK.seq ?_
 refine XK.region ?_
 refine xk_move rfl (by decide) ?_
 refine xk_move rfl (by decide) ?_
 refine xk_rem rfl rfl (by omega) (rem_in (by omega)) (by decide) ?_
 refine xk_assign rfl (by decide) ?_
 refine XK.nilN ?_
 refine XK.ret ?_
 refine XK.norm ?_
 exact XK.ret1 rfl rfl fun w' st => ⟨⟨_, rfl, _, rfl, Int.emod_nonneg _ (by omega), Int.emod_lt_of_pos _ hn⟩, st.below (by simp)⟩

set_option maxRecDepth 100000 in
set_option maxHeartbeats 4000000 in
theorem chip15_any (A : Option Addr) (n c : Nat) (zs : List Int) (w : World) (h0 : SlS (all w) 1 A n (intCells zs)) (hz : I64s zs) (hn : n = zs.length) (hn2 : n ≤ 9223372036854775807) :
    Calls Tryz.prog 14 #[.slice A n c] w fun x w' => (∃ v, x = .returned v ∧ ∃ cs s, v = .agg cs ∧ SocR (slq (fresh w w')) s cs ∧ s.made) ∧ Below w.heap.size w w' := by
  refine XK.enter (vs := [.slice A n c]) Tryz.func14 rfl Tryz.ntmps14 (by simp) ?_
  refine XK.seq ?_

  refine XK.region ?_
  refine xk_alloc (cs := [.slice none 0 0, .slice none 0 0, .slice none 0 0, .slice none 0 0]) (zeroB_of (by kernel_rfl)) (by decide) fun g1 => ?_
  refine XK.nilN ?_
  refine XK.seq ?_

  refine XK.region ?_
  refine xk_assign rfl (by decide) ?_
  refine XK.nilN ?_
  refine XK.seq ?_

  refine XK.region ?_
  refine xk_makeT 8 (n := 120) (el := 3) (z := .int .i64 0) (by kernel_rfl) (by kernel_rfl) rfl rfl rfl (by omega) (by omega) (by decide) fun g2 => ?_
  refine xk_assign rfl (by decide) ?_
  refine XK.nilN ?_
  refine XK.cut (fun e R H => ∃ ds, Draw ds ∧ e = [(4, .slice (some ⟨g2, 0, none⟩) 120 120), (2, .pointer (some ⟨g1, 0, none⟩))] ∧ R = [all w] ∧ H = [HP.blk g2 3 (intCells ds), HP.blk g1 29 [.slice none 0 0, .slice none 0 0, .slice none 0 0, .slice none 0 0]]) ?_ ?_
  ·
    refine XK.seq ?_

    refine XK.region ?_
    refine xk_assign rfl (by decide) ?_
    refine XK.nilN ?_
    refine XK.envS [(5, .int .i64 0), (4, .slice (some ⟨g2, 0, none⟩) 120 120), (2, .pointer (some ⟨g1, 0, none⟩)), (0, .slice A n c)] ?_
    refine XK.block ?_
    refine XK.loop (fun m e R H => ∃ (k : Nat) (ds : List Int), Draw ds ∧ k ≤ 120 ∧ m = 120 - k ∧ e = [(5, .int .i64 k), (4, .slice (some ⟨g2, 0, none⟩) 120 120), (2, .pointer (some ⟨g1, 0, none⟩)), (0, .slice A n c)] ∧ R = [all w] ∧ H = [HP.blk g2 3 (intCells ds), HP.blk g1 29 [.slice none 0 0, .slice none 0 0, .slice none 0 0, .slice none 0 0]]) 120 ⟨0, List.replicate 120 0, Draw.zero, by omega, rfl, rfl, rfl, by simp [intCells]⟩ fun m e R H hI => ?_
    obtain ⟨k, ds, hd, hk, rfl, rfl, rfl, rfl⟩ := hI
    refine XK.seq ?_
    refine XK.seq ?_

    refine XK.region ?_
    refine xk_move rfl (by decide) ?_
    refine xk_move rfl (by decide) ?_
    refine xk_len (el := 3) (by kernel_rfl) rfl (by decide) ?_
    refine xk_lss rfl rfl (by decide) ?_
    refine xk_move rfl (by decide) ?_
    refine xk_split (t := 23) rfl (fun hg => ?_) (fun hg => ?_)
    ·
      refine xk_guardT rfl rfl ?_; refine xk_move rfl (by decide) ?_
      refine xk_guardT rfl rfl ?_; refine xk_len (el := 3) (by kernel_rfl) rfl (by decide) ?_
      refine xk_guardT rfl rfl ?_; refine xk_gtr rfl rfl (by decide) ?_
      (first | refine xk_pickT rfl rfl (by decide) ?_ | refine xk_pickF rfl rfl (by decide) ?_)
      refine XK.nilN ?_
      refine XK.if_ rfl (fun h => ?_) (fun h => ?_)
      ·
        refine XK.skip ?_
        refine XK.norm ?_
        refine XK.seq ?_
        refine XK.block ?_
        have hk2 : k < 120 := by omega
        have hn0 : 0 < n := by omega
        obtain ⟨b, off, rfl, hzb, hc⟩ := h0.2 hn0
        have hkn : ((k % n : Nat) : Int) = (k : Int) % (n : Int) := Int.natCast_emod k n
        have hkl : k % n < n := Nat.mod_lt _ hn0
        have hdv : ((k / n : Nat) : Int) = (k : Int) / (n : Int) := Int.natCast_ediv k n
        have hdl : k / n ≤ k := Nat.div_le_self _ _
        have hdb : 0 ≤ (k : Int) / (n : Int) ∧ (k : Int) / (n : Int) ≤ k := ⟨Int.ediv_nonneg (by omega) (by omega), by have h2 : ((k / n : Nat) : Int) ≤ (k : Int) := Int.ofNat_le.2 hdl; rwa [hdv] at h2⟩
        have hrd : ∀ H, Rd w [all w] H b (off + k % n) (.int .i64 (zs[k % n]?.getD 0)) := fun H => Rd.ro (p := all w) (by simp) hzb (by exact hc _ _ (intCells_get zs _ (by omega)))
        have hzz := hz (k % n)
        have hyb := tdiv_bd (z := zs[k % n]?.getD 0) (d := 1 + (k : Int) / (n : Int)) (lo := -9223372036854775808) (hi := 9223372036854775807) (by omega) (by omega) (by omega) hzz

        refine XK.draw 16 (by kernel_rfl) (by kernel_rfl) ?_
        refine XA.dA 0 rfl rfl rfl (does_move rfl) ?_
        refine XA.dA 1 rfl rfl rfl (does_move rfl) ?_
        refine XA.dA 2 rfl rfl rfl (does_move rfl) ?_
        refine XA.dA 3 rfl rfl rfl (does_move rfl) ?_
        refine XA.dA 4 rfl rfl rfl (does_move rfl) ?_
        refine XA.dA 5 rfl rfl rfl (does_len (el := 3) (by kernel_rfl) rfl) ?_
        refine XA.dA 6 rfl rfl rfl (does_rem rfl rfl (by omega) (rem_in (by omega))) ?_
        refine XA.dA 7 rfl rfl rfl (does_at (k % n) (off + k % n) (el := 3) (sz := 1) (by kernel_rfl) (by kernel_rfl) rfl rfl hkn.symm hkl (by omega)) ?_
        refine XA.dA 8 rfl rfl rfl (does_load (by kernel_rfl) rfl (hrd _)) ?_
        refine XA.dA 9 rfl rfl rfl (does_move rfl) ?_
        refine XA.dA 10 rfl rfl rfl (does_move rfl) ?_
        refine XA.dA 11 rfl rfl rfl (does_len (el := 3) (by kernel_rfl) rfl) ?_
        refine XA.dA 12 rfl rfl rfl (does_quo rfl rfl (by omega) (quo_in (by omega) (by omega) (by omega))) ?_
        refine XA.dA 13 rfl rfl rfl (does_add rfl rfl (wrap_in (by omega))) ?_
        refine XA.dA 14 rfl rfl rfl (does_quo rfl rfl (by omega) (wrap_in hyb)) ?_
        refine XA.next 15 rfl (by kernel_rfl) ?_
        refine xk_callV (f := 17) (fi := []) (ca := []) (by kernel_rfl) rfl rfl (by decide) (fun v => ∃ r : Int, v = .int .i64 r ∧ 0 ≤ r ∧ r < 1000000) (fun w1 st => pick15_any _ _ w1 hyb (by omega)) fun v hv => ?_
        obtain ⟨r, rfl, hr0, hr1⟩ := hv
        refine XA.bk ?_
        refine XA.next 16 rfl (by kernel_rfl) ?_
        refine xk_at k k (el := 3) (sz := 1) (by kernel_rfl) (by kernel_rfl) rfl rfl rfl hk2 (by omega) (by decide) ?_
        refine XA.bt ?_
        refine XA.next 17 rfl (by kernel_rfl) ?_
        refine xk_store 0 rfl (by kernel_rfl) rfl rfl rfl (by simp [intCells, hd.1]; omega) ?_
        refine XA.bt ?_
        refine XA.done (by kernel_rfl) ?_
        refine XK.norm ?_

        refine XK.region ?_
        refine xk_move rfl (by decide) ?_
        refine xk_add rfl rfl (wrap_in (by omega)) (by decide) ?_
        refine xk_assign rfl (by decide) ?_
        refine XK.nilN ?_
        exact XK.envS [(5, .int .i64 (k + 1)), (4, .slice (some ⟨g2, 0, none⟩) 120 120), (2, .pointer (some ⟨g1, 0, none⟩)), (0, .slice (some ⟨b, off, none⟩) n c)] (XK.round (120 - (k + 1)) (by omega) ⟨k + 1, ds.set k r, hd.set_ k hr0 hr1, by omega, rfl, rfl, rfl, by simp [intCells, List.map_set]⟩)
      ·
        refine XK.exit ?_
        refine XK.norm ?_
        exact XK.envS [(4, .slice (some ⟨g2, 0, none⟩) 120 120), (2, .pointer (some ⟨g1, 0, none⟩))] (XK.meet ⟨ds, hd, rfl, rfl, rfl⟩)
    ·
      refine xk_guardF rfl rfl rfl (by decide) ?_
      refine xk_guardF rfl rfl rfl (by decide) ?_
      refine xk_guardF rfl rfl rfl (by decide) ?_
      (first | refine xk_pickT rfl rfl (by decide) ?_ | refine xk_pickF rfl rfl (by decide) ?_)
      refine XK.nilN ?_
      refine XK.cond rfl (fun h => by cases h) (fun _ => ?_)
      refine XK.exit ?_
      refine XK.norm ?_
      exact XK.envS [(4, .slice (some ⟨g2, 0, none⟩) 120 120), (2, .pointer (some ⟨g1, 0, none⟩))] (XK.meet ⟨ds, hd, rfl, rfl, rfl⟩)
  rintro _ _ _ ⟨ds, hd, rfl, rfl, rfl⟩
  have dd := hd.at_
  have b0 := hd.bd 0
  have b1 := hd.bd 1
  refine XK.seq ?_

  refine XK.region ?_
  refine xk_move rfl (by decide) ?_
  refine xk_at 0 0 (el := 3) (sz := 1) (by kernel_rfl) (by kernel_rfl) rfl rfl (by rfl) (by omega) (by omega) (by decide) ?_
  refine xk_load (by kernel_rfl) rfl (by first | exact Rd.anyB (dd _ (by omega)) | exact Rd.ld) (by decide) ?_
  refine xk_add rfl rfl (wrap_in (by omega)) (by decide) ?_
  refine xk_conv (ds := .int .i64) (by kernel_rfl) (by kernel_rfl) rfl (wrap_u64 (by omega)) (by decide) ?_
  refine xk_buildS (zs := [.int .u8 0, .slice none 0 0, .int .u64 0, .int .i64 0, .int .i64 0, .int .i64 0]) (L := [(0, 1), (1, 1), (2, 1), (3, 1), (4, 1), (5, 1)]) (zeroB_of (by kernel_rfl)) (by kernel_rfl) rfl (by simp [fillL, setN, Value.cells]; rfl) (by decide) ?_
  refine xk_slice (el := 118) (sz := 6) (zs := [.int .u8 0, .slice none 0 0, .int .u64 0, .int .i64 0, .int .i64 0, .int .i64 0]) (by kernel_rfl) (zeroB_of (by kernel_rfl)) (by kernel_rfl) rfl (by decide) (by decide) rfl (by simp [fillL, setN, Value.cells, List.range_succ, List.set]; rfl) (by decide) fun g3 => ?_
  refine xk_buildS (zs := [.slice none 0 0, .slice none 0 0, .slice none 0 0, .slice none 0 0]) (L := [(0, 1), (1, 1), (2, 1), (3, 1)]) (zeroB_of (by kernel_rfl)) (by kernel_rfl) rfl (by simp [fillL, setN, Value.cells]; rfl) (by decide) ?_
  refine xk_alloc (cs := [.slice none 0 0, .slice none 0 0, .slice none 0 0, .slice none 0 0]) (zeroB_of (by kernel_rfl)) (by decide) fun g4 => ?_
  refine xk_stN rfl rfl ?_; simp only [putN, Value.cells, List.set, List.take, List.drop, List.nil_append, List.append_nil, List.length_cons, List.length_nil, List.cons_append, Nat.reduceAdd]
  refine XK.nilN ?_
  refine XK.seq ?_

  refine XK.region ?_
  refine xk_assign rfl (by decide) ?_
  refine XK.nilN ?_
  refine XK.seq ?_

  refine XK.region ?_
  refine xk_assign rfl (by decide) ?_
  refine XK.nilN ?_
  refine XK.cut (fun e R H => ∃ (cs : List Clk) (A1 : Option Addr) (c1 : Nat) (q : Piece) (rows1 : List (List Value)), 1 ≤ cs.length ∧ cs.length ≤ 9 ∧ Fits Clk.fit cs ∧ Rows (ClkR (slq q)) 6 cs rows1 ∧ Fresh w q ∧ e = [(6, .pointer (some ⟨g4, 0, none⟩)), (4, .slice (some ⟨g2, 0, none⟩) 120 120), (2, .pointer (some ⟨g1, 0, none⟩))] ∧ R = [q, all w] ∧ H = [HP.blk g4 29 [.slice A1 cs.length c1, .slice none 0 0, .slice none 0 0, .slice none 0 0], HP.own 118 6 (.slice A1 cs.length c1) cs.length rows1.flatten, HP.blk g2 3 (intCells ds), HP.blk g1 29 [.slice none 0 0, .slice none 0 0, .slice none 0 0, .slice none 0 0]]) ?_ ?_
  ·
    refine XK.seq ?_

    refine XK.region ?_
    refine xk_assign rfl (by decide) ?_
    refine XK.nilN ?_
    refine XK.asOwn 1 6 1 rfl rfl (by omega) ?_
    refine XK.still [] [] [0, 1, 2, 3] (by simp) rfl (by decide) (by simp) fun q _ _ hqn => ?_
    have hq := hqn (by simp) (by simp)
    refine XK.envS [(8, .int .i64 0), (3, .int .i64 1), (7, .string ⟨#[112, 100, 103, 109, 103]⟩), (6, .pointer (some ⟨g4, 0, none⟩)), (4, .slice (some ⟨g2, 0, none⟩) 120 120), (2, .pointer (some ⟨g1, 0, none⟩))] ?_
    refine XK.block ?_
    refine XK.loop (fun m e R H => ∃ (k : Nat) (cs : List Clk) (A1 : Option Addr) (c1 : Nat) (q : Piece) (rows1 : List (List Value)), (k : Int) ≤ dv ds 1 % 9 ∧ m = 9 - k ∧ cs.length = k + 1 ∧ Fits Clk.fit cs ∧ Rows (ClkR (slq q)) 6 cs rows1 ∧ Fresh w q ∧ e = [(8, .int .i64 k), (3, .int .i64 1), (7, .string ⟨#[112, 100, 103, 109, 103]⟩), (6, .pointer (some ⟨g4, 0, none⟩)), (4, .slice (some ⟨g2, 0, none⟩) 120 120), (2, .pointer (some ⟨g1, 0, none⟩))] ∧ R = [q, all w] ∧ H = [HP.blk g4 29 [.slice A1 cs.length c1, .slice none 0 0, .slice none 0 0, .slice none 0 0], HP.own 118 6 (.slice A1 cs.length c1) cs.length rows1.flatten, HP.blk g2 3 (intCells ds), HP.blk g1 29 [.slice none 0 0, .slice none 0 0, .slice none 0 0, .slice none 0 0]]) 9 ⟨0, [⟨111, [], 1 + dv ds 0, 0, 0, 0⟩], some ⟨g3, 0, none⟩, 1, q, [[.int .u8 111, .slice none 0 0, .int .u64 (1 + dv ds 0), .int .i64 0, .int .i64 0, .int .i64 0]], by omega, rfl, rfl, (Fits.nil Clk.fit).snoc ⟨by simp, .inl ⟨rfl, rfl, by dsimp only; omega, by dsimp only; omega, rfl, rfl, rfl⟩⟩, ⟨rfl, ⟨none, 0, 0, rfl, rfl, SlS.nil _ _⟩, trivial⟩, hq, rfl, rfl, rfl⟩ fun m e R H hI => ?_
    obtain ⟨k, cs, A1, c1, q, rows1, hk, rfl, hcl, hcf, hcr, hq, rfl, rfl, rfl⟩ := hI
    refine XK.seq ?_
    refine XK.seq ?_

    refine XK.region ?_
    refine xk_move rfl (by decide) ?_
    refine xk_move rfl (by decide) ?_
    refine xk_move rfl (by decide) ?_
    refine xk_at 1 1 (el := 3) (sz := 1) (by kernel_rfl) (by kernel_rfl) rfl rfl (by omega) (by omega) (by omega) (by decide) ?_
    refine xk_load (by kernel_rfl) rfl (by first | exact Rd.anyB (dd _ (by omega)) | exact Rd.ld) (by decide) ?_
    refine xk_rem rfl rfl (by omega) (rem_in (by omega)) (by decide) ?_
    refine xk_lss rfl rfl (by decide) ?_
    refine XK.nilN ?_
    refine XK.if_ rfl (fun h => ?_) (fun h => ?_)
    ·
      refine XK.skip ?_
      refine XK.norm ?_
      refine XK.seq ?_
      have hk2 : k < 9 := by omega
      have hcp : (0 : Int) < cs.length := by omega
      have b2 := hd.bd (10 + 3 * k)
      have b3 := hd.bd (11 + 3 * k)
      have b4 := hd.bd (12 + 3 * k)
      have f0 := emod_bd (dv ds (11 + 3 * k)) hcp
      have f1 := emod_bd (dv ds (12 + 3 * k)) hcp
      have m5 := emod_bd (dv ds (10 + 3 * k)) (n := 5) (by omega)
      obtain ⟨kb, hkb, hkb2⟩ := kinds_at (q := (dv ds (10 + 3 * k) % 5).toNat) (by omega)
      refine XK.block ?_
      refine XK.seq ?_

      refine XK.region ?_
      refine xk_move rfl (by decide) ?_
      refine xk_mul rfl rfl (wrap_in (by omega)) (by decide) ?_
      refine xk_add rfl rfl (wrap_in (by omega)) (by decide) ?_
      refine xk_assign rfl (by decide) ?_
      refine XK.nilN ?_
      refine XK.cut (fun e R H => ∃ gC gF, e = [(10, .pointer (some ⟨gC, 0, none⟩)), (9, .int .i64 (10 + 3 * k)), (8, .int .i64 k), (3, .int .i64 1), (7, .string ⟨#[112, 100, 103, 109, 103]⟩), (6, .pointer (some ⟨g4, 0, none⟩)), (4, .slice (some ⟨g2, 0, none⟩) 120 120), (2, .pointer (some ⟨g1, 0, none⟩))] ∧ R = [q, all w] ∧ H = [HP.blk gC 118 [.int .u8 kb.toNat, .slice (some ⟨gF, 0, none⟩) 1 1, .int .u64 0, .int .i64 0, .int .i64 0, .int .i64 0], HP.blk gF 3 [.int .i64 (dv ds (11 + 3 * k) % cs.length)], HP.blk g4 29 [.slice A1 cs.length c1, .slice none 0 0, .slice none 0 0, .slice none 0 0], HP.own 118 6 (.slice A1 cs.length c1) cs.length rows1.flatten, HP.blk g2 3 (intCells ds), HP.blk g1 29 [.slice none 0 0, .slice none 0 0, .slice none 0 0, .slice none 0 0]]) ?_ ?_
      ·

        refine XK.draw 19 (by kernel_rfl) (by kernel_rfl) ?_
        refine XA.dA 0 rfl rfl rfl (does_move rfl) ?_
        refine XA.dA 1 rfl rfl rfl (does_move rfl) ?_
        refine XA.dA 2 rfl rfl rfl (does_move rfl) ?_
        refine XA.dA 3 rfl rfl rfl (does_at (10 + 3 * k) (10 + 3 * k) (el := 3) (sz := 1) (by kernel_rfl) (by kernel_rfl) rfl rfl (by omega) (by omega) (by omega)) ?_
        refine XA.dA 4 rfl rfl rfl (does_load (by kernel_rfl) rfl (by first | exact Rd.anyB (dd _ (by omega)) | exact Rd.ld)) ?_
        refine XA.dA 5 rfl rfl rfl (does_rem rfl rfl (by omega) (rem_in (by omega))) ?_
        refine XA.dA 6 rfl rfl rfl (does_byte (dv ds (10 + 3 * k) % 5).toNat (by kernel_rfl) rfl rfl (by omega) hkb) ?_
        refine XA.dA 7 rfl rfl rfl (does_move rfl) ?_
        refine XA.dA 8 rfl rfl rfl (does_move rfl) ?_
        refine XA.dA 9 rfl rfl rfl (does_add rfl rfl (wrap_in (by omega))) ?_
        refine XA.dA 10 rfl rfl rfl (does_at (11 + 3 * k) (11 + 3 * k) (el := 3) (sz := 1) (by kernel_rfl) (by kernel_rfl) rfl rfl (by omega) (by omega) (by omega)) ?_
        refine XA.dA 11 rfl rfl rfl (does_load (by kernel_rfl) rfl (by first | exact Rd.anyB (dd _ (by omega)) | exact Rd.ld)) ?_
        refine XA.dA 12 rfl rfl rfl (does_field (off := 0) (by kernel_rfl) rfl) ?_
        refine XA.dA 13 rfl rfl rfl (does_load (by kernel_rfl) rfl (by first | exact Rd.anyB (dd _ (by omega)) | exact Rd.ld)) ?_
        refine XA.dA 14 rfl rfl rfl (does_len (el := 118) (by kernel_rfl) rfl) ?_
        refine XA.dA 15 rfl rfl rfl (does_rem rfl rfl (by omega) (rem_in (by omega))) ?_
        refine XA.either 16 18 rfl rfl (by kernel_rfl) ?_ ?_
        · refine xk_slice (el := 3) (sz := 1) (zs := [.int .i64 0]) (by kernel_rfl) (zeroB_of (by kernel_rfl)) (by kernel_rfl) rfl (by decide) (by decide) rfl (by simp [fillL, setN, Value.cells, List.range_succ, List.set]; rfl) (by decide) fun g5 => ?_
          refine XA.bk ?_
          refine XA.dA 17 rfl rfl rfl (does_buildS (zs := [.int .u8 0, .slice none 0 0, .int .u64 0, .int .i64 0, .int .i64 0, .int .i64 0]) (L := [(0, 1), (1, 1), (2, 1), (3, 1), (4, 1), (5, 1)]) (zeroB_of (by kernel_rfl)) (by kernel_rfl) rfl (by simp [fillL, setN, Value.cells]; rfl)) ?_
          refine XA.next 18 rfl (by kernel_rfl) ?_
          refine xk_alloc (cs := [.int .u8 0, .slice none 0 0, .int .u64 0, .int .i64 0, .int .i64 0, .int .i64 0]) (zeroB_of (by kernel_rfl)) (by decide) fun g6 => ?_
          refine XA.bk ?_
          refine XA.next 19 rfl (by kernel_rfl) ?_
          refine xk_stN rfl rfl ?_; simp only [putN, Value.cells, List.set, List.take, List.drop, List.nil_append, List.append_nil, List.length_cons, List.length_nil, List.cons_append, Nat.reduceAdd]
          refine XA.bt ?_
          refine XA.done (by kernel_rfl) ?_
          refine XK.norm ?_
          exact XK.envS [(10, .pointer (some ⟨g6, 0, none⟩)), (9, .int .i64 (10 + 3 * k)), (8, .int .i64 k), (3, .int .i64 1), (7, .string ⟨#[112, 100, 103, 109, 103]⟩), (6, .pointer (some ⟨g4, 0, none⟩)), (4, .slice (some ⟨g2, 0, none⟩) 120 120), (2, .pointer (some ⟨g1, 0, none⟩))] (XK.meet ⟨_, _, rfl, rfl, rfl⟩)
        · refine xk_alloc (cs := [.int .u8 0, .slice none 0 0, .int .u64 0, .int .i64 0, .int .i64 0, .int .i64 0]) (zeroB_of (by kernel_rfl)) (by decide) fun g6 => ?_
          refine XA.bk ?_
          refine XA.next 16 rfl (by kernel_rfl) ?_
          refine xk_slice (el := 3) (sz := 1) (zs := [.int .i64 0]) (by kernel_rfl) (zeroB_of (by kernel_rfl)) (by kernel_rfl) rfl (by decide) (by decide) rfl (by simp [fillL, setN, Value.cells, List.range_succ, List.set]; rfl) (by decide) fun g5 => ?_
          refine XA.bk ?_
          refine XA.dA 17 rfl rfl rfl (does_buildS (zs := [.int .u8 0, .slice none 0 0, .int .u64 0, .int .i64 0, .int .i64 0, .int .i64 0]) (L := [(0, 1), (1, 1), (2, 1), (3, 1), (4, 1), (5, 1)]) (zeroB_of (by kernel_rfl)) (by kernel_rfl) rfl (by simp [fillL, setN, Value.cells]; rfl)) ?_
          refine XA.next 19 rfl (by kernel_rfl) ?_
          refine xk_stN rfl rfl ?_; simp only [putN, Value.cells, List.set, List.take, List.drop, List.nil_append, List.append_nil, List.length_cons, List.length_nil, List.cons_append, Nat.reduceAdd]
          refine XA.bt ?_
          refine XA.done (by kernel_rfl) ?_
          refine XK.norm ?_
          exact XK.weak [1, 0, 2, 3, 4, 5] rfl (by decide) (fun _ h => h) (XK.envS [(10, .pointer (some ⟨g6, 0, none⟩)), (9, .int .i64 (10 + 3 * k)), (8, .int .i64 k), (3, .int .i64 1), (7, .string ⟨#[112, 100, 103, 109, 103]⟩), (6, .pointer (some ⟨g4, 0, none⟩)), (4, .slice (some ⟨g2, 0, none⟩) 120 120), (2, .pointer (some ⟨g1, 0, none⟩))] (XK.meet ⟨_, _, rfl, rfl, rfl⟩))

      rintro _ _ _ ⟨gC, gF, rfl, rfl, rfl⟩
      refine XK.asOwn 1 1 1 rfl rfl (by omega) ?_
      refine XK.cut (fun e R H => ∃ (cl : Clk) (Af : Option Addr) (cf gC : Nat), cl.fit cs.length ∧ e = [(10, .pointer (some ⟨gC, 0, none⟩)), (8, .int .i64 k), (3, .int .i64 1), (7, .string ⟨#[112, 100, 103, 109, 103]⟩), (6, .pointer (some ⟨g4, 0, none⟩)), (4, .slice (some ⟨g2, 0, none⟩) 120 120), (2, .pointer (some ⟨g1, 0, none⟩))] ∧ R = [q, all w] ∧ H = [HP.blk gC 118 [.int .u8 cl.kind, .slice Af cl.src.length cf, .int .u64 cl.rate, .int .i64 cl.mul, .int .i64 cl.div, .int .i64 cl.lock], HP.own 3 1 (.slice Af cl.src.length cf) cl.src.length (intCells cl.src), HP.blk g4 29 [.slice A1 cs.length c1, .slice none 0 0, .slice none 0 0, .slice none 0 0], HP.own 118 6 (.slice A1 cs.length c1) cs.length rows1.flatten, HP.blk g2 3 (intCells ds), HP.blk g1 29 [.slice none 0 0, .slice none 0 0, .slice none 0 0, .slice none 0 0]]) ?_ ?_
      ·
        refine XK.seq ?_

        refine XK.region ?_
        refine xk_field (off := 0) (by kernel_rfl) rfl (by decide) ?_
        refine xk_load (by kernel_rfl) rfl (by first | exact Rd.anyB (dd _ (by omega)) | exact Rd.ld) (by decide) ?_
        refine XK.nilN ?_
        refine XK.block ?_
        refine XK.seq ?_

        refine XK.region ?_
        refine xk_eql rfl rfl (by decide) ?_
        refine xk_assign rfl (by decide) ?_
        refine XK.nilN ?_
        refine XK.if_ rfl (fun h => ?_) (fun h => ?_)
        ·
          refine XK.seq ?_

          refine XK.region ?_
          refine xk_move rfl (by decide) ?_
          refine xk_move rfl (by decide) ?_
          refine xk_add rfl rfl (wrap_in (by omega)) (by decide) ?_
          refine xk_at (12 + 3 * k) (12 + 3 * k) (el := 3) (sz := 1) (by kernel_rfl) (by kernel_rfl) rfl rfl (by omega) (by omega) (by omega) (by decide) ?_
          refine xk_load (by kernel_rfl) rfl (by first | exact Rd.anyB (dd _ (by omega)) | exact Rd.ld) (by decide) ?_
          refine xk_rem rfl rfl (by omega) (rem_in (by omega)) (by decide) ?_
          refine xk_add rfl rfl (wrap_in (by omega)) (by decide) ?_
          refine xk_field (off := 3) (by kernel_rfl) rfl (by decide) ?_
          refine xk_st rfl rfl ?_; dsimp only [List.set]
          refine XK.nilN ?_
          refine XK.seq ?_

          refine XK.region ?_
          refine xk_move rfl (by decide) ?_
          refine xk_move rfl (by decide) ?_
          refine xk_add rfl rfl (wrap_in (by omega)) (by decide) ?_
          refine xk_at (12 + 3 * k) (12 + 3 * k) (el := 3) (sz := 1) (by kernel_rfl) (by kernel_rfl) rfl rfl (by omega) (by omega) (by omega) (by decide) ?_
          refine xk_load (by kernel_rfl) rfl (by first | exact Rd.anyB (dd _ (by omega)) | exact Rd.ld) (by decide) ?_
          refine xk_quo rfl rfl (by omega) (quo_in (by omega) (by omega) (by omega)) (by decide) ?_
          refine xk_rem rfl rfl (by omega) (rem_in (by omega)) (by decide) ?_
          refine xk_add rfl rfl (wrap_in (by omega)) (by decide) ?_
          refine xk_field (off := 4) (by kernel_rfl) rfl (by decide) ?_
          refine xk_st rfl rfl ?_; dsimp only [List.set]
          refine XK.nilN ?_

          refine XK.region ?_
          refine xk_move rfl (by decide) ?_
          refine xk_move rfl (by decide) ?_
          refine xk_add rfl rfl (wrap_in (by omega)) (by decide) ?_
          refine xk_at (12 + 3 * k) (12 + 3 * k) (el := 3) (sz := 1) (by kernel_rfl) (by kernel_rfl) rfl rfl (by omega) (by omega) (by omega) (by decide) ?_
          refine xk_load (by kernel_rfl) rfl (by first | exact Rd.anyB (dd _ (by omega)) | exact Rd.ld) (by decide) ?_
          refine xk_quo rfl rfl (by omega) (quo_in (by omega) (by omega) (by omega)) (by decide) ?_
          refine xk_rem rfl rfl (by omega) (rem_in (by omega)) (by decide) ?_
          refine xk_field (off := 5) (by kernel_rfl) rfl (by decide) ?_
          refine xk_st rfl rfl ?_; dsimp only [List.set]
          refine XK.nilN ?_
          exact XK.envS [(10, .pointer (some ⟨gC, 0, none⟩)), (8, .int .i64 k), (3, .int .i64 1), (7, .string ⟨#[112, 100, 103, 109, 103]⟩), (6, .pointer (some ⟨g4, 0, none⟩)), (4, .slice (some ⟨g2, 0, none⟩) 120 120), (2, .pointer (some ⟨g1, 0, none⟩))] (XK.meet ⟨⟨kb.toNat, [dv ds (11 + 3 * k) % cs.length], 0, 1 + dv ds (12 + 3 * k) % 8, 1 + dv ds (12 + 3 * k) / 8 % 4, dv ds (12 + 3 * k) / 32 % 4⟩, some ⟨gF, 0, none⟩, 1, gC, ⟨fun f hf => by simp at hf; subst hf; exact f0, .inr (.inl ⟨h, rfl, rfl, by dsimp only; omega, by dsimp only; omega, by dsimp only; omega, by dsimp only; omega, by dsimp only; omega, by dsimp only; omega⟩)⟩, rfl, rfl, rfl⟩)
        ·
          refine XK.seq ?_

          refine XK.region ?_
          refine xk_eql rfl rfl (by decide) ?_
          refine xk_assign rfl (by decide) ?_
          refine XK.nilN ?_
          refine XK.if_ rfl (fun h => ?_) (fun h => ?_)
          ·

            refine XK.region ?_
            refine xk_move rfl (by decide) ?_
            refine xk_move rfl (by decide) ?_
            refine xk_add rfl rfl (wrap_in (by omega)) (by decide) ?_
            refine xk_at (12 + 3 * k) (12 + 3 * k) (el := 3) (sz := 1) (by kernel_rfl) (by kernel_rfl) rfl rfl (by omega) (by omega) (by omega) (by decide) ?_
            refine xk_load (by kernel_rfl) rfl (by first | exact Rd.anyB (dd _ (by omega)) | exact Rd.ld) (by decide) ?_
            refine xk_rem rfl rfl (by omega) (rem_in (by omega)) (by decide) ?_
            refine xk_add rfl rfl (wrap_in (by omega)) (by decide) ?_
            refine xk_field (off := 4) (by kernel_rfl) rfl (by decide) ?_
            refine xk_st rfl rfl ?_; dsimp only [List.set]
            refine XK.nilN ?_
            exact XK.envS [(10, .pointer (some ⟨gC, 0, none⟩)), (8, .int .i64 k), (3, .int .i64 1), (7, .string ⟨#[112, 100, 103, 109, 103]⟩), (6, .pointer (some ⟨g4, 0, none⟩)), (4, .slice (some ⟨g2, 0, none⟩) 120 120), (2, .pointer (some ⟨g1, 0, none⟩))] (XK.meet ⟨⟨kb.toNat, [dv ds (11 + 3 * k) % cs.length], 0, 0, 1 + dv ds (12 + 3 * k) % 8, 0⟩, some ⟨gF, 0, none⟩, 1, gC, ⟨fun f hf => by simp at hf; subst hf; exact f0, .inr (.inr (.inl ⟨h, rfl, rfl, rfl, by dsimp only; omega, by dsimp only; omega, rfl⟩))⟩, rfl, rfl, rfl⟩)
          ·
            refine XK.seq ?_

            refine XK.region ?_
            refine xk_eql rfl rfl (by decide) ?_
            refine xk_assign rfl (by decide) ?_
            refine XK.nilN ?_
            refine XK.if_ rfl (fun h => ?_) (fun h => ?_)
            ·

              refine XK.draw 12 (by kernel_rfl) (by kernel_rfl) ?_
              refine XA.dA 0 rfl rfl rfl (does_field (off := 1) (by kernel_rfl) rfl) ?_
              refine XA.dA 1 rfl rfl rfl (does_load (by kernel_rfl) rfl (by first | exact Rd.anyB (dd _ (by omega)) | exact Rd.ld)) ?_
              refine XA.dA 2 rfl rfl rfl (does_move rfl) ?_
              refine XA.dA 3 rfl rfl rfl (does_move rfl) ?_
              refine XA.dA 4 rfl rfl rfl (does_add rfl rfl (wrap_in (by omega))) ?_
              refine XA.dA 5 rfl rfl rfl (does_at (12 + 3 * k) (12 + 3 * k) (el := 3) (sz := 1) (by kernel_rfl) (by kernel_rfl) rfl rfl (by omega) (by omega) (by omega)) ?_
              refine XA.dA 6 rfl rfl rfl (does_load (by kernel_rfl) rfl (by first | exact Rd.anyB (dd _ (by omega)) | exact Rd.ld)) ?_
              refine XA.dA 7 rfl rfl rfl (does_field (off := 0) (by kernel_rfl) rfl) ?_
              refine XA.dA 8 rfl rfl rfl (does_load (by kernel_rfl) rfl (by first | exact Rd.anyB (dd _ (by omega)) | exact Rd.ld)) ?_
              refine XA.dA 9 rfl rfl rfl (does_len (el := 118) (by kernel_rfl) rfl) ?_
              refine XA.dA 10 rfl rfl rfl (does_rem rfl rfl (by omega) (rem_in (by omega))) ?_
              refine XA.next 11 rfl (by kernel_rfl) ?_
              refine xk_slice (el := 3) (sz := 1) (zs := [.int .i64 0]) (by kernel_rfl) (zeroB_of (by kernel_rfl)) (by kernel_rfl) rfl (by decide) (by decide) rfl (by simp [fillL, setN, Value.cells, List.range_succ, List.set]; rfl) (by decide) fun g7 => ?_
              refine XA.bk ?_
              refine XA.next 12 rfl (by kernel_rfl) ?_
              refine xk_appendT 2 1 8 1 (n' := 2) (el := 3) (by kernel_rfl) (by kernel_rfl) (by decide) rfl rfl rfl (sl_blk 0 rfl rfl) (by simp [Value.oneCell']) rfl (by omega) (by omega) (by decide) fun Af cf => ?_
              refine XA.bt ?_
              refine XA.next 13 rfl (by kernel_rfl) ?_
              refine xk_field (off := 1) (by kernel_rfl) rfl (by decide) ?_
              refine XA.bt ?_
              refine XA.next 14 rfl (by kernel_rfl) ?_
              refine xk_st rfl rfl ?_; dsimp only [List.set]
              refine XA.bt ?_
              refine XA.done (by kernel_rfl) ?_
              refine XK.norm ?_
              exact XK.weak [1, 2, 3, 4, 5, 6] rfl (by decide) (fun _ h => h) (XK.envS [(10, .pointer (some ⟨gC, 0, none⟩)), (8, .int .i64 k), (3, .int .i64 1), (7, .string ⟨#[112, 100, 103, 109, 103]⟩), (6, .pointer (some ⟨g4, 0, none⟩)), (4, .slice (some ⟨g2, 0, none⟩) 120 120), (2, .pointer (some ⟨g1, 0, none⟩))] (XK.meet ⟨⟨kb.toNat, [dv ds (11 + 3 * k) % cs.length, dv ds (12 + 3 * k) % cs.length], 0, 0, 0, 0⟩, Af, cf, gC, ⟨fun f hf => by simp at hf; rcases hf with rfl | rfl; exact f0; exact f1, .inr (.inr (.inr (.inr ⟨h, rfl, rfl, rfl, rfl, rfl⟩)))⟩, rfl, rfl, rfl⟩))
            ·
              refine XK.skip ?_
              refine XK.norm ?_
              exact XK.envS [(10, .pointer (some ⟨gC, 0, none⟩)), (8, .int .i64 k), (3, .int .i64 1), (7, .string ⟨#[112, 100, 103, 109, 103]⟩), (6, .pointer (some ⟨g4, 0, none⟩)), (4, .slice (some ⟨g2, 0, none⟩) 120 120), (2, .pointer (some ⟨g1, 0, none⟩))] (XK.meet ⟨⟨kb.toNat, [dv ds (11 + 3 * k) % cs.length], 0, 0, 0, 0⟩, some ⟨gF, 0, none⟩, 1, gC, ⟨fun f hf => by simp at hf; subst hf; exact f0, .inr (.inr (.inr (.inl ⟨by dsimp only; omega, rfl, rfl, rfl, rfl, rfl⟩)))⟩, rfl, rfl, rfl⟩)
      rintro _ _ _ ⟨cl, Af, cf, gC, hclf, rfl, rfl, rfl⟩

      refine XK.region ?_
      refine xk_field (off := 0) (by kernel_rfl) rfl (by decide) ?_
      refine xk_load (by kernel_rfl) rfl (by first | exact Rd.anyB (dd _ (by omega)) | exact Rd.ld) (by decide) ?_
      refine xk_ldN 6 rfl ?_
      refine xk_slice (el := 118) (sz := 6) (zs := [.int .u8 0, .slice none 0 0, .int .u64 0, .int .i64 0, .int .i64 0, .int .i64 0]) (by kernel_rfl) (zeroB_of (by kernel_rfl)) (by kernel_rfl) rfl (by decide) (by decide) rfl (by simp [fillL, setN, Value.cells, List.range_succ, List.set]; rfl) (by decide) fun g8 => ?_
      refine xk_appendT 4 6 64 1 (n' := cs.length + 1) (el := 118) (by kernel_rfl) (by kernel_rfl) (by decide) rfl rfl rfl (sl_blk 0 rfl rfl) (by simp [Value.oneCell']) rfl (by omega) (by omega) (by decide) fun A1n c1n => ?_
      refine xk_field (off := 0) (by kernel_rfl) rfl (by decide) ?_
      refine xk_st rfl rfl ?_; dsimp only [List.set]
      refine XK.nilN ?_

      refine XK.region ?_
      refine xk_move rfl (by decide) ?_
      refine xk_add rfl rfl (wrap_in (by omega)) (by decide) ?_
      refine xk_assign rfl (by decide) ?_
      refine XK.nilN ?_
      refine XK.still [q] [2] [3, 4, 5, 6] (by simp) rfl (by decide) (by simp) fun q2 hqf hql hqn => ?_
      have hle := hql q (by simp)
      have hq2 := hqn (by simp) (by simp; exact hq)
      have hsl := SlS.own (hqf 2 _ (by simp) rfl)
      exact XK.weak [0, 1, 2, 3] rfl (by decide) (by simp) (XK.envS [(8, .int .i64 (k + 1)), (3, .int .i64 1), (7, .string ⟨#[112, 100, 103, 109, 103]⟩), (6, .pointer (some ⟨g4, 0, none⟩)), (4, .slice (some ⟨g2, 0, none⟩) 120 120), (2, .pointer (some ⟨g1, 0, none⟩))] (XK.round (9 - (k + 1)) (by omega) ⟨k + 1, cs ++ [cl], A1n, c1n, q2, rows1 ++ [_], by omega, rfl, by simp [hcl], hcf.snoc hclf, (hcr.mono (fun c r => ClkR.mono (slq_le hle))).snoc (r := [.int .u8 cl.kind, .slice Af cl.src.length cf, .int .u64 cl.rate, .int .i64 cl.mul, .int .i64 cl.div, .int .i64 cl.lock]) rfl ⟨Af, _, cf, rfl, rfl, hsl⟩, hq2, rfl, rfl, by simp⟩))
    ·
      refine XK.exit ?_
      refine XK.norm ?_
      exact XK.envS [(6, .pointer (some ⟨g4, 0, none⟩)), (4, .slice (some ⟨g2, 0, none⟩) 120 120), (2, .pointer (some ⟨g1, 0, none⟩))] (XK.meet ⟨cs, A1, c1, q, rows1, by omega, by omega, hcf, hcr, hq, rfl, rfl, rfl⟩)
  rintro _ _ _ ⟨cs, A1, c1, q, rows1, hc1, hc9, hcf, hcr, hq, rfl, rfl, rfl⟩
  have dd := hd.at_
  have b2 := hd.bd 2
  have b3 := hd.bd 3
  have b4 := hd.bd 4
  refine XK.cut (fun e R H => ∃ (dm : List Dom) (A2 : Option Addr) (c2 : Nat) (rows2 : List (List Value)), 1 ≤ dm.length ∧ dm.length ≤ 4 ∧ Fits Dom.fit dm ∧ Rows DomR 3 dm rows2 ∧ e = [(6, .pointer (some ⟨g4, 0, none⟩)), (4, .slice (some ⟨g2, 0, none⟩) 120 120), (2, .pointer (some ⟨g1, 0, none⟩))] ∧ R = [q, all w] ∧ H = [HP.blk g4 29 [.slice A1 cs.length c1, .slice A2 dm.length c2, .slice none 0 0, .slice none 0 0], HP.own 75 3 (.slice A2 dm.length c2) dm.length rows2.flatten, HP.own 118 6 (.slice A1 cs.length c1) cs.length rows1.flatten, HP.blk g2 3 (intCells ds), HP.blk g1 29 [.slice none 0 0, .slice none 0 0, .slice none 0 0, .slice none 0 0]]) ?_ ?_
  ·
    refine XK.seq ?_

    refine XK.region ?_
    refine xk_assign rfl (by decide) ?_
    refine XK.nilN ?_
    refine XK.nilrow 75 3 ?_
    refine XK.weak [1, 0, 2, 3, 4] rfl (by decide) (fun _ h => h) ?_
    refine XK.envS [(11, .int .i64 0), (6, .pointer (some ⟨g4, 0, none⟩)), (4, .slice (some ⟨g2, 0, none⟩) 120 120), (2, .pointer (some ⟨g1, 0, none⟩))] ?_
    refine XK.block ?_
    refine XK.loop (fun m e R H => ∃ (dm : List Dom) (A2 : Option Addr) (c2 : Nat) (rows2 : List (List Value)), (dm.length : Int) ≤ 1 + dv ds 2 % 4 ∧ m = 5 - dm.length ∧ Fits Dom.fit dm ∧ Rows DomR 3 dm rows2 ∧ e = [(11, .int .i64 dm.length), (6, .pointer (some ⟨g4, 0, none⟩)), (4, .slice (some ⟨g2, 0, none⟩) 120 120), (2, .pointer (some ⟨g1, 0, none⟩))] ∧ R = [q, all w] ∧ H = [HP.blk g4 29 [.slice A1 cs.length c1, .slice A2 dm.length c2, .slice none 0 0, .slice none 0 0], HP.own 75 3 (.slice A2 dm.length c2) dm.length rows2.flatten, HP.own 118 6 (.slice A1 cs.length c1) cs.length rows1.flatten, HP.blk g2 3 (intCells ds), HP.blk g1 29 [.slice none 0 0, .slice none 0 0, .slice none 0 0, .slice none 0 0]]) 5 ⟨[], none, 0, [], by simp; omega, rfl, Fits.nil _, trivial, rfl, rfl, rfl⟩ fun m e R H hI => ?_
    obtain ⟨dm, A2, c2, rows2, hk, rfl, hdf, hdr, rfl, rfl, rfl⟩ := hI
    refine XK.seq ?_
    refine XK.seq ?_

    refine XK.region ?_
    refine xk_move rfl (by decide) ?_
    refine xk_move rfl (by decide) ?_
    refine xk_at 2 2 (el := 3) (sz := 1) (by kernel_rfl) (by kernel_rfl) rfl rfl (by rfl) (by omega) (by omega) (by decide) ?_
    refine xk_load (by kernel_rfl) rfl (by first | exact Rd.anyB (dd _ (by omega)) | exact Rd.ld) (by decide) ?_
    refine xk_rem rfl rfl (by omega) (rem_in (by omega)) (by decide) ?_
    refine xk_add rfl rfl (wrap_in (by omega)) (by decide) ?_
    refine xk_lss rfl rfl (by decide) ?_
    refine XK.nilN ?_
    refine XK.if_ rfl (fun h => ?_) (fun h => ?_)
    ·
      refine XK.skip ?_
      refine XK.norm ?_
      refine XK.seq ?_
      refine XK.block ?_
      refine XK.seq ?_

      have hk2 : dm.length < 4 := by omega
      have p1 := hd.bd (40 + dm.length)
      have p2 := hd.bd (44 + dm.length)
      refine XK.draw 16 (by kernel_rfl) (by kernel_rfl) ?_
      refine XA.dA 0 rfl rfl rfl (does_move rfl) ?_
      refine XA.dA 1 rfl rfl rfl (does_move rfl) ?_
      refine XA.dA 2 rfl rfl rfl (does_add rfl rfl (wrap_in (by omega))) ?_
      refine XA.dA 3 rfl rfl rfl (does_at (40 + dm.length) (40 + dm.length) (el := 3) (sz := 1) (by kernel_rfl) (by kernel_rfl) rfl rfl (by omega) (by omega) (by omega)) ?_
      refine XA.dA 4 rfl rfl rfl (does_load (by kernel_rfl) rfl (by first | exact Rd.anyB (dd _ (by omega)) | exact Rd.ld)) ?_
      refine XA.dA 5 rfl rfl rfl (does_rem rfl rfl (by omega) (rem_in (by omega))) ?_
      refine XA.dA 6 rfl rfl rfl (does_move rfl) ?_
      refine XA.dA 7 rfl rfl rfl (does_move rfl) ?_
      refine XA.dA 8 rfl rfl rfl (does_add rfl rfl (wrap_in (by omega))) ?_
      refine XA.dA 9 rfl rfl rfl (does_at (40 + dm.length) (40 + dm.length) (el := 3) (sz := 1) (by kernel_rfl) (by kernel_rfl) rfl rfl (by omega) (by omega) (by omega)) ?_
      refine XA.dA 10 rfl rfl rfl (does_load (by kernel_rfl) rfl (by first | exact Rd.anyB (dd _ (by omega)) | exact Rd.ld)) ?_
      refine XA.dA 11 rfl rfl rfl (does_quo rfl rfl (by omega) (quo_in (by omega) (by omega) (by omega))) ?_
      refine XA.dA 12 rfl rfl rfl (does_rem rfl rfl (by omega) (rem_in (by omega))) ?_
      refine XA.dA 13 rfl rfl rfl (does_eql rfl rfl) ?_
      refine XA.dA 14 rfl rfl rfl (does_buildS (zs := [.int .i64 0, .int .i64 0, .bool false]) (L := [(0, 1), (1, 1), (2, 1)]) (zeroB_of (by kernel_rfl)) (by kernel_rfl) rfl (by simp [fillL, setN, Value.cells]; rfl)) ?_
      refine XA.next 15 rfl (by kernel_rfl) ?_
      refine xk_alloc (cs := [.int .i64 0, .int .i64 0, .bool false]) (zeroB_of (by kernel_rfl)) (by decide) fun g9 => ?_
      refine XA.bk ?_
      refine XA.next 16 rfl (by kernel_rfl) ?_
      refine xk_stN rfl rfl ?_; simp only [putN, Value.cells, List.set, List.take, List.drop, List.nil_append, List.append_nil, List.length_cons, List.length_nil, List.cons_append, Nat.reduceAdd]
      refine XA.bt ?_
      refine XA.done (by kernel_rfl) ?_
      refine XK.norm ?_
      refine XK.cut (fun e R H => ∃ ab : Int, (ab = -1 ∨ (0 ≤ ab ∧ ab < dm.length)) ∧ e = [(12, .pointer (some ⟨g9, 0, none⟩)), (11, .int .i64 dm.length), (6, .pointer (some ⟨g4, 0, none⟩)), (4, .slice (some ⟨g2, 0, none⟩) 120 120), (2, .pointer (some ⟨g1, 0, none⟩))] ∧ R = [q, all w] ∧ H = [HP.blk g9 75 [.int .i64 ab, .int .i64 (dv ds (40 + dm.length) % 4), .bool (decide (dv ds (40 + dm.length) / 4 % 2 = 1))], HP.blk g4 29 [.slice A1 cs.length c1, .slice A2 dm.length c2, .slice none 0 0, .slice none 0 0], HP.own 75 3 (.slice A2 dm.length c2) dm.length rows2.flatten, HP.own 118 6 (.slice A1 cs.length c1) cs.length rows1.flatten, HP.blk g2 3 (intCells ds), HP.blk g1 29 [.slice none 0 0, .slice none 0 0, .slice none 0 0, .slice none 0 0]]) ?_ ?_
      ·
        refine XK.seq ?_

        refine XK.region ?_
        refine xk_move rfl (by decide) ?_
        refine xk_gtr rfl rfl (by decide) ?_
        refine xk_move rfl (by decide) ?_
        refine xk_split (t := 172) rfl (fun hg => ?_) (fun hg => ?_)
        ·
          refine xk_guardT rfl rfl ?_; refine xk_move rfl (by decide) ?_
          refine xk_guardT rfl rfl ?_; refine xk_move rfl (by decide) ?_
          refine xk_guardT rfl rfl ?_; refine xk_add rfl rfl (wrap_in (by omega)) (by decide) ?_
          refine xk_guardT rfl rfl ?_; refine xk_at (44 + dm.length) (44 + dm.length) (el := 3) (sz := 1) (by kernel_rfl) (by kernel_rfl) rfl rfl (by omega) (by omega) (by omega) (by decide) ?_
          refine xk_guardT rfl rfl ?_; refine xk_load (by kernel_rfl) rfl (by first | exact Rd.anyB (dd _ (by omega)) | exact Rd.ld) (by decide) ?_
          refine xk_guardT rfl rfl ?_; refine xk_rem rfl rfl (by omega) (rem_in (by omega)) (by decide) ?_
          refine xk_guardT rfl rfl ?_; refine xk_gtr rfl rfl (by decide) ?_
          (first | refine xk_pickT rfl rfl (by decide) ?_ | refine xk_pickF rfl rfl (by decide) ?_)
          refine XK.nilN ?_
          refine XK.if_ rfl (fun h => ?_) (fun h => ?_)
          ·

            refine XK.region ?_
            refine xk_move rfl (by decide) ?_
            refine xk_move rfl (by decide) ?_
            refine xk_add rfl rfl (wrap_in (by omega)) (by decide) ?_
            refine xk_at (44 + dm.length) (44 + dm.length) (el := 3) (sz := 1) (by kernel_rfl) (by kernel_rfl) rfl rfl (by omega) (by omega) (by omega) (by decide) ?_
            refine xk_load (by kernel_rfl) rfl (by first | exact Rd.anyB (dd _ (by omega)) | exact Rd.ld) (by decide) ?_
            refine xk_quo rfl rfl (by omega) (quo_in (by omega) (by omega) (by omega)) (by decide) ?_
            refine xk_move rfl (by decide) ?_
            refine xk_rem rfl rfl (by omega) (rem_in (by omega)) (by decide) ?_
            refine xk_field (off := 0) (by kernel_rfl) rfl (by decide) ?_
            refine xk_st rfl rfl ?_; dsimp only [List.set]
            refine XK.nilN ?_
            exact XK.envS [(12, .pointer (some ⟨g9, 0, none⟩)), (11, .int .i64 dm.length), (6, .pointer (some ⟨g4, 0, none⟩)), (4, .slice (some ⟨g2, 0, none⟩) 120 120), (2, .pointer (some ⟨g1, 0, none⟩))] (XK.meet ⟨dv ds (44 + dm.length) / 3 % dm.length, .inr (emod_bd _ hg), rfl, rfl, rfl⟩)
          ·
            refine XK.skip ?_
            refine XK.norm ?_
            exact XK.envS [(12, .pointer (some ⟨g9, 0, none⟩)), (11, .int .i64 dm.length), (6, .pointer (some ⟨g4, 0, none⟩)), (4, .slice (some ⟨g2, 0, none⟩) 120 120), (2, .pointer (some ⟨g1, 0, none⟩))] (XK.meet ⟨-1, .inl rfl, rfl, rfl, rfl⟩)
        ·
          refine xk_guardF rfl rfl rfl (by decide) ?_
          refine xk_guardF rfl rfl rfl (by decide) ?_
          refine xk_guardF rfl rfl rfl (by decide) ?_
          refine xk_guardF rfl rfl rfl (by decide) ?_
          refine xk_guardF rfl rfl rfl (by decide) ?_
          refine xk_guardF rfl rfl rfl (by decide) ?_
          refine xk_guardF rfl rfl rfl (by decide) ?_
          (first | refine xk_pickT rfl rfl (by decide) ?_ | refine xk_pickF rfl rfl (by decide) ?_)
          refine XK.nilN ?_
          refine XK.cond rfl (fun h => by cases h) (fun _ => ?_)
          refine XK.skip ?_
          refine XK.norm ?_
          exact XK.envS [(12, .pointer (some ⟨g9, 0, none⟩)), (11, .int .i64 dm.length), (6, .pointer (some ⟨g4, 0, none⟩)), (4, .slice (some ⟨g2, 0, none⟩) 120 120), (2, .pointer (some ⟨g1, 0, none⟩))] (XK.meet ⟨-1, .inl rfl, rfl, rfl, rfl⟩)
      rintro _ _ _ ⟨ab, hab, rfl, rfl, rfl⟩

      refine XK.region ?_
      refine xk_field (off := 1) (by kernel_rfl) rfl (by decide) ?_
      refine xk_load (by kernel_rfl) rfl (by first | exact Rd.anyB (dd _ (by omega)) | exact Rd.ld) (by decide) ?_
      refine xk_ldN 3 rfl ?_
      refine xk_slice (el := 75) (sz := 3) (zs := [.int .i64 0, .int .i64 0, .bool false]) (by kernel_rfl) (zeroB_of (by kernel_rfl)) (by kernel_rfl) rfl (by decide) (by decide) rfl (by simp [fillL, setN, Value.cells, List.range_succ, List.set]; rfl) (by decide) fun g10 => ?_
      refine xk_appendT 3 3 24 1 (n' := dm.length + 1) (el := 75) (by kernel_rfl) (by kernel_rfl) (by decide) rfl rfl rfl (sl_blk 0 rfl rfl) (by simp [Value.oneCell']) rfl (by omega) (by omega) (by decide) fun A2n c2n => ?_
      refine xk_field (off := 1) (by kernel_rfl) rfl (by decide) ?_
      refine xk_st rfl rfl ?_; dsimp only [List.set]
      refine XK.nilN ?_

      refine XK.region ?_
      refine xk_move rfl (by decide) ?_
      refine xk_add rfl rfl (wrap_in (by omega)) (by decide) ?_
      refine xk_assign rfl (by decide) ?_
      refine XK.nilN ?_
      exact XK.weak [2, 3, 4, 5, 6] rfl (by decide) (fun _ h => h) (XK.envS [(11, .int .i64 (dm.length + 1)), (6, .pointer (some ⟨g4, 0, none⟩)), (4, .slice (some ⟨g2, 0, none⟩) 120 120), (2, .pointer (some ⟨g1, 0, none⟩))] (XK.round (5 - (dm.length + 1)) (by omega) ⟨dm ++ [⟨ab, dv ds (40 + dm.length) % 4, decide (dv ds (40 + dm.length) / 4 % 2 = 1)⟩], A2n, c2n, rows2 ++ [_], by simp; omega, by simp, hdf.snoc ⟨hab, by dsimp only; omega, by dsimp only; omega⟩, hdr.snoc (r := [.int .i64 ab, .int .i64 (dv ds (40 + dm.length) % 4), .bool (decide (dv ds (40 + dm.length) / 4 % 2 = 1))]) rfl rfl, by simp, rfl, by simp⟩))
    ·
      refine XK.exit ?_
      refine XK.norm ?_
      exact XK.envS [(6, .pointer (some ⟨g4, 0, none⟩)), (4, .slice (some ⟨g2, 0, none⟩) 120 120), (2, .pointer (some ⟨g1, 0, none⟩))] (XK.meet ⟨dm, A2, c2, rows2, by omega, by omega, hdf, hdr, rfl, rfl, rfl⟩)
  rintro _ _ _ ⟨dm, A2, c2, rows2, hd1, hd4, hdf, hdr, rfl, rfl, rfl⟩
  refine XK.cut (fun e R H => ∃ (rs : List Int) (A3 : Option Addr) (c3 : Nat) (rows3 : List (List Value)), 1 ≤ rs.length ∧ rs.length ≤ 3 ∧ (∀ r ∈ rs, 0 ≤ r ∧ r ≤ 3) ∧ Rows RstR 1 rs rows3 ∧ e = [(6, .pointer (some ⟨g4, 0, none⟩)), (4, .slice (some ⟨g2, 0, none⟩) 120 120), (2, .pointer (some ⟨g1, 0, none⟩))] ∧ R = [q, all w] ∧ H = [HP.blk g4 29 [.slice A1 cs.length c1, .slice A2 dm.length c2, .slice A3 rs.length c3, .slice none 0 0], HP.own 120 1 (.slice A3 rs.length c3) rs.length rows3.flatten, HP.own 75 3 (.slice A2 dm.length c2) dm.length rows2.flatten, HP.own 118 6 (.slice A1 cs.length c1) cs.length rows1.flatten, HP.blk g2 3 (intCells ds), HP.blk g1 29 [.slice none 0 0, .slice none 0 0, .slice none 0 0, .slice none 0 0]]) ?_ ?_
  ·
    refine XK.seq ?_

    refine XK.region ?_
    refine xk_assign rfl (by decide) ?_
    refine XK.nilN ?_
    refine XK.nilrow 120 1 ?_
    refine XK.weak [1, 0, 2, 3, 4, 5] rfl (by decide) (fun _ h => h) ?_
    refine XK.envS [(13, .int .i64 0), (6, .pointer (some ⟨g4, 0, none⟩)), (4, .slice (some ⟨g2, 0, none⟩) 120 120), (2, .pointer (some ⟨g1, 0, none⟩))] ?_
    refine XK.block ?_
    refine XK.loop (fun m e R H => ∃ (rs : List Int) (A3 : Option Addr) (c3 : Nat) (rows3 : List (List Value)), (rs.length : Int) ≤ 1 + dv ds 3 % 3 ∧ m = 4 - rs.length ∧ (∀ r ∈ rs, 0 ≤ r ∧ r ≤ 3) ∧ Rows RstR 1 rs rows3 ∧ e = [(13, .int .i64 rs.length), (6, .pointer (some ⟨g4, 0, none⟩)), (4, .slice (some ⟨g2, 0, none⟩) 120 120), (2, .pointer (some ⟨g1, 0, none⟩))] ∧ R = [q, all w] ∧ H = [HP.blk g4 29 [.slice A1 cs.length c1, .slice A2 dm.length c2, .slice A3 rs.length c3, .slice none 0 0], HP.own 120 1 (.slice A3 rs.length c3) rs.length rows3.flatten, HP.own 75 3 (.slice A2 dm.length c2) dm.length rows2.flatten, HP.own 118 6 (.slice A1 cs.length c1) cs.length rows1.flatten, HP.blk g2 3 (intCells ds), HP.blk g1 29 [.slice none 0 0, .slice none 0 0, .slice none 0 0, .slice none 0 0]]) 4 ⟨[], none, 0, [], by simp; omega, rfl, by simp, trivial, rfl, rfl, rfl⟩ fun m e R H hI => ?_
    obtain ⟨rs, A3, c3, rows3, hk, rfl, hrf, hrr, rfl, rfl, rfl⟩ := hI
    refine XK.seq ?_
    refine XK.seq ?_

    refine XK.region ?_
    refine xk_move rfl (by decide) ?_
    refine xk_move rfl (by decide) ?_
    refine xk_at 3 3 (el := 3) (sz := 1) (by kernel_rfl) (by kernel_rfl) rfl rfl (by rfl) (by omega) (by omega) (by decide) ?_
    refine xk_load (by kernel_rfl) rfl (by first | exact Rd.anyB (dd _ (by omega)) | exact Rd.ld) (by decide) ?_
    refine xk_rem rfl rfl (by omega) (rem_in (by omega)) (by decide) ?_
    refine xk_add rfl rfl (wrap_in (by omega)) (by decide) ?_
    refine xk_lss rfl rfl (by decide) ?_
    refine XK.nilN ?_
    refine XK.if_ rfl (fun h => ?_) (fun h => ?_)
    ·
      refine XK.skip ?_
      refine XK.norm ?_
      refine XK.seq ?_
      refine XK.block ?_

      have hk2 : rs.length < 3 := by omega
      have p1 := hd.bd (50 + rs.length)
      refine XK.draw 10 (by kernel_rfl) (by kernel_rfl) ?_
      refine XA.dA 0 rfl rfl rfl (does_field (off := 2) (by kernel_rfl) rfl) ?_
      refine XA.dA 1 rfl rfl rfl (does_load (by kernel_rfl) rfl (by first | exact Rd.anyB (dd _ (by omega)) | exact Rd.ld)) ?_
      refine XA.dA 2 rfl rfl rfl (does_move rfl) ?_
      refine XA.dA 3 rfl rfl rfl (does_move rfl) ?_
      refine XA.dA 4 rfl rfl rfl (does_add rfl rfl (wrap_in (by omega))) ?_
      refine XA.dA 5 rfl rfl rfl (does_at (50 + rs.length) (50 + rs.length) (el := 3) (sz := 1) (by kernel_rfl) (by kernel_rfl) rfl rfl (by omega) (by omega) (by omega)) ?_
      refine XA.dA 6 rfl rfl rfl (does_load (by kernel_rfl) rfl (by first | exact Rd.anyB (dd _ (by omega)) | exact Rd.ld)) ?_
      refine XA.dA 7 rfl rfl rfl (does_rem rfl rfl (by omega) (rem_in (by omega))) ?_
      refine XA.dA 8 rfl rfl rfl (does_buildS (zs := [.int .i64 0]) (L := [(0, 1)]) (zeroB_of (by kernel_rfl)) (by kernel_rfl) rfl (by simp [fillL, setN, Value.cells]; rfl)) ?_
      refine XA.next 9 rfl (by kernel_rfl) ?_
      refine xk_slice (el := 120) (sz := 1) (zs := [.int .i64 0]) (by kernel_rfl) (zeroB_of (by kernel_rfl)) (by kernel_rfl) rfl (by decide) (by decide) rfl (by simp [fillL, setN, Value.cells, List.range_succ, List.set]; rfl) (by decide) fun g11 => ?_
      refine XA.bk ?_
      refine XA.next 10 rfl (by kernel_rfl) ?_
      refine xk_appendT 2 1 8 1 (n' := rs.length + 1) (el := 120) (by kernel_rfl) (by kernel_rfl) (by decide) rfl rfl rfl (sl_blk 0 rfl rfl) (by simp [Value.oneCell']) rfl (by omega) (by omega) (by decide) fun A3n c3n => ?_
      refine XA.bt ?_
      refine XA.next 11 rfl (by kernel_rfl) ?_
      refine xk_field (off := 2) (by kernel_rfl) rfl (by decide) ?_
      refine XA.bt ?_
      refine XA.next 12 rfl (by kernel_rfl) ?_
      refine xk_st rfl rfl ?_; dsimp only [List.set]
      refine XA.bt ?_
      refine XA.done (by kernel_rfl) ?_
      refine XK.norm ?_

      refine XK.region ?_
      refine xk_move rfl (by decide) ?_
      refine xk_add rfl rfl (wrap_in (by omega)) (by decide) ?_
      refine xk_assign rfl (by decide) ?_
      refine XK.nilN ?_
      exact XK.weak [1, 2, 3, 4, 5, 6] rfl (by decide) (fun _ h => h) (XK.envS [(13, .int .i64 (rs.length + 1)), (6, .pointer (some ⟨g4, 0, none⟩)), (4, .slice (some ⟨g2, 0, none⟩) 120 120), (2, .pointer (some ⟨g1, 0, none⟩))] (XK.round (4 - (rs.length + 1)) (by omega) ⟨rs ++ [dv ds (50 + rs.length) % 4], A3n, c3n, rows3 ++ [_], by simp; omega, by simp, by intro r hr; simp at hr; rcases hr with hr | hr; exact hrf r hr; omega, hrr.snoc (r := [.int .i64 (dv ds (50 + rs.length) % 4)]) rfl rfl, by simp, rfl, by simp⟩))
    ·
      refine XK.exit ?_
      refine XK.norm ?_
      exact XK.envS [(6, .pointer (some ⟨g4, 0, none⟩)), (4, .slice (some ⟨g2, 0, none⟩) 120 120), (2, .pointer (some ⟨g1, 0, none⟩))] (XK.meet ⟨rs, A3, c3, rows3, by omega, by omega, hrf, hrr, rfl, rfl, rfl⟩)
  rintro _ _ _ ⟨rs, A3, c3, rows3, hr1, hr3, hrf, hrr, rfl, rfl, rfl⟩
  refine XK.cut (fun e R H => ∃ (vs : List Dev) (A4 : Option Addr) (c4 : Nat) (q : Piece) (rows4 : List (List Value)), 1 ≤ vs.length ∧ vs.length ≤ 4 ∧ Rows (ClkR (slq q)) 6 cs rows1 ∧ Fits (Dev.fit cs.length dm.length rs.length) vs ∧ Rows (DevR (slq q)) 6 vs rows4 ∧ Fresh w q ∧ e = [(6, .pointer (some ⟨g4, 0, none⟩)), (4, .slice (some ⟨g2, 0, none⟩) 120 120), (2, .pointer (some ⟨g1, 0, none⟩))] ∧ R = [q, all w] ∧ H = [HP.blk g4 29 [.slice A1 cs.length c1, .slice A2 dm.length c2, .slice A3 rs.length c3, .slice A4 vs.length c4], HP.own 78 6 (.slice A4 vs.length c4) vs.length rows4.flatten, HP.own 120 1 (.slice A3 rs.length c3) rs.length rows3.flatten, HP.own 75 3 (.slice A2 dm.length c2) dm.length rows2.flatten, HP.own 118 6 (.slice A1 cs.length c1) cs.length rows1.flatten, HP.blk g2 3 (intCells ds), HP.blk g1 29 [.slice none 0 0, .slice none 0 0, .slice none 0 0, .slice none 0 0]]) ?_ ?_
  ·
    refine XK.seq ?_

    refine XK.region ?_
    refine xk_assign rfl (by decide) ?_
    refine XK.nilN ?_
    refine XK.nilrow 78 6 ?_
    refine XK.weak [1, 0, 2, 3, 4, 5, 6] rfl (by decide) (fun _ h => h) ?_
    refine XK.envS [(14, .int .i64 0), (6, .pointer (some ⟨g4, 0, none⟩)), (4, .slice (some ⟨g2, 0, none⟩) 120 120), (2, .pointer (some ⟨g1, 0, none⟩))] ?_
    refine XK.block ?_
    refine XK.loop (fun m e R H => ∃ (vs : List Dev) (A4 : Option Addr) (c4 : Nat) (q : Piece) (rows4 : List (List Value)), (vs.length : Int) ≤ 1 + dv ds 4 % 4 ∧ m = 5 - vs.length ∧ Rows (ClkR (slq q)) 6 cs rows1 ∧ Fits (Dev.fit cs.length dm.length rs.length) vs ∧ Rows (DevR (slq q)) 6 vs rows4 ∧ Fresh w q ∧ e = [(14, .int .i64 vs.length), (6, .pointer (some ⟨g4, 0, none⟩)), (4, .slice (some ⟨g2, 0, none⟩) 120 120), (2, .pointer (some ⟨g1, 0, none⟩))] ∧ R = [q, all w] ∧ H = [HP.blk g4 29 [.slice A1 cs.length c1, .slice A2 dm.length c2, .slice A3 rs.length c3, .slice A4 vs.length c4], HP.own 78 6 (.slice A4 vs.length c4) vs.length rows4.flatten, HP.own 120 1 (.slice A3 rs.length c3) rs.length rows3.flatten, HP.own 75 3 (.slice A2 dm.length c2) dm.length rows2.flatten, HP.own 118 6 (.slice A1 cs.length c1) cs.length rows1.flatten, HP.blk g2 3 (intCells ds), HP.blk g1 29 [.slice none 0 0, .slice none 0 0, .slice none 0 0, .slice none 0 0]]) 5 ⟨[], none, 0, q, [], by simp; omega, rfl, hcr, Fits.nil _, trivial, hq, rfl, rfl, rfl⟩ fun m e R H hI => ?_
    obtain ⟨vs, A4, c4, q, rows4, hk, rfl, hcr, hvf, hvr, hq, rfl, rfl, rfl⟩ := hI
    refine XK.seq ?_
    refine XK.seq ?_

    refine XK.region ?_
    refine xk_move rfl (by decide) ?_
    refine xk_move rfl (by decide) ?_
    refine xk_at 4 4 (el := 3) (sz := 1) (by kernel_rfl) (by kernel_rfl) rfl rfl (by rfl) (by omega) (by omega) (by decide) ?_
    refine xk_load (by kernel_rfl) rfl (by first | exact Rd.anyB (dd _ (by omega)) | exact Rd.ld) (by decide) ?_
    refine xk_rem rfl rfl (by omega) (rem_in (by omega)) (by decide) ?_
    refine xk_add rfl rfl (wrap_in (by omega)) (by decide) ?_
    refine xk_lss rfl rfl (by decide) ?_
    refine XK.nilN ?_
    refine XK.if_ rfl (fun h => ?_) (fun h => ?_)
    ·
      refine XK.skip ?_
      refine XK.norm ?_
      refine XK.seq ?_
      refine XK.block ?_
      refine XK.seq ?_
      have hk2 : vs.length < 4 := by omega
      have p0 := hd.bd (60 + 12 * vs.length)
      have p1 := hd.bd (61 + 12 * vs.length)
      have p2 := hd.bd (62 + 12 * vs.length)
      have p3 := hd.bd (63 + 12 * vs.length)
      have p4 := hd.bd (64 + 12 * vs.length)
      have p9 := hd.bd (69 + 12 * vs.length)
      have p10 := hd.bd (70 + 12 * vs.length)
      have p11 := hd.bd (71 + 12 * vs.length)
      have q0 := emod_bd (dv ds (60 + 12 * vs.length)) (n := (cs.length : Int)) (by omega)
      have q1 := emod_bd (dv ds (61 + 12 * vs.length)) (n := (dm.length : Int)) (by omega)
      have q2 := emod_bd (dv ds (62 + 12 * vs.length)) (n := (rs.length : Int)) (by omega)

      refine XK.region ?_
      refine xk_move rfl (by decide) ?_
      refine xk_mul rfl rfl (wrap_in (by omega)) (by decide) ?_
      refine xk_add rfl rfl (wrap_in (by omega)) (by decide) ?_
      refine xk_assign rfl (by decide) ?_
      refine XK.nilN ?_
      refine XK.seq ?_

      refine XK.draw 35 (by kernel_rfl) (by kernel_rfl) ?_
      refine XA.dA 0 rfl rfl rfl (does_move rfl) ?_
      refine XA.dA 1 rfl rfl rfl (does_move rfl) ?_
      refine XA.dA 2 rfl rfl rfl (does_at (60 + 12 * vs.length) (60 + 12 * vs.length) (el := 3) (sz := 1) (by kernel_rfl) (by kernel_rfl) rfl rfl (by omega) (by omega) (by omega)) ?_
      refine XA.dA 3 rfl rfl rfl (does_load (by kernel_rfl) rfl (by first | exact Rd.anyB (dd _ (by omega)) | exact Rd.ld)) ?_
      refine XA.dA 4 rfl rfl rfl (does_field (off := 0) (by kernel_rfl) rfl) ?_
      refine XA.dA 5 rfl rfl rfl (does_load (by kernel_rfl) rfl (by first | exact Rd.anyB (dd _ (by omega)) | exact Rd.ld)) ?_
      refine XA.dA 6 rfl rfl rfl (does_len (el := 118) (by kernel_rfl) rfl) ?_
      refine XA.dA 7 rfl rfl rfl (does_rem rfl rfl (by omega) (rem_in (by omega))) ?_
      refine XA.dA 8 rfl rfl rfl (does_move rfl) ?_
      refine XA.dA 9 rfl rfl rfl (does_move rfl) ?_
      refine XA.dA 10 rfl rfl rfl (does_add rfl rfl (wrap_in (by omega))) ?_
      refine XA.dA 11 rfl rfl rfl (does_at (61 + 12 * vs.length) (61 + 12 * vs.length) (el := 3) (sz := 1) (by kernel_rfl) (by kernel_rfl) rfl rfl (by omega) (by omega) (by omega)) ?_
      refine XA.dA 12 rfl rfl rfl (does_load (by kernel_rfl) rfl (by first | exact Rd.anyB (dd _ (by omega)) | exact Rd.ld)) ?_
      refine XA.dA 13 rfl rfl rfl (does_field (off := 1) (by kernel_rfl) rfl) ?_
      refine XA.dA 14 rfl rfl rfl (does_load (by kernel_rfl) rfl (by first | exact Rd.anyB (dd _ (by omega)) | exact Rd.ld)) ?_
      refine XA.dA 15 rfl rfl rfl (does_len (el := 75) (by kernel_rfl) rfl) ?_
      refine XA.dA 16 rfl rfl rfl (does_rem rfl rfl (by omega) (rem_in (by omega))) ?_
      refine XA.dA 17 rfl rfl rfl (does_move rfl) ?_
      refine XA.dA 18 rfl rfl rfl (does_move rfl) ?_
      refine XA.dA 19 rfl rfl rfl (does_add rfl rfl (wrap_in (by omega))) ?_
      refine XA.dA 20 rfl rfl rfl (does_at (62 + 12 * vs.length) (62 + 12 * vs.length) (el := 3) (sz := 1) (by kernel_rfl) (by kernel_rfl) rfl rfl (by omega) (by omega) (by omega)) ?_
      refine XA.dA 21 rfl rfl rfl (does_load (by kernel_rfl) rfl (by first | exact Rd.anyB (dd _ (by omega)) | exact Rd.ld)) ?_
      refine XA.dA 22 rfl rfl rfl (does_field (off := 2) (by kernel_rfl) rfl) ?_
      refine XA.dA 23 rfl rfl rfl (does_load (by kernel_rfl) rfl (by first | exact Rd.anyB (dd _ (by omega)) | exact Rd.ld)) ?_
      refine XA.dA 24 rfl rfl rfl (does_len (el := 120) (by kernel_rfl) rfl) ?_
      refine XA.dA 25 rfl rfl rfl (does_rem rfl rfl (by omega) (rem_in (by omega))) ?_
      refine XA.dA 26 rfl rfl rfl (does_move rfl) ?_
      refine XA.dA 27 rfl rfl rfl (does_move rfl) ?_
      refine XA.dA 28 rfl rfl rfl (does_add rfl rfl (wrap_in (by omega))) ?_
      refine XA.dA 29 rfl rfl rfl (does_at (63 + 12 * vs.length) (63 + 12 * vs.length) (el := 3) (sz := 1) (by kernel_rfl) (by kernel_rfl) rfl rfl (by omega) (by omega) (by omega)) ?_
      refine XA.dA 30 rfl rfl rfl (does_load (by kernel_rfl) rfl (by first | exact Rd.anyB (dd _ (by omega)) | exact Rd.ld)) ?_
      refine XA.dA 31 rfl rfl rfl (does_rem rfl rfl (by omega) (rem_in (by omega))) ?_
      refine XA.dA 32 rfl rfl rfl (does_conv (ds := .int .i64) (by kernel_rfl) (by kernel_rfl) rfl (wrap_u32 (by omega))) ?_
      refine XA.dA 33 rfl rfl rfl (does_buildS (zs := [.int .i64 0, .int .i64 0, .int .i64 0, .int .u32 0, .slice none 0 0, .slice none 0 0]) (L := [(0, 1), (1, 1), (2, 1), (3, 1), (4, 1), (5, 1)]) (zeroB_of (by kernel_rfl)) (by kernel_rfl) rfl (by simp [fillL, setN, Value.cells]; rfl)) ?_
      refine XA.next 34 rfl (by kernel_rfl) ?_
      refine xk_alloc (cs := [.int .i64 0, .int .i64 0, .int .i64 0, .int .u32 0, .slice none 0 0, .slice none 0 0]) (zeroB_of (by kernel_rfl)) (by decide) fun g12 => ?_
      refine XA.bk ?_
      refine XA.next 35 rfl (by kernel_rfl) ?_
      refine xk_stN rfl rfl ?_; simp only [putN, Value.cells, List.set, List.take, List.drop, List.nil_append, List.append_nil, List.length_cons, List.length_nil, List.cons_append, Nat.reduceAdd]
      refine XA.bt ?_
      refine XA.done (by kernel_rfl) ?_
      refine XK.norm ?_
      refine XK.cut (fun e R H => ∃ (rg : List Rg) (A5 : Option Addr) (c5 : Nat), rg.length ≤ 4 ∧ (∀ r ∈ rg, 0 ≤ r.reset ∧ r.reset ≤ 6) ∧ e = [(16, .pointer (some ⟨g12, 0, none⟩)), (15, .int .i64 (60 + 12 * vs.length)), (14, .int .i64 vs.length), (6, .pointer (some ⟨g4, 0, none⟩)), (4, .slice (some ⟨g2, 0, none⟩) 120 120), (2, .pointer (some ⟨g1, 0, none⟩))] ∧ R = [q, all w] ∧ H = [HP.blk g12 78 [.int .i64 (dv ds (60 + 12 * vs.length) % cs.length), .int .i64 (dv ds (61 + 12 * vs.length) % dm.length), .int .i64 (dv ds (62 + 12 * vs.length) % rs.length), .int .u32 (dv ds (63 + 12 * vs.length) % 3), .slice A5 rg.length c5, .slice none 0 0], HP.own 92 2 (.slice A5 rg.length c5) rg.length (rg.flatMap Rg.cells), HP.blk g4 29 [.slice A1 cs.length c1, .slice A2 dm.length c2, .slice A3 rs.length c3, .slice A4 vs.length c4], HP.own 78 6 (.slice A4 vs.length c4) vs.length rows4.flatten, HP.own 120 1 (.slice A3 rs.length c3) rs.length rows3.flatten, HP.own 75 3 (.slice A2 dm.length c2) dm.length rows2.flatten, HP.own 118 6 (.slice A1 cs.length c1) cs.length rows1.flatten, HP.blk g2 3 (intCells ds), HP.blk g1 29 [.slice none 0 0, .slice none 0 0, .slice none 0 0, .slice none 0 0]]) ?_ ?_
      ·
        refine XK.seq ?_

        refine XK.region ?_
        refine xk_assign rfl (by decide) ?_
        refine XK.nilN ?_
        refine XK.nilrow 92 2 ?_
        refine XK.weak [1, 0, 2, 3, 4, 5, 6, 7, 8] rfl (by decide) (fun _ h => h) ?_
        refine XK.envS [(17, .int .i64 0), (16, .pointer (some ⟨g12, 0, none⟩)), (15, .int .i64 (60 + 12 * vs.length)), (14, .int .i64 vs.length), (6, .pointer (some ⟨g4, 0, none⟩)), (4, .slice (some ⟨g2, 0, none⟩) 120 120), (2, .pointer (some ⟨g1, 0, none⟩))] ?_
        refine XK.block ?_
        refine XK.loop (fun m e R H => ∃ (rg : List Rg) (A5 : Option Addr) (c5 : Nat), (rg.length : Int) ≤ dv ds (64 + 12 * vs.length) % 5 ∧ m = 5 - rg.length ∧ (∀ r ∈ rg, 0 ≤ r.reset ∧ r.reset ≤ 6) ∧ e = [(17, .int .i64 rg.length), (16, .pointer (some ⟨g12, 0, none⟩)), (15, .int .i64 (60 + 12 * vs.length)), (14, .int .i64 vs.length), (6, .pointer (some ⟨g4, 0, none⟩)), (4, .slice (some ⟨g2, 0, none⟩) 120 120), (2, .pointer (some ⟨g1, 0, none⟩))] ∧ R = [q, all w] ∧ H = [HP.blk g12 78 [.int .i64 (dv ds (60 + 12 * vs.length) % cs.length), .int .i64 (dv ds (61 + 12 * vs.length) % dm.length), .int .i64 (dv ds (62 + 12 * vs.length) % rs.length), .int .u32 (dv ds (63 + 12 * vs.length) % 3), .slice A5 rg.length c5, .slice none 0 0], HP.own 92 2 (.slice A5 rg.length c5) rg.length (rg.flatMap Rg.cells), HP.blk g4 29 [.slice A1 cs.length c1, .slice A2 dm.length c2, .slice A3 rs.length c3, .slice A4 vs.length c4], HP.own 78 6 (.slice A4 vs.length c4) vs.length rows4.flatten, HP.own 120 1 (.slice A3 rs.length c3) rs.length rows3.flatten, HP.own 75 3 (.slice A2 dm.length c2) dm.length rows2.flatten, HP.own 118 6 (.slice A1 cs.length c1) cs.length rows1.flatten, HP.blk g2 3 (intCells ds), HP.blk g1 29 [.slice none 0 0, .slice none 0 0, .slice none 0 0, .slice none 0 0]]) 5 ⟨[], none, 0, by simp; omega, rfl, by simp, rfl, rfl, rfl⟩ fun m e R H hI => ?_
        obtain ⟨rg, A5, c5, hj, rfl, hgf, rfl, rfl, rfl⟩ := hI
        refine XK.seq ?_
        refine XK.seq ?_

        refine XK.region ?_
        refine xk_move rfl (by decide) ?_
        refine xk_move rfl (by decide) ?_
        refine xk_move rfl (by decide) ?_
        refine xk_add rfl rfl (wrap_in (by omega)) (by decide) ?_
        refine xk_at (64 + 12 * vs.length) (64 + 12 * vs.length) (el := 3) (sz := 1) (by kernel_rfl) (by kernel_rfl) rfl rfl (by omega) (by omega) (by omega) (by decide) ?_
        refine xk_load (by kernel_rfl) rfl (by first | exact Rd.anyB (dd _ (by omega)) | exact Rd.ld) (by decide) ?_
        refine xk_rem rfl rfl (by omega) (rem_in (by omega)) (by decide) ?_
        refine xk_lss rfl rfl (by decide) ?_
        refine XK.nilN ?_
        refine XK.if_ rfl (fun h => ?_) (fun h => ?_)
        ·
          refine XK.skip ?_
          refine XK.norm ?_
          refine XK.seq ?_
          refine XK.block ?_

          have hj2 : rg.length < 4 := by omega
          have r1 := hd.bd (65 + 12 * vs.length + rg.length)
          refine XK.draw 23 (by kernel_rfl) (by kernel_rfl) ?_
          refine XA.dA 0 rfl rfl rfl (does_field (off := 4) (by kernel_rfl) rfl) ?_
          refine XA.dA 1 rfl rfl rfl (does_load (by kernel_rfl) rfl (by first | exact Rd.anyB (dd _ (by omega)) | exact Rd.ld)) ?_
          refine XA.dA 2 rfl rfl rfl (does_move rfl) ?_
          refine XA.dA 3 rfl rfl rfl (does_move rfl) ?_
          refine XA.dA 4 rfl rfl rfl (does_add rfl rfl (wrap_in (by omega))) ?_
          refine XA.dA 5 rfl rfl rfl (does_move rfl) ?_
          refine XA.dA 6 rfl rfl rfl (does_add rfl rfl (wrap_in (by omega))) ?_
          refine XA.dA 7 rfl rfl rfl (does_at (65 + 12 * vs.length + rg.length) (65 + 12 * vs.length + rg.length) (el := 3) (sz := 1) (by kernel_rfl) (by kernel_rfl) rfl rfl (by omega) (by omega) (by omega)) ?_
          refine XA.dA 8 rfl rfl rfl (does_load (by kernel_rfl) rfl (by first | exact Rd.anyB (dd _ (by omega)) | exact Rd.ld)) ?_
          refine XA.dA 9 rfl rfl rfl (does_rem rfl rfl (by omega) (rem_in (by omega))) ?_
          refine XA.dA 10 rfl rfl rfl (does_conv (ds := .int .i64) (by kernel_rfl) (by kernel_rfl) rfl (wrap_u32 (by omega))) ?_
          refine XA.dA 11 rfl rfl rfl (does_move rfl) ?_
          refine XA.dA 12 rfl rfl rfl (does_move rfl) ?_
          refine XA.dA 13 rfl rfl rfl (does_add rfl rfl (wrap_in (by omega))) ?_
          refine XA.dA 14 rfl rfl rfl (does_move rfl) ?_
          refine XA.dA 15 rfl rfl rfl (does_add rfl rfl (wrap_in (by omega))) ?_
          refine XA.dA 16 rfl rfl rfl (does_at (65 + 12 * vs.length + rg.length) (65 + 12 * vs.length + rg.length) (el := 3) (sz := 1) (by kernel_rfl) (by kernel_rfl) rfl rfl (by omega) (by omega) (by omega)) ?_
          refine XA.dA 17 rfl rfl rfl (does_load (by kernel_rfl) rfl (by first | exact Rd.anyB (dd _ (by omega)) | exact Rd.ld)) ?_
          refine XA.dA 18 rfl rfl rfl (does_quo rfl rfl (by omega) (quo_in (by omega) (by omega) (by omega))) ?_
          refine XA.dA 19 rfl rfl rfl (does_rem rfl rfl (by omega) (rem_in (by omega))) ?_
          refine XA.dA 20 rfl rfl rfl (does_eql rfl rfl) ?_
          refine XA.dA 21 rfl rfl rfl (does_buildS (zs := [.int .u32 0, .bool false]) (L := [(0, 1), (1, 1)]) (zeroB_of (by kernel_rfl)) (by kernel_rfl) rfl (by simp [fillL, setN, Value.cells]; rfl)) ?_
          refine XA.next 22 rfl (by kernel_rfl) ?_
          refine xk_slice (el := 92) (sz := 2) (zs := [.int .u32 0, .bool false]) (by kernel_rfl) (zeroB_of (by kernel_rfl)) (by kernel_rfl) rfl (by decide) (by decide) rfl (by simp [fillL, setN, Value.cells, List.range_succ, List.set]; rfl) (by decide) fun g13 => ?_
          refine XA.bk ?_
          refine XA.next 23 rfl (by kernel_rfl) ?_
          refine xk_appendT 2 2 8 1 (n' := rg.length + 1) (el := 92) (by kernel_rfl) (by kernel_rfl) (by decide) rfl rfl rfl (sl_blk 0 rfl rfl) (by simp [Value.oneCell']) rfl (by omega) (by omega) (by decide) fun A5n c5n => ?_
          refine XA.bt ?_
          refine XA.next 24 rfl (by kernel_rfl) ?_
          refine xk_field (off := 4) (by kernel_rfl) rfl (by decide) ?_
          refine XA.bt ?_
          refine XA.next 25 rfl (by kernel_rfl) ?_
          refine xk_st rfl rfl ?_; dsimp only [List.set]
          refine XA.bt ?_
          refine XA.done (by kernel_rfl) ?_
          refine XK.norm ?_

          refine XK.region ?_
          refine xk_move rfl (by decide) ?_
          refine xk_add rfl rfl (wrap_in (by omega)) (by decide) ?_
          refine xk_assign rfl (by decide) ?_
          refine XK.nilN ?_
          exact XK.weak [1, 2, 3, 4, 5, 6, 7, 8, 9] rfl (by decide) (fun _ h => h) (XK.envS [(17, .int .i64 (rg.length + 1)), (16, .pointer (some ⟨g12, 0, none⟩)), (15, .int .i64 (60 + 12 * vs.length)), (14, .int .i64 vs.length), (6, .pointer (some ⟨g4, 0, none⟩)), (4, .slice (some ⟨g2, 0, none⟩) 120 120), (2, .pointer (some ⟨g1, 0, none⟩))] (XK.round (5 - (rg.length + 1)) (by omega) ⟨rg ++ [⟨dv ds (65 + 12 * vs.length + rg.length) % 7, decide (dv ds (65 + 12 * vs.length + rg.length) / 7 % 2 = 0)⟩], A5n, c5n, by simp; omega, by simp, by intro r hr; simp at hr; rcases hr with hr | hr; exact hgf r hr; subst hr; dsimp only; omega, by simp, rfl, by simp [Rg.cells]⟩))
        ·
          refine XK.exit ?_
          refine XK.norm ?_
          exact XK.envS [(16, .pointer (some ⟨g12, 0, none⟩)), (15, .int .i64 (60 + 12 * vs.length)), (14, .int .i64 vs.length), (6, .pointer (some ⟨g4, 0, none⟩)), (4, .slice (some ⟨g2, 0, none⟩) 120 120), (2, .pointer (some ⟨g1, 0, none⟩))] (XK.meet ⟨rg, A5, c5, by omega, hgf, rfl, rfl, rfl⟩)
      rintro _ _ _ ⟨rg, A5, c5, hg4, hgf, rfl, rfl, rfl⟩
      refine XK.nilrow 3 1 ?_
      refine XK.weak [1, 0, 2, 3, 4, 5, 6, 7, 8, 9] rfl (by decide) (fun _ h => h) ?_
      refine XK.cut (fun e R H => ∃ (nd : List Int) (A6 : Option Addr) (c6 : Nat), nd.length ≤ 1 ∧ (∀ f ∈ nd, 0 ≤ f ∧ f < vs.length) ∧ e = [(16, .pointer (some ⟨g12, 0, none⟩)), (15, .int .i64 (60 + 12 * vs.length)), (14, .int .i64 vs.length), (6, .pointer (some ⟨g4, 0, none⟩)), (4, .slice (some ⟨g2, 0, none⟩) 120 120), (2, .pointer (some ⟨g1, 0, none⟩))] ∧ R = [q, all w] ∧ H = [HP.blk g12 78 [.int .i64 (dv ds (60 + 12 * vs.length) % cs.length), .int .i64 (dv ds (61 + 12 * vs.length) % dm.length), .int .i64 (dv ds (62 + 12 * vs.length) % rs.length), .int .u32 (dv ds (63 + 12 * vs.length) % 3), .slice A5 rg.length c5, .slice A6 nd.length c6], HP.own 3 1 (.slice A6 nd.length c6) nd.length (intCells nd), HP.own 92 2 (.slice A5 rg.length c5) rg.length (rg.flatMap Rg.cells), HP.blk g4 29 [.slice A1 cs.length c1, .slice A2 dm.length c2, .slice A3 rs.length c3, .slice A4 vs.length c4], HP.own 78 6 (.slice A4 vs.length c4) vs.length rows4.flatten, HP.own 120 1 (.slice A3 rs.length c3) rs.length rows3.flatten, HP.own 75 3 (.slice A2 dm.length c2) dm.length rows2.flatten, HP.own 118 6 (.slice A1 cs.length c1) cs.length rows1.flatten, HP.blk g2 3 (intCells ds), HP.blk g1 29 [.slice none 0 0, .slice none 0 0, .slice none 0 0, .slice none 0 0]]) ?_ ?_
      ·
        refine XK.seq ?_

        refine XK.region ?_
        refine xk_move rfl (by decide) ?_
        refine xk_gtr rfl rfl (by decide) ?_
        refine xk_move rfl (by decide) ?_
        refine xk_split (t := 300) rfl (fun hg => ?_) (fun hg => ?_)
        ·
          refine xk_guardT rfl rfl ?_; refine xk_move rfl (by decide) ?_
          refine xk_guardT rfl rfl ?_; refine xk_move rfl (by decide) ?_
          refine xk_guardT rfl rfl ?_; refine xk_add rfl rfl (wrap_in (by omega)) (by decide) ?_
          refine xk_guardT rfl rfl ?_; refine xk_at (69 + 12 * vs.length) (69 + 12 * vs.length) (el := 3) (sz := 1) (by kernel_rfl) (by kernel_rfl) rfl rfl (by omega) (by omega) (by omega) (by decide) ?_
          refine xk_guardT rfl rfl ?_; refine xk_load (by kernel_rfl) rfl (by first | exact Rd.anyB (dd _ (by omega)) | exact Rd.ld) (by decide) ?_
          refine xk_guardT rfl rfl ?_; refine xk_rem rfl rfl (by omega) (rem_in (by omega)) (by decide) ?_
          refine xk_guardT rfl rfl ?_; refine xk_eql rfl rfl (by decide) ?_
          (first | refine xk_pickT rfl rfl (by decide) ?_ | refine xk_pickF rfl rfl (by decide) ?_)
          refine XK.nilN ?_
          refine XK.if_ rfl (fun h => ?_) (fun h => ?_)
          ·

            refine XK.draw 10 (by kernel_rfl) (by kernel_rfl) ?_
            refine XA.dA 0 rfl rfl rfl (does_field (off := 5) (by kernel_rfl) rfl) ?_
            refine XA.dA 1 rfl rfl rfl (does_load (by kernel_rfl) rfl (by first | exact Rd.anyB (dd _ (by omega)) | exact Rd.ld)) ?_
            refine XA.dA 2 rfl rfl rfl (does_move rfl) ?_
            refine XA.dA 3 rfl rfl rfl (does_move rfl) ?_
            refine XA.dA 4 rfl rfl rfl (does_add rfl rfl (wrap_in (by omega))) ?_
            refine XA.dA 5 rfl rfl rfl (does_at (70 + 12 * vs.length) (70 + 12 * vs.length) (el := 3) (sz := 1) (by kernel_rfl) (by kernel_rfl) rfl rfl (by omega) (by omega) (by omega)) ?_
            refine XA.dA 6 rfl rfl rfl (does_load (by kernel_rfl) rfl (by first | exact Rd.anyB (dd _ (by omega)) | exact Rd.ld)) ?_
            refine XA.dA 7 rfl rfl rfl (does_move rfl) ?_
            refine XA.dA 8 rfl rfl rfl (does_rem rfl rfl (by omega) (rem_in (by omega))) ?_
            refine XA.next 9 rfl (by kernel_rfl) ?_
            refine xk_slice (el := 3) (sz := 1) (zs := [.int .i64 0]) (by kernel_rfl) (zeroB_of (by kernel_rfl)) (by kernel_rfl) rfl (by decide) (by decide) rfl (by simp [fillL, setN, Value.cells, List.range_succ, List.set]; rfl) (by decide) fun g14 => ?_
            refine XA.bk ?_
            refine XA.next 10 rfl (by kernel_rfl) ?_
            refine xk_appendT 2 1 8 1 (n' := 1) (el := 3) (by kernel_rfl) (by kernel_rfl) (by decide) rfl rfl rfl (sl_blk 0 rfl rfl) (by simp [Value.oneCell']) rfl (by omega) (by omega) (by decide) fun A6 c6 => ?_
            refine XA.bt ?_
            refine XA.next 11 rfl (by kernel_rfl) ?_
            refine xk_field (off := 5) (by kernel_rfl) rfl (by decide) ?_
            refine XA.bt ?_
            refine XA.next 12 rfl (by kernel_rfl) ?_
            refine xk_st rfl rfl ?_; dsimp only [List.set]
            refine XA.bt ?_
            refine XA.done (by kernel_rfl) ?_
            refine XK.norm ?_
            exact XK.weak [1, 2, 3, 4, 5, 6, 7, 8, 9, 10] rfl (by decide) (by simp) (XK.envS [(16, .pointer (some ⟨g12, 0, none⟩)), (15, .int .i64 (60 + 12 * vs.length)), (14, .int .i64 vs.length), (6, .pointer (some ⟨g4, 0, none⟩)), (4, .slice (some ⟨g2, 0, none⟩) 120 120), (2, .pointer (some ⟨g1, 0, none⟩))] (XK.meet ⟨[dv ds (70 + 12 * vs.length) % vs.length], A6, c6, by simp, by intro f hf; simp at hf; subst hf; exact emod_bd _ hg, rfl, rfl, rfl⟩))
          ·
            refine XK.skip ?_
            refine XK.norm ?_
            exact XK.envS [(16, .pointer (some ⟨g12, 0, none⟩)), (15, .int .i64 (60 + 12 * vs.length)), (14, .int .i64 vs.length), (6, .pointer (some ⟨g4, 0, none⟩)), (4, .slice (some ⟨g2, 0, none⟩) 120 120), (2, .pointer (some ⟨g1, 0, none⟩))] (XK.meet ⟨[], none, 0, by simp, by simp, rfl, rfl, rfl⟩)
        ·
          refine xk_guardF rfl rfl rfl (by decide) ?_
          refine xk_guardF rfl rfl rfl (by decide) ?_
          refine xk_guardF rfl rfl rfl (by decide) ?_
          refine xk_guardF rfl rfl rfl (by decide) ?_
          refine xk_guardF rfl rfl rfl (by decide) ?_
          refine xk_guardF rfl rfl rfl (by decide) ?_
          refine xk_guardF rfl rfl rfl (by decide) ?_
          (first | refine xk_pickT rfl rfl (by decide) ?_ | refine xk_pickF rfl rfl (by decide) ?_)
          refine XK.nilN ?_
          refine XK.cond rfl (fun h => by cases h) (fun _ => ?_)
          refine XK.skip ?_
          refine XK.norm ?_
          exact XK.envS [(16, .pointer (some ⟨g12, 0, none⟩)), (15, .int .i64 (60 + 12 * vs.length)), (14, .int .i64 vs.length), (6, .pointer (some ⟨g4, 0, none⟩)), (4, .slice (some ⟨g2, 0, none⟩) 120 120), (2, .pointer (some ⟨g1, 0, none⟩))] (XK.meet ⟨[], none, 0, by simp, by simp, rfl, rfl, rfl⟩)
      rintro _ _ _ ⟨nd, A6, c6, hn1, hnf, rfl, rfl, rfl⟩
      refine XK.cut (fun e R H => ∃ (nd : List Int) (A6 : Option Addr) (c6 : Nat), nd.length ≤ 2 ∧ (∀ f ∈ nd, 0 ≤ f ∧ f < vs.length) ∧ e = [(16, .pointer (some ⟨g12, 0, none⟩)), (15, .int .i64 (60 + 12 * vs.length)), (14, .int .i64 vs.length), (6, .pointer (some ⟨g4, 0, none⟩)), (4, .slice (some ⟨g2, 0, none⟩) 120 120), (2, .pointer (some ⟨g1, 0, none⟩))] ∧ R = [q, all w] ∧ H = [HP.blk g12 78 [.int .i64 (dv ds (60 + 12 * vs.length) % cs.length), .int .i64 (dv ds (61 + 12 * vs.length) % dm.length), .int .i64 (dv ds (62 + 12 * vs.length) % rs.length), .int .u32 (dv ds (63 + 12 * vs.length) % 3), .slice A5 rg.length c5, .slice A6 nd.length c6], HP.own 3 1 (.slice A6 nd.length c6) nd.length (intCells nd), HP.own 92 2 (.slice A5 rg.length c5) rg.length (rg.flatMap Rg.cells), HP.blk g4 29 [.slice A1 cs.length c1, .slice A2 dm.length c2, .slice A3 rs.length c3, .slice A4 vs.length c4], HP.own 78 6 (.slice A4 vs.length c4) vs.length rows4.flatten, HP.own 120 1 (.slice A3 rs.length c3) rs.length rows3.flatten, HP.own 75 3 (.slice A2 dm.length c2) dm.length rows2.flatten, HP.own 118 6 (.slice A1 cs.length c1) cs.length rows1.flatten, HP.blk g2 3 (intCells ds), HP.blk g1 29 [.slice none 0 0, .slice none 0 0, .slice none 0 0, .slice none 0 0]]) ?_ ?_
      ·
        refine XK.seq ?_

        refine XK.region ?_
        refine xk_move rfl (by decide) ?_
        refine xk_gtr rfl rfl (by decide) ?_
        refine xk_move rfl (by decide) ?_
        refine xk_split (t := 323) rfl (fun hg => ?_) (fun hg => ?_)
        ·
          refine xk_guardT rfl rfl ?_; refine xk_move rfl (by decide) ?_
          refine xk_guardT rfl rfl ?_; refine xk_move rfl (by decide) ?_
          refine xk_guardT rfl rfl ?_; refine xk_add rfl rfl (wrap_in (by omega)) (by decide) ?_
          refine xk_guardT rfl rfl ?_; refine xk_at (71 + 12 * vs.length) (71 + 12 * vs.length) (el := 3) (sz := 1) (by kernel_rfl) (by kernel_rfl) rfl rfl (by omega) (by omega) (by omega) (by decide) ?_
          refine xk_guardT rfl rfl ?_; refine xk_load (by kernel_rfl) rfl (by first | exact Rd.anyB (dd _ (by omega)) | exact Rd.ld) (by decide) ?_
          refine xk_guardT rfl rfl ?_; refine xk_rem rfl rfl (by omega) (rem_in (by omega)) (by decide) ?_
          refine xk_guardT rfl rfl ?_; refine xk_eql rfl rfl (by decide) ?_
          (first | refine xk_pickT rfl rfl (by decide) ?_ | refine xk_pickF rfl rfl (by decide) ?_)
          refine XK.nilN ?_
          refine XK.if_ rfl (fun h => ?_) (fun h => ?_)
          ·

            refine XK.draw 11 (by kernel_rfl) (by kernel_rfl) ?_
            refine XA.dA 0 rfl rfl rfl (does_field (off := 5) (by kernel_rfl) rfl) ?_
            refine XA.dA 1 rfl rfl rfl (does_load (by kernel_rfl) rfl (by first | exact Rd.anyB (dd _ (by omega)) | exact Rd.ld)) ?_
            refine XA.dA 2 rfl rfl rfl (does_move rfl) ?_
            refine XA.dA 3 rfl rfl rfl (does_move rfl) ?_
            refine XA.dA 4 rfl rfl rfl (does_add rfl rfl (wrap_in (by omega))) ?_
            refine XA.dA 5 rfl rfl rfl (does_at (71 + 12 * vs.length) (71 + 12 * vs.length) (el := 3) (sz := 1) (by kernel_rfl) (by kernel_rfl) rfl rfl (by omega) (by omega) (by omega)) ?_
            refine XA.dA 6 rfl rfl rfl (does_load (by kernel_rfl) rfl (by first | exact Rd.anyB (dd _ (by omega)) | exact Rd.ld)) ?_
            refine XA.dA 7 rfl rfl rfl (does_quo rfl rfl (by omega) (quo_in (by omega) (by omega) (by omega))) ?_
            refine XA.dA 8 rfl rfl rfl (does_move rfl) ?_
            refine XA.dA 9 rfl rfl rfl (does_rem rfl rfl (by omega) (rem_in (by omega))) ?_
            refine XA.next 10 rfl (by kernel_rfl) ?_
            refine xk_slice (el := 3) (sz := 1) (zs := [.int .i64 0]) (by kernel_rfl) (zeroB_of (by kernel_rfl)) (by kernel_rfl) rfl (by decide) (by decide) rfl (by simp [fillL, setN, Value.cells, List.range_succ, List.set]; rfl) (by decide) fun g15 => ?_
            refine XA.bk ?_
            refine XA.next 11 rfl (by kernel_rfl) ?_
            refine xk_appendT 2 1 8 1 (n' := nd.length + 1) (el := 3) (by kernel_rfl) (by kernel_rfl) (by decide) rfl rfl rfl (sl_blk 0 rfl rfl) (by simp [Value.oneCell']) rfl (by omega) (by omega) (by decide) fun A6n c6n => ?_
            refine XA.bt ?_
            refine XA.next 12 rfl (by kernel_rfl) ?_
            refine xk_field (off := 5) (by kernel_rfl) rfl (by decide) ?_
            refine XA.bt ?_
            refine XA.next 13 rfl (by kernel_rfl) ?_
            refine xk_st rfl rfl ?_; dsimp only [List.set]
            refine XA.bt ?_
            refine XA.done (by kernel_rfl) ?_
            refine XK.norm ?_
            exact XK.weak [1, 2, 3, 4, 5, 6, 7, 8, 9, 10] rfl (by decide) (by simp) (XK.envS [(16, .pointer (some ⟨g12, 0, none⟩)), (15, .int .i64 (60 + 12 * vs.length)), (14, .int .i64 vs.length), (6, .pointer (some ⟨g4, 0, none⟩)), (4, .slice (some ⟨g2, 0, none⟩) 120 120), (2, .pointer (some ⟨g1, 0, none⟩))] (XK.meet ⟨nd ++ [dv ds (71 + 12 * vs.length) / 3 % vs.length], A6n, c6n, by simp; omega, by intro f hf; simp at hf; rcases hf with hf | hf; exact hnf f hf; subst hf; exact emod_bd _ (by omega), rfl, rfl, by simp [intCells]⟩))
          ·
            refine XK.skip ?_
            refine XK.norm ?_
            exact XK.envS [(16, .pointer (some ⟨g12, 0, none⟩)), (15, .int .i64 (60 + 12 * vs.length)), (14, .int .i64 vs.length), (6, .pointer (some ⟨g4, 0, none⟩)), (4, .slice (some ⟨g2, 0, none⟩) 120 120), (2, .pointer (some ⟨g1, 0, none⟩))] (XK.meet ⟨nd, A6, c6, by omega, hnf, rfl, rfl, rfl⟩)
        ·
          refine xk_guardF rfl rfl rfl (by decide) ?_
          refine xk_guardF rfl rfl rfl (by decide) ?_
          refine xk_guardF rfl rfl rfl (by decide) ?_
          refine xk_guardF rfl rfl rfl (by decide) ?_
          refine xk_guardF rfl rfl rfl (by decide) ?_
          refine xk_guardF rfl rfl rfl (by decide) ?_
          refine xk_guardF rfl rfl rfl (by decide) ?_
          (first | refine xk_pickT rfl rfl (by decide) ?_ | refine xk_pickF rfl rfl (by decide) ?_)
          refine XK.nilN ?_
          refine XK.cond rfl (fun h => by cases h) (fun _ => ?_)
          refine XK.skip ?_
          refine XK.norm ?_
          exact XK.envS [(16, .pointer (some ⟨g12, 0, none⟩)), (15, .int .i64 (60 + 12 * vs.length)), (14, .int .i64 vs.length), (6, .pointer (some ⟨g4, 0, none⟩)), (4, .slice (some ⟨g2, 0, none⟩) 120 120), (2, .pointer (some ⟨g1, 0, none⟩))] (XK.meet ⟨nd, A6, c6, by omega, hnf, rfl, rfl, rfl⟩)
      rintro _ _ _ ⟨nd, A6, c6, hn2b, hnf, rfl, rfl, rfl⟩

      refine XK.region ?_
      refine xk_field (off := 3) (by kernel_rfl) rfl (by decide) ?_
      refine xk_load (by kernel_rfl) rfl (by first | exact Rd.anyB (dd _ (by omega)) | exact Rd.ld) (by decide) ?_
      refine xk_ldN 6 rfl ?_
      refine xk_slice (el := 78) (sz := 6) (zs := [.int .i64 0, .int .i64 0, .int .i64 0, .int .u32 0, .slice none 0 0, .slice none 0 0]) (by kernel_rfl) (zeroB_of (by kernel_rfl)) (by kernel_rfl) rfl (by decide) (by decide) rfl (by simp [fillL, setN, Value.cells, List.range_succ, List.set]; rfl) (by decide) fun g16 => ?_
      refine xk_appendT 5 6 80 1 (n' := vs.length + 1) (el := 78) (by kernel_rfl) (by kernel_rfl) (by decide) rfl rfl rfl (sl_blk 0 rfl rfl) (by simp [Value.oneCell']) rfl (by omega) (by omega) (by decide) fun A4n c4n => ?_
      refine xk_field (off := 3) (by kernel_rfl) rfl (by decide) ?_
      refine xk_st rfl rfl ?_; dsimp only [List.set]
      refine XK.nilN ?_

      refine XK.region ?_
      refine xk_move rfl (by decide) ?_
      refine xk_add rfl rfl (wrap_in (by omega)) (by decide) ?_
      refine xk_assign rfl (by decide) ?_
      refine XK.nilN ?_
      refine XK.still [q] [2, 3] [4, 5, 6, 7, 8, 9, 10] (by simp) rfl (by decide) (by simp) fun qn hqf hql hqn => ?_
      have hle := hql q (by simp)
      have hq2 := hqn (by simp) (by simp; exact hq)
      have hs1 := SlS.own (hqf 3 _ (by simp) rfl)
      have hs2 := SlS.own (hqf 2 _ (by simp) rfl)
      exact XK.weak [0, 1, 2, 3, 4, 5, 6] rfl (by decide) (by simp) (XK.envS [(14, .int .i64 (vs.length + 1)), (6, .pointer (some ⟨g4, 0, none⟩)), (4, .slice (some ⟨g2, 0, none⟩) 120 120), (2, .pointer (some ⟨g1, 0, none⟩))] (XK.round (5 - (vs.length + 1)) (by omega) ⟨vs ++ [⟨dv ds (60 + 12 * vs.length) % cs.length, dv ds (61 + 12 * vs.length) % dm.length, dv ds (62 + 12 * vs.length) % rs.length, dv ds (63 + 12 * vs.length) % 3, rg, nd⟩], A4n, c4n, qn, rows4 ++ [_], by simp; omega, by simp, hcr.mono (fun c r => ClkR.mono (slq_le hle)), hvf.snoc ⟨q0.1, q0.2, q1.1, q1.2, q2.1, q2.2, by dsimp only; omega, by dsimp only; omega, hg4, hgf, hn2b, hnf⟩, (hvr.mono (fun c r => DevR.mono (slq_le hle))).snoc (r := [.int .i64 (dv ds (60 + 12 * vs.length) % cs.length), .int .i64 (dv ds (61 + 12 * vs.length) % dm.length), .int .i64 (dv ds (62 + 12 * vs.length) % rs.length), .int .u32 (dv ds (63 + 12 * vs.length) % 3), .slice A5 rg.length c5, .slice A6 nd.length c6]) rfl ⟨A5, _, c5, A6, _, c6, rfl, rfl, rfl, hs1, hs2⟩, hq2, by simp, rfl, by simp⟩))
    ·
      refine XK.exit ?_
      refine XK.norm ?_
      exact XK.envS [(6, .pointer (some ⟨g4, 0, none⟩)), (4, .slice (some ⟨g2, 0, none⟩) 120 120), (2, .pointer (some ⟨g1, 0, none⟩))] (XK.meet ⟨vs, A4, c4, q, rows4, by omega, by omega, hcr, hvf, hvr, hq, rfl, rfl, rfl⟩)
  rintro _ _ _ ⟨vs, A4, c4, q, rows4, hv1, hv4, hcr, hvf, hvr, hq, rfl, rfl, rfl⟩
  refine XK.seq ?_

  refine XK.region ?_
  refine xk_ldN 4 rfl ?_
  refine xk_stN rfl rfl ?_; simp only [putN, Value.cells, List.set, List.take, List.drop, List.nil_append, List.append_nil, List.length_cons, List.length_nil, List.cons_append, Nat.reduceAdd]
  refine XK.nilN ?_
  refine XK.ret ?_
  refine XK.norm ?_
  refine XK.still [q] [1, 2, 3, 4] [6] (by simp) rfl (by decide) (by simp) fun qn hqf hql hqn => ?_
  have hle := hql q (by simp)
  have hq2 := hqn (by simp) (by simp; exact hq)
  have hs4 := SlS.own (hqf 1 _ (by simp) rfl)
  have hs3 := SlS.own (hqf 2 _ (by simp) rfl)
  have hs2 := SlS.own (hqf 3 _ (by simp) rfl)
  have hs1 := SlS.own (hqf 4 _ (by simp) rfl)
  have hS : SocR (slq qn) ⟨cs, dm, rs, vs⟩ #[.slice A1 cs.length c1, .slice A2 dm.length c2, .slice A3 rs.length c3, .slice A4 vs.length c4] :=
    ⟨A1, _, c1, A2, _, c2, A3, _, c3, A4, _, c4, rfl, ⟨rows1, hcr.mono (fun c r => ClkR.mono (slq_le hle)), rfl, hs1⟩, ⟨rows2, hdr, rfl, hs2⟩, ⟨rows3, hrr, rfl, hs3⟩, ⟨rows4, hvr.mono (fun c r => DevR.mono (slq_le hle)), rfl, hs4⟩⟩
  exact XK.retC rfl (by kernel_rfl) rfl rfl (RdN.whole 0 rfl) fun w1 st => ⟨⟨_, rfl, _, ⟨cs, dm, rs, vs⟩, rfl, hS.mono (slq_le (st.fresh_le (by simp) hq2)), ⟨hcf, hdf, hrf, hvf, ⟨hc1, hc9⟩, ⟨hd1, hd4⟩, ⟨hr1, hr3⟩, ⟨hv1, hv4⟩⟩⟩, st.below (by simp)⟩
end Go.Proofs.YticjkhagldkejaaGreatDoor
/- One question of one agent, in plain words; a chip's parts stay as they must. No walk in sight. -/
namespace Go.Proofs.YticjkhagldkejaaGreatDoor
set_option linter.all false
open Go.RowKit
def zA (s : Soc) (l : Int) : FmS := ⟨zeroW s, zeroW s, 0, 0, [], [], l, -1, 0, 0⟩
def zQ (s : Soc) (l : Int) (b : Nat) (m : List Int) : FmS := putBox (zA s l) b 1 m
section
variable {s : Soc} {x : HwS} {l : Int} {b : Nat} {m a : List Int}
theorem zQ_send (hb : b < 2) : sendF (zA s l) b m = (0, zQ s l b m) := by
 obtain rfl | rfl : b = 0 ∨ b = 1 := by omega
 ·simp [sendF, inB, zA, zQ, putBox]
 ·simp [sendF, inB, zA, zQ, putBox]
theorem zQ_next (hl : l = 0 ∨ l = 1) (hb : b < 2) : nextF (zQ s l b m) = some b := by
 obtain rfl | rfl : b = 0 ∨ b = 1 := by omega
 ·rcases hl with rfl | rfl <;> rfl
 ·rcases hl with rfl | rfl <;> rfl
theorem zQ_box (hb : b < 2) : boxW (zQ s l b m) b = m := by
 obtain rfl | rfl : b = 0 ∨ b = 1 := by omega
 ·rfl
 ·rfl
theorem zQ_x : (zQ s l b m).x = zeroW s ∧ (zQ s l b m).y = zeroW s ∧ (zQ s l b m).at_ = -1 := by
 unfold zQ putBox
 split <;> exact ⟨rfl, rfl, rfl⟩
theorem zQ_ok (hH : s.okT) (hl : l = 0 ∨ l = 1) (hu : U32s m) (hm : m.length ≤ 1000000) : FmOk s (zQ s l b m) := by
 unfold zQ putBox
 split
 ·exact ⟨hl, hu, by simp [zA, U32s], hm, by simp [zA], zero_sm hH, zero_sm hH⟩
 ·exact ⟨hl, by simp [zA, U32s], hu, by simp [zA], hm, zero_sm hH, zero_sm hH⟩
theorem zQ_take (hl : l = 0 ∨ l = 1) (hb : b < 2) (hd : decF s (zeroW s) (zeroW s) (waitL s x) b m = (0, 0, 0)) : takeF s x (zQ s l b m) = (putBox (zA s b) b 2 (answF s x m 0), false) := by
 unfold takeF
 rw [zQ_next hl hb]
 dsimp only
 unfold takeA
 dsimp only
 have hdz : decZ s x (zQ s l b m) b = (0, 0, 0) := by
  unfold decZ
  rw [zQ_x.1, zQ_x.2.1, zQ_box hb]
  exact hd
 rw [hdz]
 obtain rfl | rfl : b = 0 ∨ b = 1 := by omega
 ·rfl
 ·rfl
theorem zQ_readW (hb : b < 2) : readW (putBox (zA s l) b 2 a) b = some a := by
 obtain rfl | rfl : b = 0 ∨ b = 1 := by omega
 ·rfl
 ·rfl
theorem zQ_readZ (hb : b < 2) : readZ (putBox (zA s l) b 2 a) b = zA s l := by
 obtain rfl | rfl : b = 0 ∨ b = 1 := by omega
 ·rfl
 ·rfl
structure AskHd (m p n : Int) : Prop where
 pk : (packZ m 0 p 0).2 = 0
 un : unpackE (packZ m 0 p 0).1 = 0
 ty : hTyp (packZ m 0 p 0).1 = 0
 pr : hPro (packZ m 0 p 0).1 = p
 ms : hMsg (packZ m 0 p 0).1 = m
 z4 : getZ (packZ m 0 p 0).1 28 4 = 0
 zp : getZ (packZ m 0 p 0).1 10 8 = p
 zm : getZ (packZ m 0 p 0).1 0 8 = m
 fr : frmOf p m = some ⟨n, 0, 0, 0, 0⟩
theorem head_rate : AskHd 6 20 1 := ⟨by decide +kernel, by decide +kernel, by decide +kernel, by decide +kernel, by decide +kernel, by decide +kernel, by decide +kernel, by decide +kernel, by rfl⟩
theorem head_power : AskHd 5 17 1 := ⟨by decide +kernel, by decide +kernel, by decide +kernel, by decide +kernel, by decide +kernel, by decide +kernel, by decide +kernel, by decide +kernel, by rfl⟩
theorem head_base : AskHd 1 16 0 := ⟨by decide +kernel, by decide +kernel, by decide +kernel, by decide +kernel, by decide +kernel, by decide +kernel, by decide +kernel, by decide +kernel, by rfl⟩
theorem ask_dec {x y : Wsh} {wt : List Int} {g : Nat} {m p : Int} {i : Int} (h : AskHd m p 1) (hi : i < (numF s p : Int)) : decF s x y wt g [(packZ m 0 p 0).1, i] = (0, 0, 0) := by
 have hr : readF s [(packZ m 0 p 0).1, i] = (0, 0, 0) := by
  simp only [readF, frmD, h.un, h.ty, h.pr, h.ms, h.fr]
  simp [askF, hi]
 unfold decF
 rw [hr]
 rfl
theorem ask_dec0 {x y : Wsh} {wt : List Int} {g : Nat} {m p : Int} (h : AskHd m p 0) : decF s x y wt g [(packZ m 0 p 0).1] = (0, 0, 0) := by
 have hr : readF s [(packZ m 0 p 0).1] = (0, 0, 0) := by
  simp only [readF, frmD, h.un, h.ty, h.pr, h.ms, h.fr]
  simp
 unfold decF
 rw [hr]
 rfl
theorem ask_reply {m p : Int} {i : Int} (h : AskHd m p 1) (h0 : 0 ≤ i) (h1 : i < 4294967296) : ReplyOk [(packZ m 0 p 0).1, i] := ⟨⟨_, _, rfl, h.z4, fun _ => ⟨i, rfl, h0, h1⟩⟩⟩
theorem ask_reply0 : ReplyOk [(packZ 1 0 16 0).1] := ⟨⟨_, _, rfl, head_base.z4, fun h => by
 rw [head_base.zp, head_base.zm] at h
 omega⟩⟩
theorem more_rate (i : Int) : answF s x [(packZ 6 0 20 0).1, i] 0 = [(packZ 6 0 20 0).1, IntKind.u32.wrap 0, IntKind.u32.wrap (rateI s x.ck i), IntKind.u32.wrap (rateI s x.ck i / 4294967296)] := by
 unfold answF moreF
 simp only [List.headD_cons, head_rate.zp, head_rate.zm]
 rfl
theorem more_power (i : Int) : answF s x [(packZ 5 0 17 0).1, i] 0 = [(packZ 5 0 17 0).1, IntKind.u32.wrap 0, phN (phaseF x.dm i)] := by
 unfold answF moreF
 simp only [List.headD_cons, head_power.zp, head_power.zm]
 rfl
def attrZ (s : Soc) : Int := IntKind.u32.wrap (s.domains.length + s.clocks.length * 256 + s.resets.length * 65536 + s.devs.length * 16777216)
theorem more_base : answF s x [(packZ 1 0 16 0).1] 0 = [(packZ 1 0 16 0).1, IntKind.u32.wrap 0, attrZ s] := by
 unfold answF moreF
 simp only [List.headD_cons, head_base.zp, head_base.zm]
 rfl
theorem attr_all : (List.range 10).all (fun c => (List.range 5).all fun d => (List.range 4).all fun r => (List.range 5).all fun v =>
  decide (and32 (IntKind.u32.wrap ((d : Nat) + (c : Nat) * 256 + (r : Nat) * 65536 + (v : Nat) * 16777216)) 255 = (d : Nat) ∧ and32 ((IntKind.u32.wrap ((d : Nat) + (c : Nat) * 256 + (r : Nat) * 65536 + (v : Nat) * 16777216)).fdiv (2 ^ min (Int.toNat 8) 32)) 255 = (c : Nat) ∧ and32 ((IntKind.u32.wrap ((d : Nat) + (c : Nat) * 256 + (r : Nat) * 65536 + (v : Nat) * 16777216)).fdiv (2 ^ min (Int.toNat 16) 32)) 255 = (r : Nat) ∧ (IntKind.u32.wrap ((d : Nat) + (c : Nat) * 256 + (r : Nat) * 65536 + (v : Nat) * 16777216)).fdiv (2 ^ min (Int.toNat 24) 32) = (v : Nat))) = true := by decide +kernel
theorem attr_ok (h : s.okT) : and32 (attrZ s) 255 = s.domains.length ∧ and32 ((attrZ s).fdiv (2 ^ min (Int.toNat 8) 32)) 255 = s.clocks.length ∧ and32 ((attrZ s).fdiv (2 ^ min (Int.toNat 16) 32)) 255 = s.resets.length ∧ (attrZ s).fdiv (2 ^ min (Int.toNat 24) 32) = s.devs.length := by
 have h1 := h.nc
 have h2 := h.nd
 have h3 := h.nr
 have h4 := h.nv
 have := List.all_eq_true.1 attr_all s.clocks.length (List.mem_range.2 (by omega))
 have := List.all_eq_true.1 this s.domains.length (List.mem_range.2 (by omega))
 have := List.all_eq_true.1 this s.resets.length (List.mem_range.2 (by omega))
 have := List.all_eq_true.1 this s.devs.length (List.mem_range.2 (by omega))
 exact of_decide_eq_true this
theorem rate_halves {r : Int} (h0 : 0 ≤ r) (h1 : r ≤ 1099511627776) : ∃ lo hi : Int, IntKind.u32.wrap r = lo ∧ IntKind.u32.wrap (r / 4294967296) = hi ∧ 0 ≤ lo ∧ lo < 4294967296 ∧ 0 ≤ hi ∧ hi < 4294967296 ∧ lo + hi * 4294967296 = r := by
 refine ⟨r % 4294967296, r / 4294967296, ?_, ?_, by omega, by omega, by omega, by omega, by omega⟩
 ·unfold IntKind.wrap
  simp [IntKind.signed, IntKind.bits]
 ·exact wrap_u32 (by omega)
end
theorem onF_ok {s : Soc} {st : List CkS} (hH : s.okH) (h : CkOk s st) (i : Int) (b : Bool) : CkOk s (onF s st i b).2 := by
 unfold onF
 split
 ·exact h
 ·split
  ·rename_i c x hc hx
   split
   ·exact h
   ·refine ⟨by simp [h.len], fun y hy => ?_⟩
    rcases List.mem_or_eq_of_mem_set hy with hy | rfl
    ·exact h.left y hy
    ·have h1 := (hH.t.clocks i.toNat c hc).2
     have h2 := h.left x (List.mem_of_getElem? hx)
     unfold onC
     dsimp only
     split
     ·omega
     ·exact h2
  ·exact h
theorem upF_ok {s : Soc} {st : List DmS} (hH : s.okH) (h : DmOk s st) (i : Int) : DmOk s (upF s st i).2 := by
 unfold upF
 split
 ·exact h
 ·split
  ·rename_i c x hc hx
   split
   ·exact h
   ·have h1 := (hH.domains i.toNat c hc).2
    refine ⟨by simp [h.len], fun y hy => ?_, fun y hy => ?_⟩
    ·rcases List.mem_or_eq_of_mem_set hy with hy | rfl
     ·exact h.left y hy
     ·exact h1
    ·rcases List.mem_or_eq_of_mem_set hy with hy | rfl
     ·exact h.phase y hy
     ·exact ⟨by show (0 : Int) ≤ 114; omega, by show (114 : Int) < 256; omega⟩
  ·exact h
end Go.Proofs.YticjkhagldkejaaGreatDoor
/- package clock: Tick. -/
namespace Go.Proofs.YticjkhagldkejaaGreatDoor
set_option linter.all false
set_option maxHeartbeats 4000000
set_option maxRecDepth 20000
open Go.RowKit
theorem set_same {α : Type} {l : List α} {i : Nat} {x : α} (h : l[i]? = some x) : l.set i x = l := by
 refine List.ext_getElem? fun j => ?_
 rw [List.getElem?_set]
 by_cases he : i = j
 ·subst he; rw [if_pos rfl, if_pos (List.getElem?_eq_some_iff.1 h).1, h]
 ·rw [if_neg he]
def ranL (s : Soc) (st : List CkS) (i : Nat) : List Value := (List.range s.clocks.length).map fun j => .bool (decide (j < i) && runs s st j)
theorem ranL_zero (s : Soc) (st : List CkS) : List.replicate s.clocks.length (Value.bool false) = ranL s st 0 := by
 refine List.ext_getElem? fun j => ?_
 rw [ranL, List.getElem?_replicate, List.getElem?_map]
 by_cases hl : j < s.clocks.length
 ·rw [List.getElem?_range hl]; simp [hl]
 ·rw [List.getElem?_eq_none (l := List.range s.clocks.length) (by simp; omega)]; simp [hl]
theorem ranL_set (s : Soc) (st : List CkS) (i : Nat) : (ranL s st i).set i (.bool (runs s st i)) = ranL s st (i + 1) := by
 refine List.ext_getElem? fun j => ?_
 simp only [ranL, List.getElem?_set, List.getElem?_map, List.length_map, List.length_range]
 by_cases he : i = j
 ·subst he
  by_cases hl : i < s.clocks.length
  ·rw [if_pos rfl, if_pos hl, List.getElem?_range hl]; simp
  ·rw [if_pos rfl, if_neg hl, List.getElem?_eq_none (by simp; omega)]; rfl
 ·rw [if_neg he]
  by_cases hl : j < s.clocks.length
  ·rw [List.getElem?_range hl]
   have : decide (j < i) = decide (j < i + 1) := by simp; omega
   simp [this]
  ·rw [List.getElem?_eq_none (by simp; omega)]; rfl
theorem ranL_get {s : Soc} {st : List CkS} {j : Nat} (h : j < s.clocks.length) : (ranL s st s.clocks.length)[j]? = some (.bool (runs s st j)) := by
 simp [ranL, h]
def midC (s : Soc) (st : List CkS) (i : Nat) : List CkS := (tickC s st).take i ++ st.drop i
theorem midC_zero (s : Soc) (st : List CkS) : midC s st 0 = st := by simp [midC]
theorem midC_all {s : Soc} {st : List CkS} (hok : CkOk s st) : midC s st s.clocks.length = tickC s st := by
 have hl := hok.len
 rw [midC, List.drop_eq_nil_of_le (by omega), List.append_nil, List.take_of_length_le (by simp [tickC]; omega)]
theorem midC_get {s : Soc} {st : List CkS} (hok : CkOk s st) {i : Nat} (hi : i < s.clocks.length) : (midC s st i)[i]? = st[i]? := by
 have hl := hok.len
 have : ((tickC s st).take i).length = i := by simp [tickC]; omega
 rw [midC, List.getElem?_append_right (by omega), this, Nat.sub_self, List.getElem?_drop, Nat.add_zero]
theorem midC_len {s : Soc} {st : List CkS} (hok : CkOk s st) {i : Nat} (hi : i ≤ s.clocks.length) : (midC s st i).length = s.clocks.length := by
 have hl := hok.len
 simp [midC, tickC]; omega
theorem midC_succ {s : Soc} {st : List CkS} (hok : CkOk s st) {i : Nat} {c : Clk} {x : CkS} (hc : s.clocks[i]? = some c) (hx : st[i]? = some x) : (midC s st i).set i (tickC1 s st c x) = midC s st (i + 1) := by
 have hl := hok.len
 have hi := (List.getElem?_eq_some_iff.1 hc).1
 have ht : (tickC s st)[i]? = some (tickC1 s st c x) := by rw [tickC, List.getElem?_zipWith, hc, hx]
 have htl : (tickC s st).length = s.clocks.length := by simp [tickC]; omega
 refine List.ext_getElem? fun j => ?_
 rw [List.getElem?_set]
 by_cases he : i = j
 ·subst he
  rw [if_pos rfl, if_pos (by rw [midC_len hok (by omega)]; exact hi), midC, List.getElem?_append_left (by rw [List.length_take]; omega), List.getElem?_take_of_lt (by omega), ht]
 ·rw [if_neg he, midC, midC]
  rcases Nat.lt_or_ge j i with hj | hj
  ·rw [List.getElem?_append_left (by rw [List.length_take]; omega), List.getElem?_append_left (by rw [List.length_take]; omega), List.getElem?_take_of_lt hj, List.getElem?_take_of_lt (by omega)]
  ·rw [List.getElem?_append_right (by rw [List.length_take]; omega), List.getElem?_append_right (by rw [List.length_take]; omega), List.getElem?_drop, List.getElem?_drop, List.length_take, List.length_take]
   congr 1
   omega
theorem tick_left {s : Soc} {st : List CkS} (hH : s.okH) (hok : CkOk s st) {i : Nat} {c : Clk} {x : CkS} (hc : s.clocks[i]? = some c) (hx : x ∈ st) : 0 ≤ (tickC1 s st c x).left ∧ (tickC1 s st c x).left ≤ 3 := by
 have h1 := hok.left x hx
 have h2 := (hH.t.clocks i c hc).2
 have h3 : 0 ≤ c.lock ∧ c.lock ≤ 3 := by omega
 unfold tickC1
 split
 ·split
  ·exact h3
  ·split
   ·dsimp only; omega
   ·exact h1
 ·exact h1
theorem tickC_ok {s : Soc} {st : List CkS} (hH : s.okH) (hok : CkOk s st) : CkOk s (tickC s st) := by
 have hl := hok.len
 refine ⟨by simp [tickC]; omega, fun x hx => ?_⟩
 obtain ⟨j, hj⟩ := List.getElem?_of_mem hx
 rw [tickC, List.getElem?_zipWith] at hj
 cases hc : s.clocks[j]? with
 | none => rw [hc] at hj; cases hj
 | some c =>
  cases hy : st[j]? with
  | none => rw [hc, hy] at hj; cases hj
  | some y =>
   rw [hc, hy] at hj
   cases hj
   exact tick_left hH hok hc (List.mem_of_getElem? hy)
theorem midC_ok {s : Soc} {st : List CkS} (hH : s.okH) (hok : CkOk s st) {i : Nat} (hi : i ≤ s.clocks.length) : CkOk s (midC s st i) := ⟨midC_len hok hi, fun x hx => by
 rcases List.mem_append.1 hx with h | h
 ·exact (tickC_ok hH hok).left x (List.mem_of_mem_take h)
 ·exact hok.left x (List.mem_of_mem_drop h)⟩

theorem clkTick_m (L : TL) (s : Soc) (st : List CkS) (hH : s.okH) (hfl : L.fa.length = s.clocks.length) (hok : CkOk s st) (w : World) (F : Nat → Prop) (hp : (TreeH L s st).sat F w) (hF : ∀ b, F b → b < w.heap.size) :
  Calls Tryz.prog 83 #[.pointer (some ⟨L.t, 0, none⟩)] w (fun y w' => y = .returned (.tuple #[]) ∧ ∃ F', (TreeH L s (tickC s st)).sat F' w' ∧ Turns w w' F F') := by
 have hnc := hH.t.nc
 have hl := hok.len
 refine XK.enterM (p := TreeH L s st) (F := F) (vs := [.pointer (some ⟨L.t, 0, none⟩)]) Tryz.func83 rfl Tryz.ntmps83 (by simp) hp hF ?_
 have hrd0 : Rd w [⟨w, fun b => b < w.heap.size ∧ ¬ F b⟩] [TreeH L s st] L.t 0 (.slice L.A s.clocks.length L.c) := Rd.tree 0 rfl hfl hok
 refine XK.go ?_
 refine xk_makeT (n := s.clocks.length) 1 (el := 4) (z := .bool false) (by kernel_rfl) (by kernel_rfl) rfl rfl rfl (by omega) (by omega) (by decide) fun g1 => ?_
 have hrd1 : Rd w [⟨w, fun b => b < w.heap.size ∧ ¬ F b⟩] [HP.blk g1 4 (List.replicate s.clocks.length (.bool false)), TreeH L s st] L.t 0 (.slice L.A s.clocks.length L.c) := Rd.tree 1 rfl hfl hok
 refine XK.go ?_
 rw [ranL_zero s st]
 refine XK.envS [(19, .int .i64 0), (18, .int .i64 s.clocks.length), (2, .slice (some ⟨g1, 0, none⟩) s.clocks.length s.clocks.length), (0, .pointer (some ⟨L.t, 0, none⟩))] ?_
 refine XK.loop (fun m e R H => ∃ i : Nat, i ≤ s.clocks.length ∧ m = s.clocks.length - i ∧ e = [(19, .int .i64 i), (18, .int .i64 s.clocks.length), (2, .slice (some ⟨g1, 0, none⟩) s.clocks.length s.clocks.length), (0, .pointer (some ⟨L.t, 0, none⟩))] ∧ R = [⟨w, fun b => b < w.heap.size ∧ ¬ F b⟩] ∧ H = [HP.blk g1 4 (ranL s st i), TreeH L s st]) s.clocks.length ⟨0, by omega, rfl, rfl, rfl, rfl⟩ fun m e R H hI => ?_
 obtain ⟨i, hi, rfl, rfl, rfl, rfl⟩ := hI
 refine XK.go ?_
 refine XK.if_ rfl (fun hlt => ?_) (fun hge => ?_)
 ·have hlt : i < s.clocks.length := by omega
  have hgl : (ranL s st i).length = s.clocks.length := by simp [ranL]
  refine XK.go ?_
  refine kcall (fun w1 t => clkRunning_any L s st hH i w1 (t.treeR 1 rfl hfl hok)) ?_
  rw [show runI s st (i : Int) = runs s st i by simp [runI, inB, hlt]]
  refine kd (dat i i) ?_
  refine XK.go ?_
  rw [ranL_set]
  refine XK.envS [(19, .int .i64 (i + 1 : Nat)), (18, .int .i64 s.clocks.length), (2, .slice (some ⟨g1, 0, none⟩) s.clocks.length s.clocks.length), (0, .pointer (some ⟨L.t, 0, none⟩))] ?_
  exact XK.round (s.clocks.length - (i + 1)) (by omega) ⟨i + 1, hlt, rfl, rfl, rfl, rfl⟩
 ·obtain rfl : i = s.clocks.length := by omega
  have hrd2 : Rd w [⟨w, fun b => b < w.heap.size ∧ ¬ F b⟩] [HP.blk g1 4 (ranL s st s.clocks.length), TreeH L s st] L.t 0 (.slice L.A s.clocks.length L.c) := Rd.tree 1 rfl hfl hok
  refine XK.go ?_
  refine XK.envS [(34, .int .i64 0), (33, .int .i64 s.clocks.length), (2, .slice (some ⟨g1, 0, none⟩) s.clocks.length s.clocks.length), (0, .pointer (some ⟨L.t, 0, none⟩))] ?_
  refine XK.loop (fun m e R H => ∃ i : Nat, i ≤ s.clocks.length ∧ m = s.clocks.length - i ∧ e = [(34, .int .i64 i), (33, .int .i64 s.clocks.length), (2, .slice (some ⟨g1, 0, none⟩) s.clocks.length s.clocks.length), (0, .pointer (some ⟨L.t, 0, none⟩))] ∧ R = [⟨w, fun b => b < w.heap.size ∧ ¬ F b⟩] ∧ H = [HP.blk g1 4 (ranL s st s.clocks.length), TreeH L s (midC s st i)]) s.clocks.length ⟨0, by omega, rfl, rfl, rfl, by rw [midC_zero]⟩ fun m e R H hI => ?_
  obtain ⟨i, hi, rfl, rfl, rfl, rfl⟩ := hI
  refine XK.go ?_
  refine XK.if_ rfl (fun hlt => ?_) (fun hge => ?_)
  ·have hlt : i < s.clocks.length := by omega
   obtain ⟨c, hc⟩ := get_some hlt
   obtain ⟨a, ha⟩ := get_some (l := L.fa) (i := i) (by omega)
   obtain ⟨x, hx⟩ := get_some (l := st) (i := i) (by omega)
   have hok' := midC_ok hH hok hi
   have hml := midC_len hok hi
   have hgx : (midC s st i)[i]? = some x := by rw [midC_get hok hlt]; exact hx
   obtain ⟨hnl, hnr⟩ := nodesR_len hfl hok'
   have hlx := hok.left x (List.mem_of_getElem? hx)
   have hgl : (ranL s st s.clocks.length).length = s.clocks.length := by simp [ranL]
   have hpq : (nodesR s L.fa (midC s st i)).set i (nodeC c a (tickC1 s st c x)) = nodesR s L.fa (midC s st (i + 1)) := by rw [nodesR_set hc ha (by omega), midC_succ hok hc hx]
   refine XK.openTree 1 rfl (by omega) fun g cs hA h1 h2 h3 h4 => ?_
   dsimp only [List.set]
   rw [hA]
   have hs := flat_sub h2 hnl hnr (nodesR_get hc ha hgx)
   have hu := Upd.refl cs (i * 11) 11
   have hrd : Rd w [⟨w, fun b => b < w.heap.size ∧ ¬ F b⟩] [HP.blk g 227 cs, HP.blk g1 4 (ranL s st s.clocks.length), HP.many [HP.blk L.t 225 [.slice (some ⟨g, 0, none⟩) s.clocks.length L.c], HP.emp, HP.pic (FrmP s L.fa) (FrmP.le (s := s) (fa := L.fa))]] L.t 0 (.slice (some ⟨g, 0, none⟩) s.clocks.length L.c) := Rd.inMany 2 0 rfl rfl rfl
   refine XK.go ?_
   refine kd (dat i (i * 11)) ?_
   obtain ⟨hsrc, hfit⟩ := hH.t.clocks i c hc
   obtain ⟨kd, src, rate, mul, dv, lock⟩ := c
   obtain ⟨on, left⟩ := x
   dsimp only at hfit hsrc hlx
   dsimp only [nodeC] at hs
   have hstay : kd ≠ 112 ∨ on = false → nodesR s L.fa (midC s st i) = nodesR s L.fa (midC s st (i + 1)) := fun hh => by
    rw [← hpq]
    have : tickC1 s st ⟨kd, src, rate, mul, dv, lock⟩ ⟨on, left⟩ = ⟨on, left⟩ := by
     unfold tickC1
     rw [if_neg]
     rintro ⟨h1, h2⟩
     rcases hh with hh | hh
     ·exact hh h1
     ·rw [hh] at h2; cases h2
    rw [this, set_same (nodesR_get hc ha hgx)]
   rcases hfit with ⟨rfl, _⟩ | ⟨rfl, hsl, _⟩ | ⟨rfl, _⟩ | ⟨rfl, _⟩ | ⟨rfl, _⟩
   ·rw [hstay (.inl (by decide))] at h2
    refine XK.go ?_
    refine XK.drawQ ?_
    refine XQ.end_ ?_
    refine XK.go ?_
    refine XK.closeTree 1 hA h1 h2 h3 h4 rfl ?_
    refine XK.envS [(34, .int .i64 (i + 1 : Nat)), (33, .int .i64 s.clocks.length), (2, .slice (some ⟨g1, 0, none⟩) s.clocks.length s.clocks.length), (0, .pointer (some ⟨L.t, 0, none⟩))] ?_
    exact XK.round (s.clocks.length - (i + 1)) (by omega) ⟨i + 1, hlt, rfl, rfl, rfl, rfl⟩
   ·cases on
    ·rw [hstay (.inr rfl)] at h2
     refine XK.go ?_
     refine XK.drawQ ?_
     refine XQ.end_ ?_
     refine XK.go ?_
     refine XK.closeTree 1 hA h1 h2 h3 h4 rfl ?_
     refine XK.envS [(34, .int .i64 (i + 1 : Nat)), (33, .int .i64 s.clocks.length), (2, .slice (some ⟨g1, 0, none⟩) s.clocks.length s.clocks.length), (0, .pointer (some ⟨L.t, 0, none⟩))] ?_
     exact XK.round (s.clocks.length - (i + 1)) (by omega) ⟨i + 1, hlt, rfl, rfl, rfl, rfl⟩
    ·obtain ⟨f, fs, hf⟩ : ∃ (f : Nat) (fs : List Int), src = (f : Int) :: fs := by
      cases hs0 : src with
      | nil => rw [hs0] at hsl; simp at hsl
      | cons f fs => exact ⟨f.toNat, fs, by have := (hsrc f (by rw [hs0]; simp)).1; rw [Int.toNat_of_nonneg this]⟩
     have hfi : f < i := by have := (hsrc f (by rw [hf]; simp)).2; omega
     subst hf
     have hrun := ranL_get (s := s) (st := st) (j := f) (by omega)
     have hrr : Rd w [⟨w, fun b => b < w.heap.size ∧ ¬ F b⟩] [HP.blk g 227 cs, HP.blk g1 4 (ranL s st s.clocks.length), HP.many [HP.blk L.t 225 [.slice (some ⟨g, 0, none⟩) s.clocks.length L.c], HP.emp, HP.pic (FrmP s L.fa) (FrmP.le (s := s) (fa := L.fa))]] g1 f (.bool (runs s st f)) := Rd.blk 1 rfl hrun
     refine XK.go ?_
     refine kcall (fun w1 t => clkSource_any L s (midC s st i) i f _ fs w1 (t.treeO 0 2 rfl rfl hA h2 hfl hok') hc rfl) ?_
     refine XK.go ?_
     refine kd (dat f f) ?_
     have ht1 : tickC1 s st ⟨112, (f : Int) :: fs, rate, mul, dv, lock⟩ ⟨true, left⟩ = if runs s st f = false then ⟨true, lock⟩ else if 0 < left then ⟨true, left - 1⟩ else ⟨true, left⟩ := by
      simp [tickC1, srcF]
     rw [ht1] at hpq
     cases hrf : runs s st f
     ·rw [hrf] at hrr
      rw [if_pos hrf] at hpq
      have hs1 := hs.set 7 (.int .i64 lock) (by simp) (by omega)
      have hu1 := hu.set 7 (.int .i64 lock) (by decide)
      have hf1 := flat_upd (r' := nodeC ⟨112, (f : Int) :: fs, rate, mul, dv, lock⟩ a ⟨true, lock⟩) h2 hnl hnr hlt (by omega) rfl hs1 hu1
      rw [hpq] at hf1
      refine XK.go ?_
      refine XK.closeTree 1 hA (by simpa using h1) hf1 h3 h4 rfl ?_
      refine XK.envS [(34, .int .i64 (i + 1 : Nat)), (33, .int .i64 s.clocks.length), (2, .slice (some ⟨g1, 0, none⟩) s.clocks.length s.clocks.length), (0, .pointer (some ⟨L.t, 0, none⟩))] ?_
      exact XK.round (s.clocks.length - (i + 1)) (by omega) ⟨i + 1, hlt, rfl, rfl, rfl, rfl⟩
     ·rw [hrf] at hrr
      rw [if_neg (by rw [hrf]; decide)] at hpq
      refine XK.go ?_
      refine XK.if_ rfl (fun hp => ?_) (fun hp => ?_)
      ·rw [if_pos hp] at hpq
       have hs1 := hs.set 7 (.int .i64 (left - 1)) (by simp) (by omega)
       have hu1 := hu.set 7 (.int .i64 (left - 1)) (by decide)
       have hf1 := flat_upd (r' := nodeC ⟨112, (f : Int) :: fs, rate, mul, dv, lock⟩ a ⟨true, left - 1⟩) h2 hnl hnr hlt (by omega) rfl hs1 hu1
       rw [hpq] at hf1
       refine XK.go ?_
       refine XK.closeTree 1 hA (by simpa using h1) hf1 h3 h4 rfl ?_
       refine XK.envS [(34, .int .i64 (i + 1 : Nat)), (33, .int .i64 s.clocks.length), (2, .slice (some ⟨g1, 0, none⟩) s.clocks.length s.clocks.length), (0, .pointer (some ⟨L.t, 0, none⟩))] ?_
       exact XK.round (s.clocks.length - (i + 1)) (by omega) ⟨i + 1, hlt, rfl, rfl, rfl, rfl⟩
      ·rw [if_neg hp, set_same (nodesR_get hc ha hgx)] at hpq
       rw [hpq] at h2
       refine XK.go ?_
       refine XK.drawQ ?_
       refine XQ.end_ ?_
       refine XK.go ?_
       refine XK.closeTree 1 hA h1 h2 h3 h4 rfl ?_
       refine XK.envS [(34, .int .i64 (i + 1 : Nat)), (33, .int .i64 s.clocks.length), (2, .slice (some ⟨g1, 0, none⟩) s.clocks.length s.clocks.length), (0, .pointer (some ⟨L.t, 0, none⟩))] ?_
       exact XK.round (s.clocks.length - (i + 1)) (by omega) ⟨i + 1, hlt, rfl, rfl, rfl, rfl⟩
   ·rw [hstay (.inl (by decide))] at h2
    refine XK.go ?_
    refine XK.drawQ ?_
    refine XQ.end_ ?_
    refine XK.go ?_
    refine XK.closeTree 1 hA h1 h2 h3 h4 rfl ?_
    refine XK.envS [(34, .int .i64 (i + 1 : Nat)), (33, .int .i64 s.clocks.length), (2, .slice (some ⟨g1, 0, none⟩) s.clocks.length s.clocks.length), (0, .pointer (some ⟨L.t, 0, none⟩))] ?_
    exact XK.round (s.clocks.length - (i + 1)) (by omega) ⟨i + 1, hlt, rfl, rfl, rfl, rfl⟩
   ·rw [hstay (.inl (by decide))] at h2
    refine XK.go ?_
    refine XK.drawQ ?_
    refine XQ.end_ ?_
    refine XK.go ?_
    refine XK.closeTree 1 hA h1 h2 h3 h4 rfl ?_
    refine XK.envS [(34, .int .i64 (i + 1 : Nat)), (33, .int .i64 s.clocks.length), (2, .slice (some ⟨g1, 0, none⟩) s.clocks.length s.clocks.length), (0, .pointer (some ⟨L.t, 0, none⟩))] ?_
    exact XK.round (s.clocks.length - (i + 1)) (by omega) ⟨i + 1, hlt, rfl, rfl, rfl, rfl⟩
   ·rw [hstay (.inl (by decide))] at h2
    refine XK.go ?_
    refine XK.drawQ ?_
    refine XQ.end_ ?_
    refine XK.go ?_
    refine XK.closeTree 1 hA h1 h2 h3 h4 rfl ?_
    refine XK.envS [(34, .int .i64 (i + 1 : Nat)), (33, .int .i64 s.clocks.length), (2, .slice (some ⟨g1, 0, none⟩) s.clocks.length s.clocks.length), (0, .pointer (some ⟨L.t, 0, none⟩))] ?_
    exact XK.round (s.clocks.length - (i + 1)) (by omega) ⟨i + 1, hlt, rfl, rfl, rfl, rfl⟩
  ·obtain rfl : i = s.clocks.length := by omega
   rw [midC_all hok]
   refine XK.go ?_
   exact XK.ret0 (.inr rfl) rfl fun w1 t => ⟨rfl, t.turns hF (by simp) (i := 1) rfl⟩
end Go.Proofs.YticjkhagldkejaaGreatDoor
/- package reset: Assert, Release, Tick. -/
namespace Go.Proofs.YticjkhagldkejaaGreatDoor
set_option linter.all false
set_option maxHeartbeats 4000000
set_option maxRecDepth 20000
open Go.RowKit
section
variable {N : Frm} {w0 w : World} {e : Env} {R : List Piece} {H : List HP} {K : Act → World → Prop} {L : RL} {s : Soc} {st : List LnS}
theorem XK.openLines (i : Nat) (hi : H[i]? = some (LinesH L s st)) (h : XK N w0 K e R (HP.map L.g (lnL s st) :: HP.blk L.t 235 [.map (some L.g)] :: H.set i (HP.many [HP.emp, HP.emp]))) : XK N w0 K e R H := by
 have hlt := hlt_of hi
 refine XK.take i 0 hi rfl ?_
 refine XK.take (i + 1) 1 (by rw [List.getElem?_cons_succ, List.getElem?_set_self hlt]) rfl ?_
 simpa [List.set_cons_succ, List.set_set] using h
theorem XK.closeLines (i : Nat) (hi : H[i]? = some (HP.many [HP.emp, HP.emp])) (h : XK N w0 K e R (H.set i (LinesH L s st))) : XK N w0 K e R (HP.map L.g (lnL s st) :: HP.blk L.t 235 [.map (some L.g)] :: H) := by
 have hlt := hlt_of hi
 refine XK.give (i + 1) 1 (by rw [List.getElem?_cons_succ]; exact hi) rfl ?_
 dsimp only [List.set]
 refine XK.give i 0 (by rw [List.getElem?_set_self hlt]) rfl ?_
 simpa [List.set_set, LinesH] using h
end
end Go.Proofs.YticjkhagldkejaaGreatDoor
