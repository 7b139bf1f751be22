/- package table: what is wished then. -/
import Derived.Tactics2
import Derived.Test.YticjkhagldkejaaGreatDoorFirmTurnsK5
namespace Go.Proofs.YticjkhagldkejaaGreatDoor
set_option linter.all false
open Go.RowKit

set_option maxHeartbeats 4000000 in
theorem done_any (qx : Piece) (X1 X2 X3 Y1 Y2 Y3 : Option Addr) (xk1 xk2 xk3 yk1 yk2 yk3 : Nat) (x y : Wsh) (ag : Nat) (k id : Int) (w : World) (hqx : qx.Le (all w)) (hag : ag < 2) (hbx : x.sm) (hby : y.sm) (s0 : SlS qx 1 X1 x.d.length (boolCells x.d)) (s1 : SlS qx 1 X2 x.c.length (boolCells x.c)) (s2 : SlS qx 1 X3 x.l.length (boolCells x.l)) (s3 : SlS qx 1 Y1 y.d.length (boolCells y.d)) (s4 : SlS qx 1 Y2 y.c.length (boolCells y.c)) (s5 : SlS qx 1 Y3 y.l.length (boolCells y.l)) :
    Calls Tryz.prog 151 #[.agg #[.slice X1 x.d.length xk1, .slice X2 x.c.length xk2, .slice X3 x.l.length xk3, .slice Y1 y.d.length yk1, .slice Y2 y.c.length yk2, .slice Y3 y.l.length yk3], .int .i64 (ag : Int), .agg #[.int .u8 k, .int .i64 id]] w (RtW (fun v w w' => StR (fresh w w') (doneX x ag k id) (doneY y ag k id) v) w) := by
  obtain ⟨h0, h1, h2⟩ := hbx
  obtain ⟨h3, h4, h5⟩ := hby
  refine XK.enter (vs := [.agg #[.slice X1 x.d.length xk1, .slice X2 x.c.length xk2, .slice X3 x.l.length xk3, .slice Y1 y.d.length yk1, .slice Y2 y.c.length yk2, .slice Y3 y.l.length yk3], .int .i64 (ag : Int), .agg #[.int .u8 k, .int .i64 id]]) Tryz.func151 rfl Tryz.ntmps151 (by simp) ?_
  refine XK.seq ?_
  refine XK.piece qx (by simp) hqx ?_

  refine XK.region ?_
  refine xk_box rfl (by decide) fun g1 => ?_
  refine xk_box rfl (by decide) fun g2 => ?_
  refine xk_alloc (cs := [.slice none 0 0, .slice none 0 0, .slice none 0 0, .slice none 0 0, .slice none 0 0, .slice none 0 0]) (zeroB_of (by kernel_rfl)) (by decide) fun g3 => ?_
  refine XK.nilN ?_
  refine XK.seq ?_

  refine XK.region ?_
  refine xk_alloc (cs := [.slice none 0 0, .slice none 0 0, .slice none 0 0, .slice none 0 0, .slice none 0 0, .slice none 0 0]) (zeroB_of (by kernel_rfl)) (by decide) fun g4 => ?_
  refine XK.nilN ?_
  refine XK.seq ?_
  refine XK.seq ?_

  refine XK.region ?_
  refine xk_field (off := 0) (by kernel_rfl) rfl (by decide) ?_
  refine xk_ldN 6 rfl ?_
  refine xk_move rfl (by decide) ?_
  refine XK.nilN ?_
  refine XK.envS [(13, .int .i64 0), (12, .agg #[.slice X1 x.d.length xk1, .slice X2 x.c.length xk2, .slice X3 x.l.length xk3, .slice Y1 y.d.length yk1, .slice Y2 y.c.length yk2, .slice Y3 y.l.length yk3]), (7, .pointer (some ⟨g4, 0, none⟩)), (6, .pointer (some ⟨g3, 0, none⟩)), (5, .pointer (some ⟨g2, 0, none⟩)), (3, .pointer (some ⟨g1, 0, none⟩)), (1, .int .i64 (ag : Int))] ?_
  refine XK.block ?_
  refine XK.loop (fun m e R H => (m = 2 ∧ e = [(13, .int .i64 0), (12, .agg #[.slice X1 x.d.length xk1, .slice X2 x.c.length xk2, .slice X3 x.l.length xk3, .slice Y1 y.d.length yk1, .slice Y2 y.c.length yk2, .slice Y3 y.l.length yk3]), (7, .pointer (some ⟨g4, 0, none⟩)), (6, .pointer (some ⟨g3, 0, none⟩)), (5, .pointer (some ⟨g2, 0, none⟩)), (3, .pointer (some ⟨g1, 0, none⟩)), (1, .int .i64 (ag : Int))] ∧ R = [qx, all w] ∧ H = [HP.blk g4 71 [.slice none 0 0, .slice none 0 0, .slice none 0 0, .slice none 0 0, .slice none 0 0, .slice none 0 0], HP.blk g3 71 [.slice none 0 0, .slice none 0 0, .slice none 0 0, .slice none 0 0, .slice none 0 0, .slice none 0 0], HP.blk g2 63 [.int .u8 k, .int .i64 id], HP.blk g1 71 [.slice X1 x.d.length xk1, .slice X2 x.c.length xk2, .slice X3 x.l.length xk3, .slice Y1 y.d.length yk1, .slice Y2 y.c.length yk2, .slice Y3 y.l.length yk3]]) ∨ (m = 1 ∧ ∃ (B0 : Option Addr) (c0 : Nat) (B1 : Option Addr) (c1 : Nat) (B2 : Option Addr) (c2 : Nat), e = [(13, .int .i64 1), (12, .agg #[.slice X1 x.d.length xk1, .slice X2 x.c.length xk2, .slice X3 x.l.length xk3, .slice Y1 y.d.length yk1, .slice Y2 y.c.length yk2, .slice Y3 y.l.length yk3]), (7, .pointer (some ⟨g4, 0, none⟩)), (6, .pointer (some ⟨g3, 0, none⟩)), (5, .pointer (some ⟨g2, 0, none⟩)), (3, .pointer (some ⟨g1, 0, none⟩)), (1, .int .i64 (ag : Int))] ∧ R = [qx, all w] ∧ H = [HP.own 4 1 (.slice B0 x.d.length c0) x.d.length (boolCells x.d), HP.own 4 1 (.slice B1 x.c.length c1) x.c.length (boolCells x.c), HP.own 4 1 (.slice B2 x.l.length c2) x.l.length (boolCells x.l), HP.blk g4 71 [.slice B0 x.d.length c0, .slice B1 x.c.length c1, .slice B2 x.l.length c2, .slice none 0 0, .slice none 0 0, .slice none 0 0], HP.blk g3 71 [.slice none 0 0, .slice none 0 0, .slice none 0 0, .slice none 0 0, .slice none 0 0, .slice none 0 0], HP.blk g2 63 [.int .u8 k, .int .i64 id], HP.blk g1 71 [.slice X1 x.d.length xk1, .slice X2 x.c.length xk2, .slice X3 x.l.length xk3, .slice Y1 y.d.length yk1, .slice Y2 y.c.length yk2, .slice Y3 y.l.length yk3]]) ∨ (m = 0 ∧ ∃ (B0 : Option Addr) (c0 : Nat) (B1 : Option Addr) (c1 : Nat) (B2 : Option Addr) (c2 : Nat) (B3 : Option Addr) (c3 : Nat) (B4 : Option Addr) (c4 : Nat) (B5 : Option Addr) (c5 : Nat), e = [(13, .int .i64 2), (12, .agg #[.slice X1 x.d.length xk1, .slice X2 x.c.length xk2, .slice X3 x.l.length xk3, .slice Y1 y.d.length yk1, .slice Y2 y.c.length yk2, .slice Y3 y.l.length yk3]), (7, .pointer (some ⟨g4, 0, none⟩)), (6, .pointer (some ⟨g3, 0, none⟩)), (5, .pointer (some ⟨g2, 0, none⟩)), (3, .pointer (some ⟨g1, 0, none⟩)), (1, .int .i64 (ag : Int))] ∧ R = [qx, all w] ∧ H = [HP.own 4 1 (.slice B0 x.d.length c0) x.d.length (boolCells x.d), HP.own 4 1 (.slice B1 x.c.length c1) x.c.length (boolCells x.c), HP.own 4 1 (.slice B2 x.l.length c2) x.l.length (boolCells x.l), HP.own 4 1 (.slice B3 y.d.length c3) y.d.length (boolCells y.d), HP.own 4 1 (.slice B4 y.c.length c4) y.c.length (boolCells y.c), HP.own 4 1 (.slice B5 y.l.length c5) y.l.length (boolCells y.l), HP.blk g4 71 [.slice B0 x.d.length c0, .slice B1 x.c.length c1, .slice B2 x.l.length c2, .slice B3 y.d.length c3, .slice B4 y.c.length c4, .slice B5 y.l.length c5], HP.blk g3 71 [.slice none 0 0, .slice none 0 0, .slice none 0 0, .slice none 0 0, .slice none 0 0, .slice none 0 0], HP.blk g2 63 [.int .u8 k, .int .i64 id], HP.blk g1 71 [.slice X1 x.d.length xk1, .slice X2 x.c.length xk2, .slice X3 x.l.length xk3, .slice Y1 y.d.length yk1, .slice Y2 y.c.length yk2, .slice Y3 y.l.length yk3]])) 2 (.inl ⟨rfl, rfl, rfl, rfl⟩) fun m e R H hI => ?_
  rcases hI with ⟨rfl, rfl, rfl, rfl⟩ | ⟨rfl, B0, c0, B1, c1, B2, c2, rfl, rfl, rfl⟩ | ⟨rfl, B0, c0, B1, c1, B2, c2, B3, c3, B4, c4, B5, c5, rfl, rfl, rfl⟩
  · skip
    refine XK.seq ?_

    refine XK.region ?_
    refine xk_lss rfl rfl (by decide) ?_
    refine XK.nilN ?_
    refine XK.seq ?_
    refine XK.cond rfl (fun _ => ?_) (fun h => by simp at h)
    refine XK.skip ?_
    refine XK.norm ?_
    refine XK.seq ?_
    refine XK.block ?_
    refine XK.seq ?_

    refine XK.region ?_
    refine xk_move rfl (by decide) ?_
    refine xk_indexA 0 (len := 2) (n := 3) (by kernel_rfl) rfl rfl rfl (by decide) rfl (by decide) ?_
    refine xk_alloc (cs := [.slice none 0 0, .slice none 0 0, .slice none 0 0]) (zeroB_of (by kernel_rfl)) (by decide) fun g5 => ?_
    refine xk_assign rfl (by decide) ?_
    (first | (refine xk_storeN 0 rfl rfl rfl (by kernel_rfl) (by simp [Value.cells, Value.oneCell']) (by simp [Value.cells]) ?_) | (refine xk_storeN 1 rfl rfl rfl (by kernel_rfl) (by simp [Value.cells, Value.oneCell']) (by simp [Value.cells]) ?_) | (refine xk_storeN 2 rfl rfl rfl (by kernel_rfl) (by simp [Value.cells, Value.oneCell']) (by simp [Value.cells]) ?_) | (refine xk_storeN 3 rfl rfl rfl (by kernel_rfl) (by simp [Value.cells, Value.oneCell']) (by simp [Value.cells]) ?_) | (refine xk_storeN 4 rfl rfl rfl (by kernel_rfl) (by simp [Value.cells, Value.oneCell']) (by simp [Value.cells]) ?_) | (refine xk_storeN 5 rfl rfl rfl (by kernel_rfl) (by simp [Value.cells, Value.oneCell']) (by simp [Value.cells]) ?_) | (refine xk_storeN 6 rfl rfl rfl (by kernel_rfl) (by simp [Value.cells, Value.oneCell']) (by simp [Value.cells]) ?_) | (refine xk_storeN 7 rfl rfl rfl (by kernel_rfl) (by simp [Value.cells, Value.oneCell']) (by simp [Value.cells]) ?_) | (refine xk_storeN 8 rfl rfl rfl (by kernel_rfl) (by simp [Value.cells, Value.oneCell']) (by simp [Value.cells]) ?_)); simp only [putN, Value.cells, List.set, List.take, List.drop, List.nil_append, List.append_nil, List.length_cons, List.length_nil, List.cons_append, Nat.reduceAdd]
    refine XK.nilN ?_

    refine XK.draw 12 (by kernel_rfl) (by kernel_rfl) ?_
    refine XA.dA 0 rfl rfl rfl (does_move rfl) ?_
    refine XA.dA 1 rfl rfl rfl (does_field (off := 0) (by kernel_rfl) rfl) ?_
    refine XA.dA 2 rfl rfl rfl (does_ld rfl) ?_
    refine XA.dA 4 rfl rfl rfl (does_field (off := 1) (by kernel_rfl) rfl) ?_
    refine XA.dA 5 rfl rfl rfl (does_ld rfl) ?_
    refine XA.dA 7 rfl rfl rfl (does_field (off := 2) (by kernel_rfl) rfl) ?_
    refine XA.dA 8 rfl rfl rfl (does_ld rfl) ?_
    refine XA.dA 11 rfl rfl rfl (does_field (off := 0) (by kernel_rfl) rfl) ?_
    refine XA.next 3 rfl (by kernel_rfl) ?_
    refine xk_callN (f := 100) (fi := []) (ca := []) (by kernel_rfl) rfl rfl (by decide) (CloneOk_clone_bool x.d.length (boolCells x.d)) (fun w1 st => clone_bool _ _ _ _ w1 (s0.le (st.le (by simp))) (boolCells_one _) (by have := h0; omega)) ?_
    rintro _ _ q0 ⟨B0, c0, rfl, rfl⟩ _
    simp only [List.cons_append, List.nil_append]
    refine XK.nil ?_; refine XK.thenN ?_; refine XA.back (fun _ h => h.tailR.tail) ?_
    refine XA.next 6 rfl (by kernel_rfl) ?_
    refine xk_callN (f := 100) (fi := []) (ca := []) (by kernel_rfl) rfl rfl (by decide) (CloneOk_clone_bool x.c.length (boolCells x.c)) (fun w1 st => clone_bool _ _ _ _ w1 (s1.le (st.le (by simp))) (boolCells_one _) (by have := h1; omega)) ?_
    rintro _ _ q1 ⟨B1, c1, rfl, rfl⟩ _
    simp only [List.cons_append, List.nil_append]
    refine XK.nil ?_; refine XK.thenN ?_; refine XA.back (fun _ h => h.tailR.tailR.tail.tail) ?_
    refine XA.next 9 rfl (by kernel_rfl) ?_
    refine xk_callN (f := 100) (fi := []) (ca := []) (by kernel_rfl) rfl rfl (by decide) (CloneOk_clone_bool x.l.length (boolCells x.l)) (fun w1 st => clone_bool _ _ _ _ w1 (s2.le (st.le (by simp))) (boolCells_one _) (by have := h2; omega)) ?_
    rintro _ _ q2 ⟨B2, c2, rfl, rfl⟩ _
    simp only [List.cons_append, List.nil_append]
    refine XK.nil ?_; refine XK.thenN ?_; refine XA.back (fun _ h => h.tailR.tailR.tailR.tail.tail.tail) ?_
    refine XA.do_ 10 rfl rfl rfl (by decide) (does_buildS (zs := [.slice none 0 0, .slice none 0 0, .slice none 0 0]) (L := [(0, 1), (1, 1), (2, 1)]) (zeroB_of (by kernel_rfl)) (by kernel_rfl) rfl (by simp [fillL, setN, Value.cells]; rfl)) (by kernel_rfl) (fun _ _ _ h => h) (fun _ h => h.tailR.tailR.tailR.tail.tail.tail) ?_
    refine XA.next 12 rfl (by kernel_rfl) ?_
    refine xk_atA 0 0 (n := 2) (el := 68) (sz := 3) (by kernel_rfl) (by kernel_rfl) rfl rfl (by omega) (by omega) (by omega) (by decide) ?_
    refine XA.bt ?_
    refine XA.next 13 rfl (by kernel_rfl) ?_
    (first | (refine xk_storeN 0 rfl rfl rfl (by kernel_rfl) (by simp [Value.cells, Value.oneCell']) (by simp [Value.cells]) ?_) | (refine xk_storeN 1 rfl rfl rfl (by kernel_rfl) (by simp [Value.cells, Value.oneCell']) (by simp [Value.cells]) ?_) | (refine xk_storeN 2 rfl rfl rfl (by kernel_rfl) (by simp [Value.cells, Value.oneCell']) (by simp [Value.cells]) ?_) | (refine xk_storeN 3 rfl rfl rfl (by kernel_rfl) (by simp [Value.cells, Value.oneCell']) (by simp [Value.cells]) ?_) | (refine xk_storeN 4 rfl rfl rfl (by kernel_rfl) (by simp [Value.cells, Value.oneCell']) (by simp [Value.cells]) ?_) | (refine xk_storeN 5 rfl rfl rfl (by kernel_rfl) (by simp [Value.cells, Value.oneCell']) (by simp [Value.cells]) ?_) | (refine xk_storeN 6 rfl rfl rfl (by kernel_rfl) (by simp [Value.cells, Value.oneCell']) (by simp [Value.cells]) ?_) | (refine xk_storeN 7 rfl rfl rfl (by kernel_rfl) (by simp [Value.cells, Value.oneCell']) (by simp [Value.cells]) ?_) | (refine xk_storeN 8 rfl rfl rfl (by kernel_rfl) (by simp [Value.cells, Value.oneCell']) (by simp [Value.cells]) ?_)); simp only [putN, Value.cells, List.set, List.take, List.drop, List.nil_append, List.append_nil, List.length_cons, List.length_nil, List.cons_append, Nat.reduceAdd]
    refine XA.bt ?_
    refine XA.done (by kernel_rfl) ?_
    refine XK.norm ?_

    refine XK.region ?_
    refine xk_add rfl rfl (wrap_in (by omega)) (by decide) ?_
    refine xk_move rfl (by decide) ?_
    refine XK.nilN ?_
    exact XK.weak [2, 1, 0, 4, 5, 6, 7] rfl (by decide) (by simp) (XK.envS [(13, .int .i64 1), (12, .agg #[.slice X1 x.d.length xk1, .slice X2 x.c.length xk2, .slice X3 x.l.length xk3, .slice Y1 y.d.length yk1, .slice Y2 y.c.length yk2, .slice Y3 y.l.length yk3]), (7, .pointer (some ⟨g4, 0, none⟩)), (6, .pointer (some ⟨g3, 0, none⟩)), (5, .pointer (some ⟨g2, 0, none⟩)), (3, .pointer (some ⟨g1, 0, none⟩)), (1, .int .i64 (ag : Int))] (XK.round 1 (by omega) (.inr (.inl ⟨rfl, B0, c0, B1, c1, B2, c2, rfl, rfl, rfl⟩))))
  · skip
    refine XK.seq ?_

    refine XK.region ?_
    refine xk_lss rfl rfl (by decide) ?_
    refine XK.nilN ?_
    refine XK.seq ?_
    refine XK.cond rfl (fun _ => ?_) (fun h => by simp at h)
    refine XK.skip ?_
    refine XK.norm ?_
    refine XK.seq ?_
    refine XK.block ?_
    refine XK.seq ?_

    refine XK.region ?_
    refine xk_move rfl (by decide) ?_
    refine xk_indexA 1 (len := 2) (n := 3) (by kernel_rfl) rfl rfl rfl (by decide) rfl (by decide) ?_
    refine xk_alloc (cs := [.slice none 0 0, .slice none 0 0, .slice none 0 0]) (zeroB_of (by kernel_rfl)) (by decide) fun g5 => ?_
    refine xk_assign rfl (by decide) ?_
    (first | (refine xk_storeN 0 rfl rfl rfl (by kernel_rfl) (by simp [Value.cells, Value.oneCell']) (by simp [Value.cells]) ?_) | (refine xk_storeN 1 rfl rfl rfl (by kernel_rfl) (by simp [Value.cells, Value.oneCell']) (by simp [Value.cells]) ?_) | (refine xk_storeN 2 rfl rfl rfl (by kernel_rfl) (by simp [Value.cells, Value.oneCell']) (by simp [Value.cells]) ?_) | (refine xk_storeN 3 rfl rfl rfl (by kernel_rfl) (by simp [Value.cells, Value.oneCell']) (by simp [Value.cells]) ?_) | (refine xk_storeN 4 rfl rfl rfl (by kernel_rfl) (by simp [Value.cells, Value.oneCell']) (by simp [Value.cells]) ?_) | (refine xk_storeN 5 rfl rfl rfl (by kernel_rfl) (by simp [Value.cells, Value.oneCell']) (by simp [Value.cells]) ?_) | (refine xk_storeN 6 rfl rfl rfl (by kernel_rfl) (by simp [Value.cells, Value.oneCell']) (by simp [Value.cells]) ?_) | (refine xk_storeN 7 rfl rfl rfl (by kernel_rfl) (by simp [Value.cells, Value.oneCell']) (by simp [Value.cells]) ?_) | (refine xk_storeN 8 rfl rfl rfl (by kernel_rfl) (by simp [Value.cells, Value.oneCell']) (by simp [Value.cells]) ?_)); simp only [putN, Value.cells, List.set, List.take, List.drop, List.nil_append, List.append_nil, List.length_cons, List.length_nil, List.cons_append, Nat.reduceAdd]
    refine XK.nilN ?_

    refine XK.draw 12 (by kernel_rfl) (by kernel_rfl) ?_
    refine XA.dA 0 rfl rfl rfl (does_move rfl) ?_
    refine XA.dA 1 rfl rfl rfl (does_field (off := 0) (by kernel_rfl) rfl) ?_
    refine XA.dA 2 rfl rfl rfl (does_ld rfl) ?_
    refine XA.dA 4 rfl rfl rfl (does_field (off := 1) (by kernel_rfl) rfl) ?_
    refine XA.dA 5 rfl rfl rfl (does_ld rfl) ?_
    refine XA.dA 7 rfl rfl rfl (does_field (off := 2) (by kernel_rfl) rfl) ?_
    refine XA.dA 8 rfl rfl rfl (does_ld rfl) ?_
    refine XA.dA 11 rfl rfl rfl (does_field (off := 0) (by kernel_rfl) rfl) ?_
    refine XA.next 3 rfl (by kernel_rfl) ?_
    refine xk_callN (f := 100) (fi := []) (ca := []) (by kernel_rfl) rfl rfl (by decide) (CloneOk_clone_bool y.d.length (boolCells y.d)) (fun w1 st => clone_bool _ _ _ _ w1 (s3.le (st.le (by simp))) (boolCells_one _) (by have := h3; omega)) ?_
    rintro _ _ q0 ⟨B3, c3, rfl, rfl⟩ _
    simp only [List.cons_append, List.nil_append]
    refine XK.nil ?_; refine XK.thenN ?_; refine XA.back (fun _ h => h.tailR.tail) ?_
    refine XA.next 6 rfl (by kernel_rfl) ?_
    refine xk_callN (f := 100) (fi := []) (ca := []) (by kernel_rfl) rfl rfl (by decide) (CloneOk_clone_bool y.c.length (boolCells y.c)) (fun w1 st => clone_bool _ _ _ _ w1 (s4.le (st.le (by simp))) (boolCells_one _) (by have := h4; omega)) ?_
    rintro _ _ q1 ⟨B4, c4, rfl, rfl⟩ _
    simp only [List.cons_append, List.nil_append]
    refine XK.nil ?_; refine XK.thenN ?_; refine XA.back (fun _ h => h.tailR.tailR.tail.tail) ?_
    refine XA.next 9 rfl (by kernel_rfl) ?_
    refine xk_callN (f := 100) (fi := []) (ca := []) (by kernel_rfl) rfl rfl (by decide) (CloneOk_clone_bool y.l.length (boolCells y.l)) (fun w1 st => clone_bool _ _ _ _ w1 (s5.le (st.le (by simp))) (boolCells_one _) (by have := h5; omega)) ?_
    rintro _ _ q2 ⟨B5, c5, rfl, rfl⟩ _
    simp only [List.cons_append, List.nil_append]
    refine XK.nil ?_; refine XK.thenN ?_; refine XA.back (fun _ h => h.tailR.tailR.tailR.tail.tail.tail) ?_
    refine XA.do_ 10 rfl rfl rfl (by decide) (does_buildS (zs := [.slice none 0 0, .slice none 0 0, .slice none 0 0]) (L := [(0, 1), (1, 1), (2, 1)]) (zeroB_of (by kernel_rfl)) (by kernel_rfl) rfl (by simp [fillL, setN, Value.cells]; rfl)) (by kernel_rfl) (fun _ _ _ h => h) (fun _ h => h.tailR.tailR.tailR.tail.tail.tail) ?_
    refine XA.next 12 rfl (by kernel_rfl) ?_
    refine xk_atA 1 3 (n := 2) (el := 68) (sz := 3) (by kernel_rfl) (by kernel_rfl) rfl rfl (by omega) (by omega) (by omega) (by decide) ?_
    refine XA.bt ?_
    refine XA.next 13 rfl (by kernel_rfl) ?_
    (first | (refine xk_storeN 0 rfl rfl rfl (by kernel_rfl) (by simp [Value.cells, Value.oneCell']) (by simp [Value.cells]) ?_) | (refine xk_storeN 1 rfl rfl rfl (by kernel_rfl) (by simp [Value.cells, Value.oneCell']) (by simp [Value.cells]) ?_) | (refine xk_storeN 2 rfl rfl rfl (by kernel_rfl) (by simp [Value.cells, Value.oneCell']) (by simp [Value.cells]) ?_) | (refine xk_storeN 3 rfl rfl rfl (by kernel_rfl) (by simp [Value.cells, Value.oneCell']) (by simp [Value.cells]) ?_) | (refine xk_storeN 4 rfl rfl rfl (by kernel_rfl) (by simp [Value.cells, Value.oneCell']) (by simp [Value.cells]) ?_) | (refine xk_storeN 5 rfl rfl rfl (by kernel_rfl) (by simp [Value.cells, Value.oneCell']) (by simp [Value.cells]) ?_) | (refine xk_storeN 6 rfl rfl rfl (by kernel_rfl) (by simp [Value.cells, Value.oneCell']) (by simp [Value.cells]) ?_) | (refine xk_storeN 7 rfl rfl rfl (by kernel_rfl) (by simp [Value.cells, Value.oneCell']) (by simp [Value.cells]) ?_) | (refine xk_storeN 8 rfl rfl rfl (by kernel_rfl) (by simp [Value.cells, Value.oneCell']) (by simp [Value.cells]) ?_)); simp only [putN, Value.cells, List.set, List.take, List.drop, List.nil_append, List.append_nil, List.length_cons, List.length_nil, List.cons_append, Nat.reduceAdd]
    refine XA.bt ?_
    refine XA.done (by kernel_rfl) ?_
    refine XK.norm ?_

    refine XK.region ?_
    refine xk_add rfl rfl (wrap_in (by omega)) (by decide) ?_
    refine xk_move rfl (by decide) ?_
    refine XK.nilN ?_
    exact XK.weak [4, 5, 6, 2, 1, 0, 7, 8, 9, 10] rfl (by decide) (by simp) (XK.envS [(13, .int .i64 2), (12, .agg #[.slice X1 x.d.length xk1, .slice X2 x.c.length xk2, .slice X3 x.l.length xk3, .slice Y1 y.d.length yk1, .slice Y2 y.c.length yk2, .slice Y3 y.l.length yk3]), (7, .pointer (some ⟨g4, 0, none⟩)), (6, .pointer (some ⟨g3, 0, none⟩)), (5, .pointer (some ⟨g2, 0, none⟩)), (3, .pointer (some ⟨g1, 0, none⟩)), (1, .int .i64 (ag : Int))] (XK.round 0 (by omega) (.inr (.inr ⟨rfl, B0, c0, B1, c1, B2, c2, B3, c3, B4, c4, B5, c5, rfl, rfl, rfl⟩))))
  · skip
    refine XK.seq ?_

    refine XK.region ?_
    refine xk_lss rfl rfl (by decide) ?_
    refine XK.nilN ?_
    refine XK.seq ?_
    refine XK.cond rfl (fun h => by simp at h) (fun _ => ?_)
    refine XK.exit ?_
    refine XK.norm ?_
    refine XK.seq ?_
    refine XK.cutB 36 (False) ?_ ?_
    · skip

      refine XK.region ?_
      refine xk_move rfl (by decide) ?_
      refine xk_lss rfl rfl (by decide) ?_
      refine xk_move rfl (by decide) ?_
      (first | refine xk_split (t := 33) rfl (fun hg => ?_) (fun hg => ?_) | refine xk_splitB (t := 33) rfl (fun hg => ?_) (fun hg => ?_))
      ·
        refine xk_guardF rfl rfl rfl (by decide) ?_
        refine xk_guardF rfl rfl rfl (by decide) ?_
        (first | refine xk_pickT rfl rfl (by decide) ?_ | refine xk_pickF rfl rfl (by decide) ?_)
        refine XK.nilN ?_
        exact XK.meetB (by repeat (first | exact trivial | refine ⟨rfl, ?_⟩)) (by first | (refine get_iff rfl ?_; omega) | (refine get_iff rfl ?_; simp_all; done) | (refine get_false rfl ?_; first | omega | (simp_all; done)) | (refine get_true rfl ?_; first | omega | (simp_all; done)) | (refine get_bool rfl ?_; simp_all; done) | (refine get_iff rfl ⟨fun hh => ?_, fun hh => ?_⟩ <;> first | omega | (simp_all; done) | (simp_all; omega)) | (exfalso; omega))
      ·
        refine xk_guardT rfl rfl ?_; refine xk_move rfl (by decide) ?_
        refine xk_guardT rfl rfl ?_; refine xk_geq rfl rfl (by decide) ?_
        (first | refine xk_pickT rfl rfl (by decide) ?_ | refine xk_pickF rfl rfl (by decide) ?_)
        refine XK.nilN ?_
        exact XK.meetB (by repeat (first | exact trivial | refine ⟨rfl, ?_⟩)) (by first | (refine get_iff rfl ?_; omega) | (refine get_iff rfl ?_; simp_all; done) | (refine get_false rfl ?_; first | omega | (simp_all; done)) | (refine get_true rfl ?_; first | omega | (simp_all; done)) | (refine get_bool rfl ?_; simp_all; done) | (refine get_iff rfl ⟨fun hh => ?_, fun hh => ?_⟩ <;> first | omega | (simp_all; done) | (simp_all; omega)) | (exfalso; omega))
    refine XK.cond rfl (fun h => by simp at h) (fun _ => ?_)
    refine XK.skip ?_
    refine XK.norm ?_
    refine XK.seq ?_
    refine XK.seq ?_
    rcases (by omega : ag = 0 ∨ ag = 1) with rfl | rfl
    · rcases (by by_cases h0 : k = 117 ∨ k = 100 ∨ k = 107 <;> by_cases h1 : k = 99 ∨ k = 111 <;> by_cases h2 : k = 114 ∨ k = 97 <;> simp [h0, h1, h2] : (k = 117 ∨ k = 100 ∨ k = 107) ∨ ((¬ (k = 117 ∨ k = 100 ∨ k = 107)) ∧ (k = 99 ∨ k = 111)) ∨ ((¬ (k = 117 ∨ k = 100 ∨ k = 107)) ∧ (¬ (k = 99 ∨ k = 111)) ∧ (k = 114 ∨ k = 97)) ∨ ((¬ (k = 117 ∨ k = 100 ∨ k = 107)) ∧ (¬ (k = 99 ∨ k = 111)) ∧ (¬ (k = 114 ∨ k = 97)))) with hk | hk | hk | hk
      · skip

        refine XK.draw 5 (by kernel_rfl) (by kernel_rfl) ?_
        refine XA.dA 0 rfl rfl rfl (does_move rfl) ?_
        refine XA.dA 1 rfl rfl rfl (does_field (off := 0) (by kernel_rfl) rfl) ?_
        refine XA.dA 2 rfl rfl rfl (does_atA 0 0 (n := 2) (el := 68) (sz := 3) (by kernel_rfl) (by kernel_rfl) rfl rfl (by omega) (by omega) (by omega)) ?_
        refine XA.dA 3 rfl rfl rfl (does_field (off := 0) (by kernel_rfl) rfl) ?_
        refine XA.dA 4 rfl rfl rfl (does_ld rfl) ?_
        refine XA.next 5 rfl (by kernel_rfl) ?_
        refine xk_callR (f := 179) (fi := []) (ca := []) (by kernel_rfl) rfl rfl (by decide) (v0 := .slice B0 x.d.length c0) (fun w1 st => (list_any g4 0 k (.slice B0 x.d.length c0) (.slice B1 x.c.length c1) (.slice B2 x.l.length c2) w1 (by simpa using (st.box (i := 6) rfl).at_ (j := 0) rfl) (by simpa using (st.box (i := 6) rfl).at_ (j := 1) rfl) (by simpa using (st.box (i := 6) rfl).at_ (j := 2) rfl)).mono fun _ _ h => Rt.conv h (by simp [listV, hk])) ?_
        refine XA.bt ?_
        refine XA.next 6 rfl (by kernel_rfl) ?_
        refine xk_assign rfl (by decide) ?_
        refine XA.bt ?_
        refine XA.done (by kernel_rfl) ?_
        refine XK.norm ?_
        refine XK.cutB 53 (0 ≤ id ∧ id < (x.d.length : Int)) ?_ ?_
        · skip

          refine XK.region ?_
          refine xk_field (off := 1) (by kernel_rfl) rfl (by decide) ?_
          refine xk_ld rfl ?_
          refine xk_geq rfl rfl (by decide) ?_
          refine xk_move rfl (by decide) ?_
          (first | refine xk_split (t := 47) rfl (fun hg => ?_) (fun hg => ?_) | refine xk_splitB (t := 47) rfl (fun hg => ?_) (fun hg => ?_))
          ·
            refine xk_guardT rfl rfl ?_; refine xk_field (off := 1) (by kernel_rfl) rfl (by decide) ?_
            refine xk_guardT rfl rfl ?_; refine xk_ld rfl ?_
            refine xk_guardT rfl rfl ?_; refine xk_move rfl (by decide) ?_
            refine xk_guardT rfl rfl ?_; refine xk_len (el := 4) (by kernel_rfl) rfl (by decide) ?_
            refine xk_guardT rfl rfl ?_; refine xk_lss rfl rfl (by decide) ?_
            (first | refine xk_pickT rfl rfl (by decide) ?_ | refine xk_pickF rfl rfl (by decide) ?_)
            refine XK.nilN ?_
            exact XK.meetB (by repeat (first | exact trivial | refine ⟨rfl, ?_⟩)) (by first | (refine get_iff rfl ?_; omega) | (refine get_iff rfl ?_; simp_all; done) | (refine get_false rfl ?_; first | omega | (simp_all; done)) | (refine get_true rfl ?_; first | omega | (simp_all; done)) | (refine get_bool rfl ?_; simp_all; done) | (refine get_iff rfl ⟨fun hh => ?_, fun hh => ?_⟩ <;> first | omega | (simp_all; done) | (simp_all; omega)) | (exfalso; omega))
          ·
            refine xk_guardF rfl rfl rfl (by decide) ?_
            refine xk_guardF rfl rfl rfl (by decide) ?_
            refine xk_guardF rfl rfl rfl (by decide) ?_
            refine xk_guardF rfl rfl rfl (by decide) ?_
            refine xk_guardF rfl rfl rfl (by decide) ?_
            (first | refine xk_pickT rfl rfl (by decide) ?_ | refine xk_pickF rfl rfl (by decide) ?_)
            refine XK.nilN ?_
            exact XK.meetB (by repeat (first | exact trivial | refine ⟨rfl, ?_⟩)) (by first | (refine get_iff rfl ?_; omega) | (refine get_iff rfl ?_; simp_all; done) | (refine get_false rfl ?_; first | omega | (simp_all; done)) | (refine get_true rfl ?_; first | omega | (simp_all; done)) | (refine get_bool rfl ?_; simp_all; done) | (refine get_iff rfl ⟨fun hh => ?_, fun hh => ?_⟩ <;> first | omega | (simp_all; done) | (simp_all; omega)) | (exfalso; omega))
        refine XK.if_ rfl (fun hin => ?_) (fun hin => ?_)
        ·
          refine XK.ownAt 0 rfl (by omega) ?_
          rintro ⟨gb, rfl⟩
          refine XK.openOwn 0 rfl fun cs hcl hct hnc hcm => ?_
          dsimp only [List.set]
          have hct1 : cs.take x.d.length = boolCells x.d := by simpa using hct

          refine XK.draw 6 (by kernel_rfl) (by kernel_rfl) ?_
          refine XA.dA 0 rfl rfl rfl (does_move rfl) ?_
          refine XA.dA 1 rfl rfl rfl (does_field (off := 1) (by kernel_rfl) rfl) ?_
          refine XA.dA 2 rfl rfl rfl (does_ld rfl) ?_
          refine XA.dA 3 rfl rfl rfl (does_field (off := 0) (by kernel_rfl) rfl) ?_
          refine XA.dA 4 rfl rfl rfl (does_ld rfl) ?_
          refine XA.next 5 rfl (by kernel_rfl) ?_
          refine xk_callR (f := 96) (fi := []) (ca := []) (by kernel_rfl) rfl rfl (by decide) (fun w1 st => on_any k w1) ?_
          refine XA.bk ?_
          refine XA.next 6 rfl (by kernel_rfl) ?_
          refine xk_at id.toNat id.toNat (el := 4) (sz := 1) (by kernel_rfl) (by kernel_rfl) rfl rfl (by omega) (by omega) (by omega) (by decide) ?_
          refine XA.bt ?_
          refine XA.next 7 rfl (by kernel_rfl) ?_
          refine xk_store 0 rfl (by kernel_rfl) rfl rfl rfl (by simp at hcl; omega) ?_; dsimp only [List.set]
          refine XA.bt ?_
          refine XA.done (by kernel_rfl) ?_
          refine XK.norm ?_
          refine XK.seq ?_
          refine XK.closeOwn 0 (n := x.d.length) (c := c0) (sz := 1) (xs := boolCells (setBL x.d id (decide (onB k)))) rfl (by simpa using hcl) (by rw [Nat.mul_one, ← boolCells_setB _ hin, ← hct1, List.take_set]) hnc hcm ?_
          dsimp only [List.set]

          refine XK.region ?_
          refine xk_ldN 6 rfl ?_
          (first | (refine xk_storeN 0 rfl rfl rfl (by kernel_rfl) (by simp [Value.cells, Value.oneCell']) (by simp [Value.cells]) ?_) | (refine xk_storeN 1 rfl rfl rfl (by kernel_rfl) (by simp [Value.cells, Value.oneCell']) (by simp [Value.cells]) ?_) | (refine xk_storeN 2 rfl rfl rfl (by kernel_rfl) (by simp [Value.cells, Value.oneCell']) (by simp [Value.cells]) ?_) | (refine xk_storeN 3 rfl rfl rfl (by kernel_rfl) (by simp [Value.cells, Value.oneCell']) (by simp [Value.cells]) ?_) | (refine xk_storeN 4 rfl rfl rfl (by kernel_rfl) (by simp [Value.cells, Value.oneCell']) (by simp [Value.cells]) ?_) | (refine xk_storeN 5 rfl rfl rfl (by kernel_rfl) (by simp [Value.cells, Value.oneCell']) (by simp [Value.cells]) ?_) | (refine xk_storeN 6 rfl rfl rfl (by kernel_rfl) (by simp [Value.cells, Value.oneCell']) (by simp [Value.cells]) ?_) | (refine xk_storeN 7 rfl rfl rfl (by kernel_rfl) (by simp [Value.cells, Value.oneCell']) (by simp [Value.cells]) ?_) | (refine xk_storeN 8 rfl rfl rfl (by kernel_rfl) (by simp [Value.cells, Value.oneCell']) (by simp [Value.cells]) ?_)); simp only [putN, Value.cells, List.set, List.take, List.drop, List.nil_append, List.append_nil, List.length_cons, List.length_nil, List.cons_append, Nat.reduceAdd]
          refine XK.nilN ?_
          refine XK.ret ?_
          refine XK.norm ?_
          have hdx : doneX x 0 k id = ⟨(setBL x.d id (decide (onB k))), x.c, x.l⟩ := by simp [doneX, setW, hk]
          have hdy : doneY y 0 k id = ⟨y.d, y.c, y.l⟩ := by simp [doneY, setW, hk]
          refine XK.still [] [0, 1, 2, 3, 4, 5] [6, 7, 8, 9] (by simp) rfl (by decide) (by decide) fun q hq _ hfr => ?_
          obtain ⟨F0, sf0, zf0⟩ := hq 0 _ (by simp) rfl
          obtain ⟨A0_, d0_, hB0, hs0⟩ := SlS.of_own (Y := q.Z) sf0 zf0
          injection hB0 with e1 e2 e3
          subst A0_
          obtain ⟨F1, sf1, zf1⟩ := hq 1 _ (by simp) rfl
          obtain ⟨A1_, d1_, hB1, hs1⟩ := SlS.of_own (Y := q.Z) sf1 zf1
          injection hB1 with e1 e2 e3
          subst A1_
          obtain ⟨F2, sf2, zf2⟩ := hq 2 _ (by simp) rfl
          obtain ⟨A2_, d2_, hB2, hs2⟩ := SlS.of_own (Y := q.Z) sf2 zf2
          injection hB2 with e1 e2 e3
          subst A2_
          obtain ⟨F3, sf3, zf3⟩ := hq 3 _ (by simp) rfl
          obtain ⟨A3_, d3_, hB3, hs3⟩ := SlS.of_own (Y := q.Z) sf3 zf3
          injection hB3 with e1 e2 e3
          subst A3_
          obtain ⟨F4, sf4, zf4⟩ := hq 4 _ (by simp) rfl
          obtain ⟨A4_, d4_, hB4, hs4⟩ := SlS.of_own (Y := q.Z) sf4 zf4
          injection hB4 with e1 e2 e3
          subst A4_
          obtain ⟨F5, sf5, zf5⟩ := hq 5 _ (by simp) rfl
          obtain ⟨A5_, d5_, hB5, hs5⟩ := SlS.of_own (Y := q.Z) sf5 zf5
          injection hB5 with e1 e2 e3
          subst A5_
          refine XK.retC rfl (n := 6) (vs := [.slice (some ⟨gb, 0, none⟩) x.d.length c0, .slice B1 x.c.length c1, .slice B2 x.l.length c2, .slice B3 y.d.length c3, .slice B4 y.c.length c4, .slice B5 y.l.length c5]) (by kernel_rfl) rfl rfl (RdN.whole 1 rfl) fun w1 st => ⟨⟨_, rfl, ?_⟩, st.below (by simp)⟩
          have hle := st.fresh_le (by simp) (hfr (by simp) (by simp))
          rw [show doneX x 0 k id = ⟨(setBL x.d id (decide (onB k))), x.c, x.l⟩ from hdx, show doneY y 0 k id = ⟨y.d, y.c, y.l⟩ from hdy]
          exact ⟨(some ⟨gb, 0, none⟩), c0, B1, c1, B2, c2, B3, c3, B4, c4, B5, c5, by simp only [setBL_len], SlS.le (p := q) (by dsimp only; rw [setBL_len]; exact hs0) hle, SlS.le hs1 hle, SlS.le hs2 hle, SlS.le hs3 hle, SlS.le hs4 hle, SlS.le hs5 hle⟩
        ·
          refine XK.skip ?_
          refine XK.norm ?_
          refine XK.seq ?_

          refine XK.region ?_
          refine xk_ldN 6 rfl ?_
          (first | (refine xk_storeN 0 rfl rfl rfl (by kernel_rfl) (by simp [Value.cells, Value.oneCell']) (by simp [Value.cells]) ?_) | (refine xk_storeN 1 rfl rfl rfl (by kernel_rfl) (by simp [Value.cells, Value.oneCell']) (by simp [Value.cells]) ?_) | (refine xk_storeN 2 rfl rfl rfl (by kernel_rfl) (by simp [Value.cells, Value.oneCell']) (by simp [Value.cells]) ?_) | (refine xk_storeN 3 rfl rfl rfl (by kernel_rfl) (by simp [Value.cells, Value.oneCell']) (by simp [Value.cells]) ?_) | (refine xk_storeN 4 rfl rfl rfl (by kernel_rfl) (by simp [Value.cells, Value.oneCell']) (by simp [Value.cells]) ?_) | (refine xk_storeN 5 rfl rfl rfl (by kernel_rfl) (by simp [Value.cells, Value.oneCell']) (by simp [Value.cells]) ?_) | (refine xk_storeN 6 rfl rfl rfl (by kernel_rfl) (by simp [Value.cells, Value.oneCell']) (by simp [Value.cells]) ?_) | (refine xk_storeN 7 rfl rfl rfl (by kernel_rfl) (by simp [Value.cells, Value.oneCell']) (by simp [Value.cells]) ?_) | (refine xk_storeN 8 rfl rfl rfl (by kernel_rfl) (by simp [Value.cells, Value.oneCell']) (by simp [Value.cells]) ?_)); simp only [putN, Value.cells, List.set, List.take, List.drop, List.nil_append, List.append_nil, List.length_cons, List.length_nil, List.cons_append, Nat.reduceAdd]
          refine XK.nilN ?_
          refine XK.ret ?_
          refine XK.norm ?_
          have hdx : doneX x 0 k id = x := by simp [doneX, setW, hk, setBL_out _ hin]
          have hdy : doneY y 0 k id = y := by simp [doneY, setW, hk, setBL_out _ hin]
          refine XK.still [] [0, 1, 2, 3, 4, 5] [6, 7, 8, 9] (by simp) rfl (by decide) (by decide) fun q hq _ hfr => ?_
          obtain ⟨F0, sf0, zf0⟩ := hq 0 _ (by simp) rfl
          obtain ⟨A0_, d0_, hB0, hs0⟩ := SlS.of_own (Y := q.Z) sf0 zf0
          injection hB0 with e1 e2 e3
          subst A0_
          obtain ⟨F1, sf1, zf1⟩ := hq 1 _ (by simp) rfl
          obtain ⟨A1_, d1_, hB1, hs1⟩ := SlS.of_own (Y := q.Z) sf1 zf1
          injection hB1 with e1 e2 e3
          subst A1_
          obtain ⟨F2, sf2, zf2⟩ := hq 2 _ (by simp) rfl
          obtain ⟨A2_, d2_, hB2, hs2⟩ := SlS.of_own (Y := q.Z) sf2 zf2
          injection hB2 with e1 e2 e3
          subst A2_
          obtain ⟨F3, sf3, zf3⟩ := hq 3 _ (by simp) rfl
          obtain ⟨A3_, d3_, hB3, hs3⟩ := SlS.of_own (Y := q.Z) sf3 zf3
          injection hB3 with e1 e2 e3
          subst A3_
          obtain ⟨F4, sf4, zf4⟩ := hq 4 _ (by simp) rfl
          obtain ⟨A4_, d4_, hB4, hs4⟩ := SlS.of_own (Y := q.Z) sf4 zf4
          injection hB4 with e1 e2 e3
          subst A4_
          obtain ⟨F5, sf5, zf5⟩ := hq 5 _ (by simp) rfl
          obtain ⟨A5_, d5_, hB5, hs5⟩ := SlS.of_own (Y := q.Z) sf5 zf5
          injection hB5 with e1 e2 e3
          subst A5_
          refine XK.retC rfl (n := 6) (vs := [.slice B0 x.d.length c0, .slice B1 x.c.length c1, .slice B2 x.l.length c2, .slice B3 y.d.length c3, .slice B4 y.c.length c4, .slice B5 y.l.length c5]) (by kernel_rfl) rfl rfl (RdN.whole 1 rfl) fun w1 st => ⟨⟨_, rfl, ?_⟩, st.below (by simp)⟩
          have hle := st.fresh_le (by simp) (hfr (by simp) (by simp))
          rw [show doneX x 0 k id = x from hdx, show doneY y 0 k id = y from hdy]
          exact ⟨B0, c0, B1, c1, B2, c2, B3, c3, B4, c4, B5, c5, rfl, SlS.le hs0 hle, SlS.le hs1 hle, SlS.le hs2 hle, SlS.le hs3 hle, SlS.le hs4 hle, SlS.le hs5 hle⟩
      · skip

        refine XK.draw 5 (by kernel_rfl) (by kernel_rfl) ?_
        refine XA.dA 0 rfl rfl rfl (does_move rfl) ?_
        refine XA.dA 1 rfl rfl rfl (does_field (off := 0) (by kernel_rfl) rfl) ?_
        refine XA.dA 2 rfl rfl rfl (does_atA 0 0 (n := 2) (el := 68) (sz := 3) (by kernel_rfl) (by kernel_rfl) rfl rfl (by omega) (by omega) (by omega)) ?_
        refine XA.dA 3 rfl rfl rfl (does_field (off := 0) (by kernel_rfl) rfl) ?_
        refine XA.dA 4 rfl rfl rfl (does_ld rfl) ?_
        refine XA.next 5 rfl (by kernel_rfl) ?_
        refine xk_callR (f := 179) (fi := []) (ca := []) (by kernel_rfl) rfl rfl (by decide) (v0 := .slice B1 x.c.length c1) (fun w1 st => (list_any g4 0 k (.slice B0 x.d.length c0) (.slice B1 x.c.length c1) (.slice B2 x.l.length c2) w1 (by simpa using (st.box (i := 6) rfl).at_ (j := 0) rfl) (by simpa using (st.box (i := 6) rfl).at_ (j := 1) rfl) (by simpa using (st.box (i := 6) rfl).at_ (j := 2) rfl)).mono fun _ _ h => Rt.conv h (by simp [listV, hk])) ?_
        refine XA.bt ?_
        refine XA.next 6 rfl (by kernel_rfl) ?_
        refine xk_assign rfl (by decide) ?_
        refine XA.bt ?_
        refine XA.done (by kernel_rfl) ?_
        refine XK.norm ?_
        refine XK.cutB 53 (0 ≤ id ∧ id < (x.c.length : Int)) ?_ ?_
        · skip

          refine XK.region ?_
          refine xk_field (off := 1) (by kernel_rfl) rfl (by decide) ?_
          refine xk_ld rfl ?_
          refine xk_geq rfl rfl (by decide) ?_
          refine xk_move rfl (by decide) ?_
          (first | refine xk_split (t := 47) rfl (fun hg => ?_) (fun hg => ?_) | refine xk_splitB (t := 47) rfl (fun hg => ?_) (fun hg => ?_))
          ·
            refine xk_guardT rfl rfl ?_; refine xk_field (off := 1) (by kernel_rfl) rfl (by decide) ?_
            refine xk_guardT rfl rfl ?_; refine xk_ld rfl ?_
            refine xk_guardT rfl rfl ?_; refine xk_move rfl (by decide) ?_
            refine xk_guardT rfl rfl ?_; refine xk_len (el := 4) (by kernel_rfl) rfl (by decide) ?_
            refine xk_guardT rfl rfl ?_; refine xk_lss rfl rfl (by decide) ?_
            (first | refine xk_pickT rfl rfl (by decide) ?_ | refine xk_pickF rfl rfl (by decide) ?_)
            refine XK.nilN ?_
            exact XK.meetB (by repeat (first | exact trivial | refine ⟨rfl, ?_⟩)) (by first | (refine get_iff rfl ?_; omega) | (refine get_iff rfl ?_; simp_all; done) | (refine get_false rfl ?_; first | omega | (simp_all; done)) | (refine get_true rfl ?_; first | omega | (simp_all; done)) | (refine get_bool rfl ?_; simp_all; done) | (refine get_iff rfl ⟨fun hh => ?_, fun hh => ?_⟩ <;> first | omega | (simp_all; done) | (simp_all; omega)) | (exfalso; omega))
          ·
            refine xk_guardF rfl rfl rfl (by decide) ?_
            refine xk_guardF rfl rfl rfl (by decide) ?_
            refine xk_guardF rfl rfl rfl (by decide) ?_
            refine xk_guardF rfl rfl rfl (by decide) ?_
            refine xk_guardF rfl rfl rfl (by decide) ?_
            (first | refine xk_pickT rfl rfl (by decide) ?_ | refine xk_pickF rfl rfl (by decide) ?_)
            refine XK.nilN ?_
            exact XK.meetB (by repeat (first | exact trivial | refine ⟨rfl, ?_⟩)) (by first | (refine get_iff rfl ?_; omega) | (refine get_iff rfl ?_; simp_all; done) | (refine get_false rfl ?_; first | omega | (simp_all; done)) | (refine get_true rfl ?_; first | omega | (simp_all; done)) | (refine get_bool rfl ?_; simp_all; done) | (refine get_iff rfl ⟨fun hh => ?_, fun hh => ?_⟩ <;> first | omega | (simp_all; done) | (simp_all; omega)) | (exfalso; omega))
        refine XK.if_ rfl (fun hin => ?_) (fun hin => ?_)
        ·
          refine XK.ownAt 1 rfl (by omega) ?_
          rintro ⟨gb, rfl⟩
          refine XK.openOwn 1 rfl fun cs hcl hct hnc hcm => ?_
          dsimp only [List.set]
          have hct1 : cs.take x.c.length = boolCells x.c := by simpa using hct

          refine XK.draw 6 (by kernel_rfl) (by kernel_rfl) ?_
          refine XA.dA 0 rfl rfl rfl (does_move rfl) ?_
          refine XA.dA 1 rfl rfl rfl (does_field (off := 1) (by kernel_rfl) rfl) ?_
          refine XA.dA 2 rfl rfl rfl (does_ld rfl) ?_
          refine XA.dA 3 rfl rfl rfl (does_field (off := 0) (by kernel_rfl) rfl) ?_
          refine XA.dA 4 rfl rfl rfl (does_ld rfl) ?_
          refine XA.next 5 rfl (by kernel_rfl) ?_
          refine xk_callR (f := 96) (fi := []) (ca := []) (by kernel_rfl) rfl rfl (by decide) (fun w1 st => on_any k w1) ?_
          refine XA.bk ?_
          refine XA.next 6 rfl (by kernel_rfl) ?_
          refine xk_at id.toNat id.toNat (el := 4) (sz := 1) (by kernel_rfl) (by kernel_rfl) rfl rfl (by omega) (by omega) (by omega) (by decide) ?_
          refine XA.bt ?_
          refine XA.next 7 rfl (by kernel_rfl) ?_
          refine xk_store 1 rfl (by kernel_rfl) rfl rfl rfl (by simp at hcl; omega) ?_; dsimp only [List.set]
          refine XA.bt ?_
          refine XA.done (by kernel_rfl) ?_
          refine XK.norm ?_
          refine XK.seq ?_
          refine XK.closeOwn 1 (n := x.c.length) (c := c1) (sz := 1) (xs := boolCells (setBL x.c id (decide (onB k)))) rfl (by simpa using hcl) (by rw [Nat.mul_one, ← boolCells_setB _ hin, ← hct1, List.take_set]) hnc hcm ?_
          dsimp only [List.set]

          refine XK.region ?_
          refine xk_ldN 6 rfl ?_
          (first | (refine xk_storeN 0 rfl rfl rfl (by kernel_rfl) (by simp [Value.cells, Value.oneCell']) (by simp [Value.cells]) ?_) | (refine xk_storeN 1 rfl rfl rfl (by kernel_rfl) (by simp [Value.cells, Value.oneCell']) (by simp [Value.cells]) ?_) | (refine xk_storeN 2 rfl rfl rfl (by kernel_rfl) (by simp [Value.cells, Value.oneCell']) (by simp [Value.cells]) ?_) | (refine xk_storeN 3 rfl rfl rfl (by kernel_rfl) (by simp [Value.cells, Value.oneCell']) (by simp [Value.cells]) ?_) | (refine xk_storeN 4 rfl rfl rfl (by kernel_rfl) (by simp [Value.cells, Value.oneCell']) (by simp [Value.cells]) ?_) | (refine xk_storeN 5 rfl rfl rfl (by kernel_rfl) (by simp [Value.cells, Value.oneCell']) (by simp [Value.cells]) ?_) | (refine xk_storeN 6 rfl rfl rfl (by kernel_rfl) (by simp [Value.cells, Value.oneCell']) (by simp [Value.cells]) ?_) | (refine xk_storeN 7 rfl rfl rfl (by kernel_rfl) (by simp [Value.cells, Value.oneCell']) (by simp [Value.cells]) ?_) | (refine xk_storeN 8 rfl rfl rfl (by kernel_rfl) (by simp [Value.cells, Value.oneCell']) (by simp [Value.cells]) ?_)); simp only [putN, Value.cells, List.set, List.take, List.drop, List.nil_append, List.append_nil, List.length_cons, List.length_nil, List.cons_append, Nat.reduceAdd]
          refine XK.nilN ?_
          refine XK.ret ?_
          refine XK.norm ?_
          have hdx : doneX x 0 k id = ⟨x.d, (setBL x.c id (decide (onB k))), x.l⟩ := by simp [doneX, setW, hk]
          have hdy : doneY y 0 k id = ⟨y.d, y.c, y.l⟩ := by simp [doneY, setW, hk]
          refine XK.still [] [0, 1, 2, 3, 4, 5] [6, 7, 8, 9] (by simp) rfl (by decide) (by decide) fun q hq _ hfr => ?_
          obtain ⟨F0, sf0, zf0⟩ := hq 0 _ (by simp) rfl
          obtain ⟨A0_, d0_, hB0, hs0⟩ := SlS.of_own (Y := q.Z) sf0 zf0
          injection hB0 with e1 e2 e3
          subst A0_
          obtain ⟨F1, sf1, zf1⟩ := hq 1 _ (by simp) rfl
          obtain ⟨A1_, d1_, hB1, hs1⟩ := SlS.of_own (Y := q.Z) sf1 zf1
          injection hB1 with e1 e2 e3
          subst A1_
          obtain ⟨F2, sf2, zf2⟩ := hq 2 _ (by simp) rfl
          obtain ⟨A2_, d2_, hB2, hs2⟩ := SlS.of_own (Y := q.Z) sf2 zf2
          injection hB2 with e1 e2 e3
          subst A2_
          obtain ⟨F3, sf3, zf3⟩ := hq 3 _ (by simp) rfl
          obtain ⟨A3_, d3_, hB3, hs3⟩ := SlS.of_own (Y := q.Z) sf3 zf3
          injection hB3 with e1 e2 e3
          subst A3_
          obtain ⟨F4, sf4, zf4⟩ := hq 4 _ (by simp) rfl
          obtain ⟨A4_, d4_, hB4, hs4⟩ := SlS.of_own (Y := q.Z) sf4 zf4
          injection hB4 with e1 e2 e3
          subst A4_
          obtain ⟨F5, sf5, zf5⟩ := hq 5 _ (by simp) rfl
          obtain ⟨A5_, d5_, hB5, hs5⟩ := SlS.of_own (Y := q.Z) sf5 zf5
          injection hB5 with e1 e2 e3
          subst A5_
          refine XK.retC rfl (n := 6) (vs := [.slice B0 x.d.length c0, .slice (some ⟨gb, 0, none⟩) x.c.length c1, .slice B2 x.l.length c2, .slice B3 y.d.length c3, .slice B4 y.c.length c4, .slice B5 y.l.length c5]) (by kernel_rfl) rfl rfl (RdN.whole 1 rfl) fun w1 st => ⟨⟨_, rfl, ?_⟩, st.below (by simp)⟩
          have hle := st.fresh_le (by simp) (hfr (by simp) (by simp))
          rw [show doneX x 0 k id = ⟨x.d, (setBL x.c id (decide (onB k))), x.l⟩ from hdx, show doneY y 0 k id = ⟨y.d, y.c, y.l⟩ from hdy]
          exact ⟨B0, c0, (some ⟨gb, 0, none⟩), c1, B2, c2, B3, c3, B4, c4, B5, c5, by simp only [setBL_len], SlS.le hs0 hle, SlS.le (p := q) (by dsimp only; rw [setBL_len]; exact hs1) hle, SlS.le hs2 hle, SlS.le hs3 hle, SlS.le hs4 hle, SlS.le hs5 hle⟩
        ·
          refine XK.skip ?_
          refine XK.norm ?_
          refine XK.seq ?_

          refine XK.region ?_
          refine xk_ldN 6 rfl ?_
          (first | (refine xk_storeN 0 rfl rfl rfl (by kernel_rfl) (by simp [Value.cells, Value.oneCell']) (by simp [Value.cells]) ?_) | (refine xk_storeN 1 rfl rfl rfl (by kernel_rfl) (by simp [Value.cells, Value.oneCell']) (by simp [Value.cells]) ?_) | (refine xk_storeN 2 rfl rfl rfl (by kernel_rfl) (by simp [Value.cells, Value.oneCell']) (by simp [Value.cells]) ?_) | (refine xk_storeN 3 rfl rfl rfl (by kernel_rfl) (by simp [Value.cells, Value.oneCell']) (by simp [Value.cells]) ?_) | (refine xk_storeN 4 rfl rfl rfl (by kernel_rfl) (by simp [Value.cells, Value.oneCell']) (by simp [Value.cells]) ?_) | (refine xk_storeN 5 rfl rfl rfl (by kernel_rfl) (by simp [Value.cells, Value.oneCell']) (by simp [Value.cells]) ?_) | (refine xk_storeN 6 rfl rfl rfl (by kernel_rfl) (by simp [Value.cells, Value.oneCell']) (by simp [Value.cells]) ?_) | (refine xk_storeN 7 rfl rfl rfl (by kernel_rfl) (by simp [Value.cells, Value.oneCell']) (by simp [Value.cells]) ?_) | (refine xk_storeN 8 rfl rfl rfl (by kernel_rfl) (by simp [Value.cells, Value.oneCell']) (by simp [Value.cells]) ?_)); simp only [putN, Value.cells, List.set, List.take, List.drop, List.nil_append, List.append_nil, List.length_cons, List.length_nil, List.cons_append, Nat.reduceAdd]
          refine XK.nilN ?_
          refine XK.ret ?_
          refine XK.norm ?_
          have hdx : doneX x 0 k id = x := by simp [doneX, setW, hk, setBL_out _ hin]
          have hdy : doneY y 0 k id = y := by simp [doneY, setW, hk, setBL_out _ hin]
          refine XK.still [] [0, 1, 2, 3, 4, 5] [6, 7, 8, 9] (by simp) rfl (by decide) (by decide) fun q hq _ hfr => ?_
          obtain ⟨F0, sf0, zf0⟩ := hq 0 _ (by simp) rfl
          obtain ⟨A0_, d0_, hB0, hs0⟩ := SlS.of_own (Y := q.Z) sf0 zf0
          injection hB0 with e1 e2 e3
          subst A0_
          obtain ⟨F1, sf1, zf1⟩ := hq 1 _ (by simp) rfl
          obtain ⟨A1_, d1_, hB1, hs1⟩ := SlS.of_own (Y := q.Z) sf1 zf1
          injection hB1 with e1 e2 e3
          subst A1_
          obtain ⟨F2, sf2, zf2⟩ := hq 2 _ (by simp) rfl
          obtain ⟨A2_, d2_, hB2, hs2⟩ := SlS.of_own (Y := q.Z) sf2 zf2
          injection hB2 with e1 e2 e3
          subst A2_
          obtain ⟨F3, sf3, zf3⟩ := hq 3 _ (by simp) rfl
          obtain ⟨A3_, d3_, hB3, hs3⟩ := SlS.of_own (Y := q.Z) sf3 zf3
          injection hB3 with e1 e2 e3
          subst A3_
          obtain ⟨F4, sf4, zf4⟩ := hq 4 _ (by simp) rfl
          obtain ⟨A4_, d4_, hB4, hs4⟩ := SlS.of_own (Y := q.Z) sf4 zf4
          injection hB4 with e1 e2 e3
          subst A4_
          obtain ⟨F5, sf5, zf5⟩ := hq 5 _ (by simp) rfl
          obtain ⟨A5_, d5_, hB5, hs5⟩ := SlS.of_own (Y := q.Z) sf5 zf5
          injection hB5 with e1 e2 e3
          subst A5_
          refine XK.retC rfl (n := 6) (vs := [.slice B0 x.d.length c0, .slice B1 x.c.length c1, .slice B2 x.l.length c2, .slice B3 y.d.length c3, .slice B4 y.c.length c4, .slice B5 y.l.length c5]) (by kernel_rfl) rfl rfl (RdN.whole 1 rfl) fun w1 st => ⟨⟨_, rfl, ?_⟩, st.below (by simp)⟩
          have hle := st.fresh_le (by simp) (hfr (by simp) (by simp))
          rw [show doneX x 0 k id = x from hdx, show doneY y 0 k id = y from hdy]
          exact ⟨B0, c0, B1, c1, B2, c2, B3, c3, B4, c4, B5, c5, rfl, SlS.le hs0 hle, SlS.le hs1 hle, SlS.le hs2 hle, SlS.le hs3 hle, SlS.le hs4 hle, SlS.le hs5 hle⟩
      · skip

        refine XK.draw 5 (by kernel_rfl) (by kernel_rfl) ?_
        refine XA.dA 0 rfl rfl rfl (does_move rfl) ?_
        refine XA.dA 1 rfl rfl rfl (does_field (off := 0) (by kernel_rfl) rfl) ?_
        refine XA.dA 2 rfl rfl rfl (does_atA 0 0 (n := 2) (el := 68) (sz := 3) (by kernel_rfl) (by kernel_rfl) rfl rfl (by omega) (by omega) (by omega)) ?_
        refine XA.dA 3 rfl rfl rfl (does_field (off := 0) (by kernel_rfl) rfl) ?_
        refine XA.dA 4 rfl rfl rfl (does_ld rfl) ?_
        refine XA.next 5 rfl (by kernel_rfl) ?_
        refine xk_callR (f := 179) (fi := []) (ca := []) (by kernel_rfl) rfl rfl (by decide) (v0 := .slice B2 x.l.length c2) (fun w1 st => (list_any g4 0 k (.slice B0 x.d.length c0) (.slice B1 x.c.length c1) (.slice B2 x.l.length c2) w1 (by simpa using (st.box (i := 6) rfl).at_ (j := 0) rfl) (by simpa using (st.box (i := 6) rfl).at_ (j := 1) rfl) (by simpa using (st.box (i := 6) rfl).at_ (j := 2) rfl)).mono fun _ _ h => Rt.conv h (by simp [listV, hk])) ?_
        refine XA.bt ?_
        refine XA.next 6 rfl (by kernel_rfl) ?_
        refine xk_assign rfl (by decide) ?_
        refine XA.bt ?_
        refine XA.done (by kernel_rfl) ?_
        refine XK.norm ?_
        refine XK.cutB 53 (0 ≤ id ∧ id < (x.l.length : Int)) ?_ ?_
        · skip

          refine XK.region ?_
          refine xk_field (off := 1) (by kernel_rfl) rfl (by decide) ?_
          refine xk_ld rfl ?_
          refine xk_geq rfl rfl (by decide) ?_
          refine xk_move rfl (by decide) ?_
          (first | refine xk_split (t := 47) rfl (fun hg => ?_) (fun hg => ?_) | refine xk_splitB (t := 47) rfl (fun hg => ?_) (fun hg => ?_))
          ·
            refine xk_guardT rfl rfl ?_; refine xk_field (off := 1) (by kernel_rfl) rfl (by decide) ?_
            refine xk_guardT rfl rfl ?_; refine xk_ld rfl ?_
            refine xk_guardT rfl rfl ?_; refine xk_move rfl (by decide) ?_
            refine xk_guardT rfl rfl ?_; refine xk_len (el := 4) (by kernel_rfl) rfl (by decide) ?_
            refine xk_guardT rfl rfl ?_; refine xk_lss rfl rfl (by decide) ?_
            (first | refine xk_pickT rfl rfl (by decide) ?_ | refine xk_pickF rfl rfl (by decide) ?_)
            refine XK.nilN ?_
            exact XK.meetB (by repeat (first | exact trivial | refine ⟨rfl, ?_⟩)) (by first | (refine get_iff rfl ?_; omega) | (refine get_iff rfl ?_; simp_all; done) | (refine get_false rfl ?_; first | omega | (simp_all; done)) | (refine get_true rfl ?_; first | omega | (simp_all; done)) | (refine get_bool rfl ?_; simp_all; done) | (refine get_iff rfl ⟨fun hh => ?_, fun hh => ?_⟩ <;> first | omega | (simp_all; done) | (simp_all; omega)) | (exfalso; omega))
          ·
            refine xk_guardF rfl rfl rfl (by decide) ?_
            refine xk_guardF rfl rfl rfl (by decide) ?_
            refine xk_guardF rfl rfl rfl (by decide) ?_
            refine xk_guardF rfl rfl rfl (by decide) ?_
            refine xk_guardF rfl rfl rfl (by decide) ?_
            (first | refine xk_pickT rfl rfl (by decide) ?_ | refine xk_pickF rfl rfl (by decide) ?_)
            refine XK.nilN ?_
            exact XK.meetB (by repeat (first | exact trivial | refine ⟨rfl, ?_⟩)) (by first | (refine get_iff rfl ?_; omega) | (refine get_iff rfl ?_; simp_all; done) | (refine get_false rfl ?_; first | omega | (simp_all; done)) | (refine get_true rfl ?_; first | omega | (simp_all; done)) | (refine get_bool rfl ?_; simp_all; done) | (refine get_iff rfl ⟨fun hh => ?_, fun hh => ?_⟩ <;> first | omega | (simp_all; done) | (simp_all; omega)) | (exfalso; omega))
        refine XK.if_ rfl (fun hin => ?_) (fun hin => ?_)
        ·
          refine XK.ownAt 2 rfl (by omega) ?_
          rintro ⟨gb, rfl⟩
          refine XK.openOwn 2 rfl fun cs hcl hct hnc hcm => ?_
          dsimp only [List.set]
          have hct1 : cs.take x.l.length = boolCells x.l := by simpa using hct

          refine XK.draw 6 (by kernel_rfl) (by kernel_rfl) ?_
          refine XA.dA 0 rfl rfl rfl (does_move rfl) ?_
          refine XA.dA 1 rfl rfl rfl (does_field (off := 1) (by kernel_rfl) rfl) ?_
          refine XA.dA 2 rfl rfl rfl (does_ld rfl) ?_
          refine XA.dA 3 rfl rfl rfl (does_field (off := 0) (by kernel_rfl) rfl) ?_
          refine XA.dA 4 rfl rfl rfl (does_ld rfl) ?_
          refine XA.next 5 rfl (by kernel_rfl) ?_
          refine xk_callR (f := 96) (fi := []) (ca := []) (by kernel_rfl) rfl rfl (by decide) (fun w1 st => on_any k w1) ?_
          refine XA.bk ?_
          refine XA.next 6 rfl (by kernel_rfl) ?_
          refine xk_at id.toNat id.toNat (el := 4) (sz := 1) (by kernel_rfl) (by kernel_rfl) rfl rfl (by omega) (by omega) (by omega) (by decide) ?_
          refine XA.bt ?_
          refine XA.next 7 rfl (by kernel_rfl) ?_
          refine xk_store 2 rfl (by kernel_rfl) rfl rfl rfl (by simp at hcl; omega) ?_; dsimp only [List.set]
          refine XA.bt ?_
          refine XA.done (by kernel_rfl) ?_
          refine XK.norm ?_
          refine XK.seq ?_
          refine XK.closeOwn 2 (n := x.l.length) (c := c2) (sz := 1) (xs := boolCells (setBL x.l id (decide (onB k)))) rfl (by simpa using hcl) (by rw [Nat.mul_one, ← boolCells_setB _ hin, ← hct1, List.take_set]) hnc hcm ?_
          dsimp only [List.set]

          refine XK.region ?_
          refine xk_ldN 6 rfl ?_
          (first | (refine xk_storeN 0 rfl rfl rfl (by kernel_rfl) (by simp [Value.cells, Value.oneCell']) (by simp [Value.cells]) ?_) | (refine xk_storeN 1 rfl rfl rfl (by kernel_rfl) (by simp [Value.cells, Value.oneCell']) (by simp [Value.cells]) ?_) | (refine xk_storeN 2 rfl rfl rfl (by kernel_rfl) (by simp [Value.cells, Value.oneCell']) (by simp [Value.cells]) ?_) | (refine xk_storeN 3 rfl rfl rfl (by kernel_rfl) (by simp [Value.cells, Value.oneCell']) (by simp [Value.cells]) ?_) | (refine xk_storeN 4 rfl rfl rfl (by kernel_rfl) (by simp [Value.cells, Value.oneCell']) (by simp [Value.cells]) ?_) | (refine xk_storeN 5 rfl rfl rfl (by kernel_rfl) (by simp [Value.cells, Value.oneCell']) (by simp [Value.cells]) ?_) | (refine xk_storeN 6 rfl rfl rfl (by kernel_rfl) (by simp [Value.cells, Value.oneCell']) (by simp [Value.cells]) ?_) | (refine xk_storeN 7 rfl rfl rfl (by kernel_rfl) (by simp [Value.cells, Value.oneCell']) (by simp [Value.cells]) ?_) | (refine xk_storeN 8 rfl rfl rfl (by kernel_rfl) (by simp [Value.cells, Value.oneCell']) (by simp [Value.cells]) ?_)); simp only [putN, Value.cells, List.set, List.take, List.drop, List.nil_append, List.append_nil, List.length_cons, List.length_nil, List.cons_append, Nat.reduceAdd]
          refine XK.nilN ?_
          refine XK.ret ?_
          refine XK.norm ?_
          have hdx : doneX x 0 k id = ⟨x.d, x.c, (setBL x.l id (decide (onB k)))⟩ := by simp [doneX, setW, hk]
          have hdy : doneY y 0 k id = ⟨y.d, y.c, y.l⟩ := by simp [doneY, setW, hk]
          refine XK.still [] [0, 1, 2, 3, 4, 5] [6, 7, 8, 9] (by simp) rfl (by decide) (by decide) fun q hq _ hfr => ?_
          obtain ⟨F0, sf0, zf0⟩ := hq 0 _ (by simp) rfl
          obtain ⟨A0_, d0_, hB0, hs0⟩ := SlS.of_own (Y := q.Z) sf0 zf0
          injection hB0 with e1 e2 e3
          subst A0_
          obtain ⟨F1, sf1, zf1⟩ := hq 1 _ (by simp) rfl
          obtain ⟨A1_, d1_, hB1, hs1⟩ := SlS.of_own (Y := q.Z) sf1 zf1
          injection hB1 with e1 e2 e3
          subst A1_
          obtain ⟨F2, sf2, zf2⟩ := hq 2 _ (by simp) rfl
          obtain ⟨A2_, d2_, hB2, hs2⟩ := SlS.of_own (Y := q.Z) sf2 zf2
          injection hB2 with e1 e2 e3
          subst A2_
          obtain ⟨F3, sf3, zf3⟩ := hq 3 _ (by simp) rfl
          obtain ⟨A3_, d3_, hB3, hs3⟩ := SlS.of_own (Y := q.Z) sf3 zf3
          injection hB3 with e1 e2 e3
          subst A3_
          obtain ⟨F4, sf4, zf4⟩ := hq 4 _ (by simp) rfl
          obtain ⟨A4_, d4_, hB4, hs4⟩ := SlS.of_own (Y := q.Z) sf4 zf4
          injection hB4 with e1 e2 e3
          subst A4_
          obtain ⟨F5, sf5, zf5⟩ := hq 5 _ (by simp) rfl
          obtain ⟨A5_, d5_, hB5, hs5⟩ := SlS.of_own (Y := q.Z) sf5 zf5
          injection hB5 with e1 e2 e3
          subst A5_
          refine XK.retC rfl (n := 6) (vs := [.slice B0 x.d.length c0, .slice B1 x.c.length c1, .slice (some ⟨gb, 0, none⟩) x.l.length c2, .slice B3 y.d.length c3, .slice B4 y.c.length c4, .slice B5 y.l.length c5]) (by kernel_rfl) rfl rfl (RdN.whole 1 rfl) fun w1 st => ⟨⟨_, rfl, ?_⟩, st.below (by simp)⟩
          have hle := st.fresh_le (by simp) (hfr (by simp) (by simp))
          rw [show doneX x 0 k id = ⟨x.d, x.c, (setBL x.l id (decide (onB k)))⟩ from hdx, show doneY y 0 k id = ⟨y.d, y.c, y.l⟩ from hdy]
          exact ⟨B0, c0, B1, c1, (some ⟨gb, 0, none⟩), c2, B3, c3, B4, c4, B5, c5, by simp only [setBL_len], SlS.le hs0 hle, SlS.le hs1 hle, SlS.le (p := q) (by dsimp only; rw [setBL_len]; exact hs2) hle, SlS.le hs3 hle, SlS.le hs4 hle, SlS.le hs5 hle⟩
        ·
          refine XK.skip ?_
          refine XK.norm ?_
          refine XK.seq ?_

          refine XK.region ?_
          refine xk_ldN 6 rfl ?_
          (first | (refine xk_storeN 0 rfl rfl rfl (by kernel_rfl) (by simp [Value.cells, Value.oneCell']) (by simp [Value.cells]) ?_) | (refine xk_storeN 1 rfl rfl rfl (by kernel_rfl) (by simp [Value.cells, Value.oneCell']) (by simp [Value.cells]) ?_) | (refine xk_storeN 2 rfl rfl rfl (by kernel_rfl) (by simp [Value.cells, Value.oneCell']) (by simp [Value.cells]) ?_) | (refine xk_storeN 3 rfl rfl rfl (by kernel_rfl) (by simp [Value.cells, Value.oneCell']) (by simp [Value.cells]) ?_) | (refine xk_storeN 4 rfl rfl rfl (by kernel_rfl) (by simp [Value.cells, Value.oneCell']) (by simp [Value.cells]) ?_) | (refine xk_storeN 5 rfl rfl rfl (by kernel_rfl) (by simp [Value.cells, Value.oneCell']) (by simp [Value.cells]) ?_) | (refine xk_storeN 6 rfl rfl rfl (by kernel_rfl) (by simp [Value.cells, Value.oneCell']) (by simp [Value.cells]) ?_) | (refine xk_storeN 7 rfl rfl rfl (by kernel_rfl) (by simp [Value.cells, Value.oneCell']) (by simp [Value.cells]) ?_) | (refine xk_storeN 8 rfl rfl rfl (by kernel_rfl) (by simp [Value.cells, Value.oneCell']) (by simp [Value.cells]) ?_)); simp only [putN, Value.cells, List.set, List.take, List.drop, List.nil_append, List.append_nil, List.length_cons, List.length_nil, List.cons_append, Nat.reduceAdd]
          refine XK.nilN ?_
          refine XK.ret ?_
          refine XK.norm ?_
          have hdx : doneX x 0 k id = x := by simp [doneX, setW, hk, setBL_out _ hin]
          have hdy : doneY y 0 k id = y := by simp [doneY, setW, hk, setBL_out _ hin]
          refine XK.still [] [0, 1, 2, 3, 4, 5] [6, 7, 8, 9] (by simp) rfl (by decide) (by decide) fun q hq _ hfr => ?_
          obtain ⟨F0, sf0, zf0⟩ := hq 0 _ (by simp) rfl
          obtain ⟨A0_, d0_, hB0, hs0⟩ := SlS.of_own (Y := q.Z) sf0 zf0
          injection hB0 with e1 e2 e3
          subst A0_
          obtain ⟨F1, sf1, zf1⟩ := hq 1 _ (by simp) rfl
          obtain ⟨A1_, d1_, hB1, hs1⟩ := SlS.of_own (Y := q.Z) sf1 zf1
          injection hB1 with e1 e2 e3
          subst A1_
          obtain ⟨F2, sf2, zf2⟩ := hq 2 _ (by simp) rfl
          obtain ⟨A2_, d2_, hB2, hs2⟩ := SlS.of_own (Y := q.Z) sf2 zf2
          injection hB2 with e1 e2 e3
          subst A2_
          obtain ⟨F3, sf3, zf3⟩ := hq 3 _ (by simp) rfl
          obtain ⟨A3_, d3_, hB3, hs3⟩ := SlS.of_own (Y := q.Z) sf3 zf3
          injection hB3 with e1 e2 e3
          subst A3_
          obtain ⟨F4, sf4, zf4⟩ := hq 4 _ (by simp) rfl
          obtain ⟨A4_, d4_, hB4, hs4⟩ := SlS.of_own (Y := q.Z) sf4 zf4
          injection hB4 with e1 e2 e3
          subst A4_
          obtain ⟨F5, sf5, zf5⟩ := hq 5 _ (by simp) rfl
          obtain ⟨A5_, d5_, hB5, hs5⟩ := SlS.of_own (Y := q.Z) sf5 zf5
          injection hB5 with e1 e2 e3
          subst A5_
          refine XK.retC rfl (n := 6) (vs := [.slice B0 x.d.length c0, .slice B1 x.c.length c1, .slice B2 x.l.length c2, .slice B3 y.d.length c3, .slice B4 y.c.length c4, .slice B5 y.l.length c5]) (by kernel_rfl) rfl rfl (RdN.whole 1 rfl) fun w1 st => ⟨⟨_, rfl, ?_⟩, st.below (by simp)⟩
          have hle := st.fresh_le (by simp) (hfr (by simp) (by simp))
          rw [show doneX x 0 k id = x from hdx, show doneY y 0 k id = y from hdy]
          exact ⟨B0, c0, B1, c1, B2, c2, B3, c3, B4, c4, B5, c5, rfl, SlS.le hs0 hle, SlS.le hs1 hle, SlS.le hs2 hle, SlS.le hs3 hle, SlS.le hs4 hle, SlS.le hs5 hle⟩
      · skip

        refine XK.draw 5 (by kernel_rfl) (by kernel_rfl) ?_
        refine XA.dA 0 rfl rfl rfl (does_move rfl) ?_
        refine XA.dA 1 rfl rfl rfl (does_field (off := 0) (by kernel_rfl) rfl) ?_
        refine XA.dA 2 rfl rfl rfl (does_atA 0 0 (n := 2) (el := 68) (sz := 3) (by kernel_rfl) (by kernel_rfl) rfl rfl (by omega) (by omega) (by omega)) ?_
        refine XA.dA 3 rfl rfl rfl (does_field (off := 0) (by kernel_rfl) rfl) ?_
        refine XA.dA 4 rfl rfl rfl (does_ld rfl) ?_
        refine XA.next 5 rfl (by kernel_rfl) ?_
        refine xk_callR (f := 179) (fi := []) (ca := []) (by kernel_rfl) rfl rfl (by decide) (v0 := .slice none 0 0) (fun w1 st => (list_any g4 0 k (.slice B0 x.d.length c0) (.slice B1 x.c.length c1) (.slice B2 x.l.length c2) w1 (by simpa using (st.box (i := 6) rfl).at_ (j := 0) rfl) (by simpa using (st.box (i := 6) rfl).at_ (j := 1) rfl) (by simpa using (st.box (i := 6) rfl).at_ (j := 2) rfl)).mono fun _ _ h => Rt.conv h (by simp [listV, hk])) ?_
        refine XA.bt ?_
        refine XA.next 6 rfl (by kernel_rfl) ?_
        refine xk_assign rfl (by decide) ?_
        refine XA.bt ?_
        refine XA.done (by kernel_rfl) ?_
        refine XK.norm ?_
        refine XK.cutB 53 (0 ≤ id ∧ id < (0 : Int)) ?_ ?_
        · skip

          refine XK.region ?_
          refine xk_field (off := 1) (by kernel_rfl) rfl (by decide) ?_
          refine xk_ld rfl ?_
          refine xk_geq rfl rfl (by decide) ?_
          refine xk_move rfl (by decide) ?_
          (first | refine xk_split (t := 47) rfl (fun hg => ?_) (fun hg => ?_) | refine xk_splitB (t := 47) rfl (fun hg => ?_) (fun hg => ?_))
          ·
            refine xk_guardT rfl rfl ?_; refine xk_field (off := 1) (by kernel_rfl) rfl (by decide) ?_
            refine xk_guardT rfl rfl ?_; refine xk_ld rfl ?_
            refine xk_guardT rfl rfl ?_; refine xk_move rfl (by decide) ?_
            refine xk_guardT rfl rfl ?_; refine xk_len (el := 4) (by kernel_rfl) rfl (by decide) ?_
            refine xk_guardT rfl rfl ?_; refine xk_lss rfl rfl (by decide) ?_
            (first | refine xk_pickT rfl rfl (by decide) ?_ | refine xk_pickF rfl rfl (by decide) ?_)
            refine XK.nilN ?_
            exact XK.meetB (by repeat (first | exact trivial | refine ⟨rfl, ?_⟩)) (by first | (refine get_iff rfl ?_; omega) | (refine get_iff rfl ?_; simp_all; done) | (refine get_false rfl ?_; first | omega | (simp_all; done)) | (refine get_true rfl ?_; first | omega | (simp_all; done)) | (refine get_bool rfl ?_; simp_all; done) | (refine get_iff rfl ⟨fun hh => ?_, fun hh => ?_⟩ <;> first | omega | (simp_all; done) | (simp_all; omega)) | (exfalso; omega))
          ·
            refine xk_guardF rfl rfl rfl (by decide) ?_
            refine xk_guardF rfl rfl rfl (by decide) ?_
            refine xk_guardF rfl rfl rfl (by decide) ?_
            refine xk_guardF rfl rfl rfl (by decide) ?_
            refine xk_guardF rfl rfl rfl (by decide) ?_
            (first | refine xk_pickT rfl rfl (by decide) ?_ | refine xk_pickF rfl rfl (by decide) ?_)
            refine XK.nilN ?_
            exact XK.meetB (by repeat (first | exact trivial | refine ⟨rfl, ?_⟩)) (by first | (refine get_iff rfl ?_; omega) | (refine get_iff rfl ?_; simp_all; done) | (refine get_false rfl ?_; first | omega | (simp_all; done)) | (refine get_true rfl ?_; first | omega | (simp_all; done)) | (refine get_bool rfl ?_; simp_all; done) | (refine get_iff rfl ⟨fun hh => ?_, fun hh => ?_⟩ <;> first | omega | (simp_all; done) | (simp_all; omega)) | (exfalso; omega))
        refine XK.if_ rfl (fun hin => ?_) (fun hin => ?_)
        ·
          exact absurd hin (by omega)
        ·
          refine XK.skip ?_
          refine XK.norm ?_
          refine XK.seq ?_

          refine XK.region ?_
          refine xk_ldN 6 rfl ?_
          (first | (refine xk_storeN 0 rfl rfl rfl (by kernel_rfl) (by simp [Value.cells, Value.oneCell']) (by simp [Value.cells]) ?_) | (refine xk_storeN 1 rfl rfl rfl (by kernel_rfl) (by simp [Value.cells, Value.oneCell']) (by simp [Value.cells]) ?_) | (refine xk_storeN 2 rfl rfl rfl (by kernel_rfl) (by simp [Value.cells, Value.oneCell']) (by simp [Value.cells]) ?_) | (refine xk_storeN 3 rfl rfl rfl (by kernel_rfl) (by simp [Value.cells, Value.oneCell']) (by simp [Value.cells]) ?_) | (refine xk_storeN 4 rfl rfl rfl (by kernel_rfl) (by simp [Value.cells, Value.oneCell']) (by simp [Value.cells]) ?_) | (refine xk_storeN 5 rfl rfl rfl (by kernel_rfl) (by simp [Value.cells, Value.oneCell']) (by simp [Value.cells]) ?_) | (refine xk_storeN 6 rfl rfl rfl (by kernel_rfl) (by simp [Value.cells, Value.oneCell']) (by simp [Value.cells]) ?_) | (refine xk_storeN 7 rfl rfl rfl (by kernel_rfl) (by simp [Value.cells, Value.oneCell']) (by simp [Value.cells]) ?_) | (refine xk_storeN 8 rfl rfl rfl (by kernel_rfl) (by simp [Value.cells, Value.oneCell']) (by simp [Value.cells]) ?_)); simp only [putN, Value.cells, List.set, List.take, List.drop, List.nil_append, List.append_nil, List.length_cons, List.length_nil, List.cons_append, Nat.reduceAdd]
          refine XK.nilN ?_
          refine XK.ret ?_
          refine XK.norm ?_
          have hdx : doneX x 0 k id = x := by simp [doneX, setW, hk]
          have hdy : doneY y 0 k id = y := by simp [doneY, setW, hk]
          refine XK.still [] [0, 1, 2, 3, 4, 5] [6, 7, 8, 9] (by simp) rfl (by decide) (by decide) fun q hq _ hfr => ?_
          obtain ⟨F0, sf0, zf0⟩ := hq 0 _ (by simp) rfl
          obtain ⟨A0_, d0_, hB0, hs0⟩ := SlS.of_own (Y := q.Z) sf0 zf0
          injection hB0 with e1 e2 e3
          subst A0_
          obtain ⟨F1, sf1, zf1⟩ := hq 1 _ (by simp) rfl
          obtain ⟨A1_, d1_, hB1, hs1⟩ := SlS.of_own (Y := q.Z) sf1 zf1
          injection hB1 with e1 e2 e3
          subst A1_
          obtain ⟨F2, sf2, zf2⟩ := hq 2 _ (by simp) rfl
          obtain ⟨A2_, d2_, hB2, hs2⟩ := SlS.of_own (Y := q.Z) sf2 zf2
          injection hB2 with e1 e2 e3
          subst A2_
          obtain ⟨F3, sf3, zf3⟩ := hq 3 _ (by simp) rfl
          obtain ⟨A3_, d3_, hB3, hs3⟩ := SlS.of_own (Y := q.Z) sf3 zf3
          injection hB3 with e1 e2 e3
          subst A3_
          obtain ⟨F4, sf4, zf4⟩ := hq 4 _ (by simp) rfl
          obtain ⟨A4_, d4_, hB4, hs4⟩ := SlS.of_own (Y := q.Z) sf4 zf4
          injection hB4 with e1 e2 e3
          subst A4_
          obtain ⟨F5, sf5, zf5⟩ := hq 5 _ (by simp) rfl
          obtain ⟨A5_, d5_, hB5, hs5⟩ := SlS.of_own (Y := q.Z) sf5 zf5
          injection hB5 with e1 e2 e3
          subst A5_
          refine XK.retC rfl (n := 6) (vs := [.slice B0 x.d.length c0, .slice B1 x.c.length c1, .slice B2 x.l.length c2, .slice B3 y.d.length c3, .slice B4 y.c.length c4, .slice B5 y.l.length c5]) (by kernel_rfl) rfl rfl (RdN.whole 1 rfl) fun w1 st => ⟨⟨_, rfl, ?_⟩, st.below (by simp)⟩
          have hle := st.fresh_le (by simp) (hfr (by simp) (by simp))
          rw [show doneX x 0 k id = x from hdx, show doneY y 0 k id = y from hdy]
          exact ⟨B0, c0, B1, c1, B2, c2, B3, c3, B4, c4, B5, c5, rfl, SlS.le hs0 hle, SlS.le hs1 hle, SlS.le hs2 hle, SlS.le hs3 hle, SlS.le hs4 hle, SlS.le hs5 hle⟩
    · rcases (by by_cases h0 : k = 117 ∨ k = 100 ∨ k = 107 <;> by_cases h1 : k = 99 ∨ k = 111 <;> by_cases h2 : k = 114 ∨ k = 97 <;> simp [h0, h1, h2] : (k = 117 ∨ k = 100 ∨ k = 107) ∨ ((¬ (k = 117 ∨ k = 100 ∨ k = 107)) ∧ (k = 99 ∨ k = 111)) ∨ ((¬ (k = 117 ∨ k = 100 ∨ k = 107)) ∧ (¬ (k = 99 ∨ k = 111)) ∧ (k = 114 ∨ k = 97)) ∨ ((¬ (k = 117 ∨ k = 100 ∨ k = 107)) ∧ (¬ (k = 99 ∨ k = 111)) ∧ (¬ (k = 114 ∨ k = 97)))) with hk | hk | hk | hk
      · skip

        refine XK.draw 5 (by kernel_rfl) (by kernel_rfl) ?_
        refine XA.dA 0 rfl rfl rfl (does_move rfl) ?_
        refine XA.dA 1 rfl rfl rfl (does_field (off := 0) (by kernel_rfl) rfl) ?_
        refine XA.dA 2 rfl rfl rfl (does_atA 1 3 (n := 2) (el := 68) (sz := 3) (by kernel_rfl) (by kernel_rfl) rfl rfl (by omega) (by omega) (by omega)) ?_
        refine XA.dA 3 rfl rfl rfl (does_field (off := 0) (by kernel_rfl) rfl) ?_
        refine XA.dA 4 rfl rfl rfl (does_ld rfl) ?_
        refine XA.next 5 rfl (by kernel_rfl) ?_
        refine xk_callR (f := 179) (fi := []) (ca := []) (by kernel_rfl) rfl rfl (by decide) (v0 := .slice B3 y.d.length c3) (fun w1 st => (list_any g4 3 k (.slice B3 y.d.length c3) (.slice B4 y.c.length c4) (.slice B5 y.l.length c5) w1 (by simpa using (st.box (i := 6) rfl).at_ (j := 3) rfl) (by simpa using (st.box (i := 6) rfl).at_ (j := 4) rfl) (by simpa using (st.box (i := 6) rfl).at_ (j := 5) rfl)).mono fun _ _ h => Rt.conv h (by simp [listV, hk])) ?_
        refine XA.bt ?_
        refine XA.next 6 rfl (by kernel_rfl) ?_
        refine xk_assign rfl (by decide) ?_
        refine XA.bt ?_
        refine XA.done (by kernel_rfl) ?_
        refine XK.norm ?_
        refine XK.cutB 53 (0 ≤ id ∧ id < (y.d.length : Int)) ?_ ?_
        · skip

          refine XK.region ?_
          refine xk_field (off := 1) (by kernel_rfl) rfl (by decide) ?_
          refine xk_ld rfl ?_
          refine xk_geq rfl rfl (by decide) ?_
          refine xk_move rfl (by decide) ?_
          (first | refine xk_split (t := 47) rfl (fun hg => ?_) (fun hg => ?_) | refine xk_splitB (t := 47) rfl (fun hg => ?_) (fun hg => ?_))
          ·
            refine xk_guardT rfl rfl ?_; refine xk_field (off := 1) (by kernel_rfl) rfl (by decide) ?_
            refine xk_guardT rfl rfl ?_; refine xk_ld rfl ?_
            refine xk_guardT rfl rfl ?_; refine xk_move rfl (by decide) ?_
            refine xk_guardT rfl rfl ?_; refine xk_len (el := 4) (by kernel_rfl) rfl (by decide) ?_
            refine xk_guardT rfl rfl ?_; refine xk_lss rfl rfl (by decide) ?_
            (first | refine xk_pickT rfl rfl (by decide) ?_ | refine xk_pickF rfl rfl (by decide) ?_)
            refine XK.nilN ?_
            exact XK.meetB (by repeat (first | exact trivial | refine ⟨rfl, ?_⟩)) (by first | (refine get_iff rfl ?_; omega) | (refine get_iff rfl ?_; simp_all; done) | (refine get_false rfl ?_; first | omega | (simp_all; done)) | (refine get_true rfl ?_; first | omega | (simp_all; done)) | (refine get_bool rfl ?_; simp_all; done) | (refine get_iff rfl ⟨fun hh => ?_, fun hh => ?_⟩ <;> first | omega | (simp_all; done) | (simp_all; omega)) | (exfalso; omega))
          ·
            refine xk_guardF rfl rfl rfl (by decide) ?_
            refine xk_guardF rfl rfl rfl (by decide) ?_
            refine xk_guardF rfl rfl rfl (by decide) ?_
            refine xk_guardF rfl rfl rfl (by decide) ?_
            refine xk_guardF rfl rfl rfl (by decide) ?_
            (first | refine xk_pickT rfl rfl (by decide) ?_ | refine xk_pickF rfl rfl (by decide) ?_)
            refine XK.nilN ?_
            exact XK.meetB (by repeat (first | exact trivial | refine ⟨rfl, ?_⟩)) (by first | (refine get_iff rfl ?_; omega) | (refine get_iff rfl ?_; simp_all; done) | (refine get_false rfl ?_; first | omega | (simp_all; done)) | (refine get_true rfl ?_; first | omega | (simp_all; done)) | (refine get_bool rfl ?_; simp_all; done) | (refine get_iff rfl ⟨fun hh => ?_, fun hh => ?_⟩ <;> first | omega | (simp_all; done) | (simp_all; omega)) | (exfalso; omega))
        refine XK.if_ rfl (fun hin => ?_) (fun hin => ?_)
        ·
          refine XK.ownAt 3 rfl (by omega) ?_
          rintro ⟨gb, rfl⟩
          refine XK.openOwn 3 rfl fun cs hcl hct hnc hcm => ?_
          dsimp only [List.set]
          have hct1 : cs.take y.d.length = boolCells y.d := by simpa using hct

          refine XK.draw 6 (by kernel_rfl) (by kernel_rfl) ?_
          refine XA.dA 0 rfl rfl rfl (does_move rfl) ?_
          refine XA.dA 1 rfl rfl rfl (does_field (off := 1) (by kernel_rfl) rfl) ?_
          refine XA.dA 2 rfl rfl rfl (does_ld rfl) ?_
          refine XA.dA 3 rfl rfl rfl (does_field (off := 0) (by kernel_rfl) rfl) ?_
          refine XA.dA 4 rfl rfl rfl (does_ld rfl) ?_
          refine XA.next 5 rfl (by kernel_rfl) ?_
          refine xk_callR (f := 96) (fi := []) (ca := []) (by kernel_rfl) rfl rfl (by decide) (fun w1 st => on_any k w1) ?_
          refine XA.bk ?_
          refine XA.next 6 rfl (by kernel_rfl) ?_
          refine xk_at id.toNat id.toNat (el := 4) (sz := 1) (by kernel_rfl) (by kernel_rfl) rfl rfl (by omega) (by omega) (by omega) (by decide) ?_
          refine XA.bt ?_
          refine XA.next 7 rfl (by kernel_rfl) ?_
          refine xk_store 3 rfl (by kernel_rfl) rfl rfl rfl (by simp at hcl; omega) ?_; dsimp only [List.set]
          refine XA.bt ?_
          refine XA.done (by kernel_rfl) ?_
          refine XK.norm ?_
          refine XK.seq ?_
          refine XK.closeOwn 3 (n := y.d.length) (c := c3) (sz := 1) (xs := boolCells (setBL y.d id (decide (onB k)))) rfl (by simpa using hcl) (by rw [Nat.mul_one, ← boolCells_setB _ hin, ← hct1, List.take_set]) hnc hcm ?_
          dsimp only [List.set]

          refine XK.region ?_
          refine xk_ldN 6 rfl ?_
          (first | (refine xk_storeN 0 rfl rfl rfl (by kernel_rfl) (by simp [Value.cells, Value.oneCell']) (by simp [Value.cells]) ?_) | (refine xk_storeN 1 rfl rfl rfl (by kernel_rfl) (by simp [Value.cells, Value.oneCell']) (by simp [Value.cells]) ?_) | (refine xk_storeN 2 rfl rfl rfl (by kernel_rfl) (by simp [Value.cells, Value.oneCell']) (by simp [Value.cells]) ?_) | (refine xk_storeN 3 rfl rfl rfl (by kernel_rfl) (by simp [Value.cells, Value.oneCell']) (by simp [Value.cells]) ?_) | (refine xk_storeN 4 rfl rfl rfl (by kernel_rfl) (by simp [Value.cells, Value.oneCell']) (by simp [Value.cells]) ?_) | (refine xk_storeN 5 rfl rfl rfl (by kernel_rfl) (by simp [Value.cells, Value.oneCell']) (by simp [Value.cells]) ?_) | (refine xk_storeN 6 rfl rfl rfl (by kernel_rfl) (by simp [Value.cells, Value.oneCell']) (by simp [Value.cells]) ?_) | (refine xk_storeN 7 rfl rfl rfl (by kernel_rfl) (by simp [Value.cells, Value.oneCell']) (by simp [Value.cells]) ?_) | (refine xk_storeN 8 rfl rfl rfl (by kernel_rfl) (by simp [Value.cells, Value.oneCell']) (by simp [Value.cells]) ?_)); simp only [putN, Value.cells, List.set, List.take, List.drop, List.nil_append, List.append_nil, List.length_cons, List.length_nil, List.cons_append, Nat.reduceAdd]
          refine XK.nilN ?_
          refine XK.ret ?_
          refine XK.norm ?_
          have hdx : doneX x 1 k id = ⟨x.d, x.c, x.l⟩ := by simp [doneX, setW, hk]
          have hdy : doneY y 1 k id = ⟨(setBL y.d id (decide (onB k))), y.c, y.l⟩ := by simp [doneY, setW, hk]
          refine XK.still [] [0, 1, 2, 3, 4, 5] [6, 7, 8, 9] (by simp) rfl (by decide) (by decide) fun q hq _ hfr => ?_
          obtain ⟨F0, sf0, zf0⟩ := hq 0 _ (by simp) rfl
          obtain ⟨A0_, d0_, hB0, hs0⟩ := SlS.of_own (Y := q.Z) sf0 zf0
          injection hB0 with e1 e2 e3
          subst A0_
          obtain ⟨F1, sf1, zf1⟩ := hq 1 _ (by simp) rfl
          obtain ⟨A1_, d1_, hB1, hs1⟩ := SlS.of_own (Y := q.Z) sf1 zf1
          injection hB1 with e1 e2 e3
          subst A1_
          obtain ⟨F2, sf2, zf2⟩ := hq 2 _ (by simp) rfl
          obtain ⟨A2_, d2_, hB2, hs2⟩ := SlS.of_own (Y := q.Z) sf2 zf2
          injection hB2 with e1 e2 e3
          subst A2_
          obtain ⟨F3, sf3, zf3⟩ := hq 3 _ (by simp) rfl
          obtain ⟨A3_, d3_, hB3, hs3⟩ := SlS.of_own (Y := q.Z) sf3 zf3
          injection hB3 with e1 e2 e3
          subst A3_
          obtain ⟨F4, sf4, zf4⟩ := hq 4 _ (by simp) rfl
          obtain ⟨A4_, d4_, hB4, hs4⟩ := SlS.of_own (Y := q.Z) sf4 zf4
          injection hB4 with e1 e2 e3
          subst A4_
          obtain ⟨F5, sf5, zf5⟩ := hq 5 _ (by simp) rfl
          obtain ⟨A5_, d5_, hB5, hs5⟩ := SlS.of_own (Y := q.Z) sf5 zf5
          injection hB5 with e1 e2 e3
          subst A5_
          refine XK.retC rfl (n := 6) (vs := [.slice B0 x.d.length c0, .slice B1 x.c.length c1, .slice B2 x.l.length c2, .slice (some ⟨gb, 0, none⟩) y.d.length c3, .slice B4 y.c.length c4, .slice B5 y.l.length c5]) (by kernel_rfl) rfl rfl (RdN.whole 1 rfl) fun w1 st => ⟨⟨_, rfl, ?_⟩, st.below (by simp)⟩
          have hle := st.fresh_le (by simp) (hfr (by simp) (by simp))
          rw [show doneX x 1 k id = ⟨x.d, x.c, x.l⟩ from hdx, show doneY y 1 k id = ⟨(setBL y.d id (decide (onB k))), y.c, y.l⟩ from hdy]
          exact ⟨B0, c0, B1, c1, B2, c2, (some ⟨gb, 0, none⟩), c3, B4, c4, B5, c5, by simp only [setBL_len], SlS.le hs0 hle, SlS.le hs1 hle, SlS.le hs2 hle, SlS.le (p := q) (by dsimp only; rw [setBL_len]; exact hs3) hle, SlS.le hs4 hle, SlS.le hs5 hle⟩
        ·
          refine XK.skip ?_
          refine XK.norm ?_
          refine XK.seq ?_

          refine XK.region ?_
          refine xk_ldN 6 rfl ?_
          (first | (refine xk_storeN 0 rfl rfl rfl (by kernel_rfl) (by simp [Value.cells, Value.oneCell']) (by simp [Value.cells]) ?_) | (refine xk_storeN 1 rfl rfl rfl (by kernel_rfl) (by simp [Value.cells, Value.oneCell']) (by simp [Value.cells]) ?_) | (refine xk_storeN 2 rfl rfl rfl (by kernel_rfl) (by simp [Value.cells, Value.oneCell']) (by simp [Value.cells]) ?_) | (refine xk_storeN 3 rfl rfl rfl (by kernel_rfl) (by simp [Value.cells, Value.oneCell']) (by simp [Value.cells]) ?_) | (refine xk_storeN 4 rfl rfl rfl (by kernel_rfl) (by simp [Value.cells, Value.oneCell']) (by simp [Value.cells]) ?_) | (refine xk_storeN 5 rfl rfl rfl (by kernel_rfl) (by simp [Value.cells, Value.oneCell']) (by simp [Value.cells]) ?_) | (refine xk_storeN 6 rfl rfl rfl (by kernel_rfl) (by simp [Value.cells, Value.oneCell']) (by simp [Value.cells]) ?_) | (refine xk_storeN 7 rfl rfl rfl (by kernel_rfl) (by simp [Value.cells, Value.oneCell']) (by simp [Value.cells]) ?_) | (refine xk_storeN 8 rfl rfl rfl (by kernel_rfl) (by simp [Value.cells, Value.oneCell']) (by simp [Value.cells]) ?_)); simp only [putN, Value.cells, List.set, List.take, List.drop, List.nil_append, List.append_nil, List.length_cons, List.length_nil, List.cons_append, Nat.reduceAdd]
          refine XK.nilN ?_
          refine XK.ret ?_
          refine XK.norm ?_
          have hdx : doneX x 1 k id = x := by simp [doneX, setW, hk, setBL_out _ hin]
          have hdy : doneY y 1 k id = y := by simp [doneY, setW, hk, setBL_out _ hin]
          refine XK.still [] [0, 1, 2, 3, 4, 5] [6, 7, 8, 9] (by simp) rfl (by decide) (by decide) fun q hq _ hfr => ?_
          obtain ⟨F0, sf0, zf0⟩ := hq 0 _ (by simp) rfl
          obtain ⟨A0_, d0_, hB0, hs0⟩ := SlS.of_own (Y := q.Z) sf0 zf0
          injection hB0 with e1 e2 e3
          subst A0_
          obtain ⟨F1, sf1, zf1⟩ := hq 1 _ (by simp) rfl
          obtain ⟨A1_, d1_, hB1, hs1⟩ := SlS.of_own (Y := q.Z) sf1 zf1
          injection hB1 with e1 e2 e3
          subst A1_
          obtain ⟨F2, sf2, zf2⟩ := hq 2 _ (by simp) rfl
          obtain ⟨A2_, d2_, hB2, hs2⟩ := SlS.of_own (Y := q.Z) sf2 zf2
          injection hB2 with e1 e2 e3
          subst A2_
          obtain ⟨F3, sf3, zf3⟩ := hq 3 _ (by simp) rfl
          obtain ⟨A3_, d3_, hB3, hs3⟩ := SlS.of_own (Y := q.Z) sf3 zf3
          injection hB3 with e1 e2 e3
          subst A3_
          obtain ⟨F4, sf4, zf4⟩ := hq 4 _ (by simp) rfl
          obtain ⟨A4_, d4_, hB4, hs4⟩ := SlS.of_own (Y := q.Z) sf4 zf4
          injection hB4 with e1 e2 e3
          subst A4_
          obtain ⟨F5, sf5, zf5⟩ := hq 5 _ (by simp) rfl
          obtain ⟨A5_, d5_, hB5, hs5⟩ := SlS.of_own (Y := q.Z) sf5 zf5
          injection hB5 with e1 e2 e3
          subst A5_
          refine XK.retC rfl (n := 6) (vs := [.slice B0 x.d.length c0, .slice B1 x.c.length c1, .slice B2 x.l.length c2, .slice B3 y.d.length c3, .slice B4 y.c.length c4, .slice B5 y.l.length c5]) (by kernel_rfl) rfl rfl (RdN.whole 1 rfl) fun w1 st => ⟨⟨_, rfl, ?_⟩, st.below (by simp)⟩
          have hle := st.fresh_le (by simp) (hfr (by simp) (by simp))
          rw [show doneX x 1 k id = x from hdx, show doneY y 1 k id = y from hdy]
          exact ⟨B0, c0, B1, c1, B2, c2, B3, c3, B4, c4, B5, c5, rfl, SlS.le hs0 hle, SlS.le hs1 hle, SlS.le hs2 hle, SlS.le hs3 hle, SlS.le hs4 hle, SlS.le hs5 hle⟩
      · skip

        refine XK.draw 5 (by kernel_rfl) (by kernel_rfl) ?_
        refine XA.dA 0 rfl rfl rfl (does_move rfl) ?_
        refine XA.dA 1 rfl rfl rfl (does_field (off := 0) (by kernel_rfl) rfl) ?_
        refine XA.dA 2 rfl rfl rfl (does_atA 1 3 (n := 2) (el := 68) (sz := 3) (by kernel_rfl) (by kernel_rfl) rfl rfl (by omega) (by omega) (by omega)) ?_
        refine XA.dA 3 rfl rfl rfl (does_field (off := 0) (by kernel_rfl) rfl) ?_
        refine XA.dA 4 rfl rfl rfl (does_ld rfl) ?_
        refine XA.next 5 rfl (by kernel_rfl) ?_
        refine xk_callR (f := 179) (fi := []) (ca := []) (by kernel_rfl) rfl rfl (by decide) (v0 := .slice B4 y.c.length c4) (fun w1 st => (list_any g4 3 k (.slice B3 y.d.length c3) (.slice B4 y.c.length c4) (.slice B5 y.l.length c5) w1 (by simpa using (st.box (i := 6) rfl).at_ (j := 3) rfl) (by simpa using (st.box (i := 6) rfl).at_ (j := 4) rfl) (by simpa using (st.box (i := 6) rfl).at_ (j := 5) rfl)).mono fun _ _ h => Rt.conv h (by simp [listV, hk])) ?_
        refine XA.bt ?_
        refine XA.next 6 rfl (by kernel_rfl) ?_
        refine xk_assign rfl (by decide) ?_
        refine XA.bt ?_
        refine XA.done (by kernel_rfl) ?_
        refine XK.norm ?_
        refine XK.cutB 53 (0 ≤ id ∧ id < (y.c.length : Int)) ?_ ?_
        · skip

          refine XK.region ?_
          refine xk_field (off := 1) (by kernel_rfl) rfl (by decide) ?_
          refine xk_ld rfl ?_
          refine xk_geq rfl rfl (by decide) ?_
          refine xk_move rfl (by decide) ?_
          (first | refine xk_split (t := 47) rfl (fun hg => ?_) (fun hg => ?_) | refine xk_splitB (t := 47) rfl (fun hg => ?_) (fun hg => ?_))
          ·
            refine xk_guardT rfl rfl ?_; refine xk_field (off := 1) (by kernel_rfl) rfl (by decide) ?_
            refine xk_guardT rfl rfl ?_; refine xk_ld rfl ?_
            refine xk_guardT rfl rfl ?_; refine xk_move rfl (by decide) ?_
            refine xk_guardT rfl rfl ?_; refine xk_len (el := 4) (by kernel_rfl) rfl (by decide) ?_
            refine xk_guardT rfl rfl ?_; refine xk_lss rfl rfl (by decide) ?_
            (first | refine xk_pickT rfl rfl (by decide) ?_ | refine xk_pickF rfl rfl (by decide) ?_)
            refine XK.nilN ?_
            exact XK.meetB (by repeat (first | exact trivial | refine ⟨rfl, ?_⟩)) (by first | (refine get_iff rfl ?_; omega) | (refine get_iff rfl ?_; simp_all; done) | (refine get_false rfl ?_; first | omega | (simp_all; done)) | (refine get_true rfl ?_; first | omega | (simp_all; done)) | (refine get_bool rfl ?_; simp_all; done) | (refine get_iff rfl ⟨fun hh => ?_, fun hh => ?_⟩ <;> first | omega | (simp_all; done) | (simp_all; omega)) | (exfalso; omega))
          ·
            refine xk_guardF rfl rfl rfl (by decide) ?_
            refine xk_guardF rfl rfl rfl (by decide) ?_
            refine xk_guardF rfl rfl rfl (by decide) ?_
            refine xk_guardF rfl rfl rfl (by decide) ?_
            refine xk_guardF rfl rfl rfl (by decide) ?_
            (first | refine xk_pickT rfl rfl (by decide) ?_ | refine xk_pickF rfl rfl (by decide) ?_)
            refine XK.nilN ?_
            exact XK.meetB (by repeat (first | exact trivial | refine ⟨rfl, ?_⟩)) (by first | (refine get_iff rfl ?_; omega) | (refine get_iff rfl ?_; simp_all; done) | (refine get_false rfl ?_; first | omega | (simp_all; done)) | (refine get_true rfl ?_; first | omega | (simp_all; done)) | (refine get_bool rfl ?_; simp_all; done) | (refine get_iff rfl ⟨fun hh => ?_, fun hh => ?_⟩ <;> first | omega | (simp_all; done) | (simp_all; omega)) | (exfalso; omega))
        refine XK.if_ rfl (fun hin => ?_) (fun hin => ?_)
        ·
          refine XK.ownAt 4 rfl (by omega) ?_
          rintro ⟨gb, rfl⟩
          refine XK.openOwn 4 rfl fun cs hcl hct hnc hcm => ?_
          dsimp only [List.set]
          have hct1 : cs.take y.c.length = boolCells y.c := by simpa using hct

          refine XK.draw 6 (by kernel_rfl) (by kernel_rfl) ?_
          refine XA.dA 0 rfl rfl rfl (does_move rfl) ?_
          refine XA.dA 1 rfl rfl rfl (does_field (off := 1) (by kernel_rfl) rfl) ?_
          refine XA.dA 2 rfl rfl rfl (does_ld rfl) ?_
          refine XA.dA 3 rfl rfl rfl (does_field (off := 0) (by kernel_rfl) rfl) ?_
          refine XA.dA 4 rfl rfl rfl (does_ld rfl) ?_
          refine XA.next 5 rfl (by kernel_rfl) ?_
          refine xk_callR (f := 96) (fi := []) (ca := []) (by kernel_rfl) rfl rfl (by decide) (fun w1 st => on_any k w1) ?_
          refine XA.bk ?_
          refine XA.next 6 rfl (by kernel_rfl) ?_
          refine xk_at id.toNat id.toNat (el := 4) (sz := 1) (by kernel_rfl) (by kernel_rfl) rfl rfl (by omega) (by omega) (by omega) (by decide) ?_
          refine XA.bt ?_
          refine XA.next 7 rfl (by kernel_rfl) ?_
          refine xk_store 4 rfl (by kernel_rfl) rfl rfl rfl (by simp at hcl; omega) ?_; dsimp only [List.set]
          refine XA.bt ?_
          refine XA.done (by kernel_rfl) ?_
          refine XK.norm ?_
          refine XK.seq ?_
          refine XK.closeOwn 4 (n := y.c.length) (c := c4) (sz := 1) (xs := boolCells (setBL y.c id (decide (onB k)))) rfl (by simpa using hcl) (by rw [Nat.mul_one, ← boolCells_setB _ hin, ← hct1, List.take_set]) hnc hcm ?_
          dsimp only [List.set]

          refine XK.region ?_
          refine xk_ldN 6 rfl ?_
          (first | (refine xk_storeN 0 rfl rfl rfl (by kernel_rfl) (by simp [Value.cells, Value.oneCell']) (by simp [Value.cells]) ?_) | (refine xk_storeN 1 rfl rfl rfl (by kernel_rfl) (by simp [Value.cells, Value.oneCell']) (by simp [Value.cells]) ?_) | (refine xk_storeN 2 rfl rfl rfl (by kernel_rfl) (by simp [Value.cells, Value.oneCell']) (by simp [Value.cells]) ?_) | (refine xk_storeN 3 rfl rfl rfl (by kernel_rfl) (by simp [Value.cells, Value.oneCell']) (by simp [Value.cells]) ?_) | (refine xk_storeN 4 rfl rfl rfl (by kernel_rfl) (by simp [Value.cells, Value.oneCell']) (by simp [Value.cells]) ?_) | (refine xk_storeN 5 rfl rfl rfl (by kernel_rfl) (by simp [Value.cells, Value.oneCell']) (by simp [Value.cells]) ?_) | (refine xk_storeN 6 rfl rfl rfl (by kernel_rfl) (by simp [Value.cells, Value.oneCell']) (by simp [Value.cells]) ?_) | (refine xk_storeN 7 rfl rfl rfl (by kernel_rfl) (by simp [Value.cells, Value.oneCell']) (by simp [Value.cells]) ?_) | (refine xk_storeN 8 rfl rfl rfl (by kernel_rfl) (by simp [Value.cells, Value.oneCell']) (by simp [Value.cells]) ?_)); simp only [putN, Value.cells, List.set, List.take, List.drop, List.nil_append, List.append_nil, List.length_cons, List.length_nil, List.cons_append, Nat.reduceAdd]
          refine XK.nilN ?_
          refine XK.ret ?_
          refine XK.norm ?_
          have hdx : doneX x 1 k id = ⟨x.d, x.c, x.l⟩ := by simp [doneX, setW, hk]
          have hdy : doneY y 1 k id = ⟨y.d, (setBL y.c id (decide (onB k))), y.l⟩ := by simp [doneY, setW, hk]
          refine XK.still [] [0, 1, 2, 3, 4, 5] [6, 7, 8, 9] (by simp) rfl (by decide) (by decide) fun q hq _ hfr => ?_
          obtain ⟨F0, sf0, zf0⟩ := hq 0 _ (by simp) rfl
          obtain ⟨A0_, d0_, hB0, hs0⟩ := SlS.of_own (Y := q.Z) sf0 zf0
          injection hB0 with e1 e2 e3
          subst A0_
          obtain ⟨F1, sf1, zf1⟩ := hq 1 _ (by simp) rfl
          obtain ⟨A1_, d1_, hB1, hs1⟩ := SlS.of_own (Y := q.Z) sf1 zf1
          injection hB1 with e1 e2 e3
          subst A1_
          obtain ⟨F2, sf2, zf2⟩ := hq 2 _ (by simp) rfl
          obtain ⟨A2_, d2_, hB2, hs2⟩ := SlS.of_own (Y := q.Z) sf2 zf2
          injection hB2 with e1 e2 e3
          subst A2_
          obtain ⟨F3, sf3, zf3⟩ := hq 3 _ (by simp) rfl
          obtain ⟨A3_, d3_, hB3, hs3⟩ := SlS.of_own (Y := q.Z) sf3 zf3
          injection hB3 with e1 e2 e3
          subst A3_
          obtain ⟨F4, sf4, zf4⟩ := hq 4 _ (by simp) rfl
          obtain ⟨A4_, d4_, hB4, hs4⟩ := SlS.of_own (Y := q.Z) sf4 zf4
          injection hB4 with e1 e2 e3
          subst A4_
          obtain ⟨F5, sf5, zf5⟩ := hq 5 _ (by simp) rfl
          obtain ⟨A5_, d5_, hB5, hs5⟩ := SlS.of_own (Y := q.Z) sf5 zf5
          injection hB5 with e1 e2 e3
          subst A5_
          refine XK.retC rfl (n := 6) (vs := [.slice B0 x.d.length c0, .slice B1 x.c.length c1, .slice B2 x.l.length c2, .slice B3 y.d.length c3, .slice (some ⟨gb, 0, none⟩) y.c.length c4, .slice B5 y.l.length c5]) (by kernel_rfl) rfl rfl (RdN.whole 1 rfl) fun w1 st => ⟨⟨_, rfl, ?_⟩, st.below (by simp)⟩
          have hle := st.fresh_le (by simp) (hfr (by simp) (by simp))
          rw [show doneX x 1 k id = ⟨x.d, x.c, x.l⟩ from hdx, show doneY y 1 k id = ⟨y.d, (setBL y.c id (decide (onB k))), y.l⟩ from hdy]
          exact ⟨B0, c0, B1, c1, B2, c2, B3, c3, (some ⟨gb, 0, none⟩), c4, B5, c5, by simp only [setBL_len], SlS.le hs0 hle, SlS.le hs1 hle, SlS.le hs2 hle, SlS.le hs3 hle, SlS.le (p := q) (by dsimp only; rw [setBL_len]; exact hs4) hle, SlS.le hs5 hle⟩
        ·
          refine XK.skip ?_
          refine XK.norm ?_
          refine XK.seq ?_

          refine XK.region ?_
          refine xk_ldN 6 rfl ?_
          (first | (refine xk_storeN 0 rfl rfl rfl (by kernel_rfl) (by simp [Value.cells, Value.oneCell']) (by simp [Value.cells]) ?_) | (refine xk_storeN 1 rfl rfl rfl (by kernel_rfl) (by simp [Value.cells, Value.oneCell']) (by simp [Value.cells]) ?_) | (refine xk_storeN 2 rfl rfl rfl (by kernel_rfl) (by simp [Value.cells, Value.oneCell']) (by simp [Value.cells]) ?_) | (refine xk_storeN 3 rfl rfl rfl (by kernel_rfl) (by simp [Value.cells, Value.oneCell']) (by simp [Value.cells]) ?_) | (refine xk_storeN 4 rfl rfl rfl (by kernel_rfl) (by simp [Value.cells, Value.oneCell']) (by simp [Value.cells]) ?_) | (refine xk_storeN 5 rfl rfl rfl (by kernel_rfl) (by simp [Value.cells, Value.oneCell']) (by simp [Value.cells]) ?_) | (refine xk_storeN 6 rfl rfl rfl (by kernel_rfl) (by simp [Value.cells, Value.oneCell']) (by simp [Value.cells]) ?_) | (refine xk_storeN 7 rfl rfl rfl (by kernel_rfl) (by simp [Value.cells, Value.oneCell']) (by simp [Value.cells]) ?_) | (refine xk_storeN 8 rfl rfl rfl (by kernel_rfl) (by simp [Value.cells, Value.oneCell']) (by simp [Value.cells]) ?_)); simp only [putN, Value.cells, List.set, List.take, List.drop, List.nil_append, List.append_nil, List.length_cons, List.length_nil, List.cons_append, Nat.reduceAdd]
          refine XK.nilN ?_
          refine XK.ret ?_
          refine XK.norm ?_
          have hdx : doneX x 1 k id = x := by simp [doneX, setW, hk, setBL_out _ hin]
          have hdy : doneY y 1 k id = y := by simp [doneY, setW, hk, setBL_out _ hin]
          refine XK.still [] [0, 1, 2, 3, 4, 5] [6, 7, 8, 9] (by simp) rfl (by decide) (by decide) fun q hq _ hfr => ?_
          obtain ⟨F0, sf0, zf0⟩ := hq 0 _ (by simp) rfl
          obtain ⟨A0_, d0_, hB0, hs0⟩ := SlS.of_own (Y := q.Z) sf0 zf0
          injection hB0 with e1 e2 e3
          subst A0_
          obtain ⟨F1, sf1, zf1⟩ := hq 1 _ (by simp) rfl
          obtain ⟨A1_, d1_, hB1, hs1⟩ := SlS.of_own (Y := q.Z) sf1 zf1
          injection hB1 with e1 e2 e3
          subst A1_
          obtain ⟨F2, sf2, zf2⟩ := hq 2 _ (by simp) rfl
          obtain ⟨A2_, d2_, hB2, hs2⟩ := SlS.of_own (Y := q.Z) sf2 zf2
          injection hB2 with e1 e2 e3
          subst A2_
          obtain ⟨F3, sf3, zf3⟩ := hq 3 _ (by simp) rfl
          obtain ⟨A3_, d3_, hB3, hs3⟩ := SlS.of_own (Y := q.Z) sf3 zf3
          injection hB3 with e1 e2 e3
          subst A3_
          obtain ⟨F4, sf4, zf4⟩ := hq 4 _ (by simp) rfl
          obtain ⟨A4_, d4_, hB4, hs4⟩ := SlS.of_own (Y := q.Z) sf4 zf4
          injection hB4 with e1 e2 e3
          subst A4_
          obtain ⟨F5, sf5, zf5⟩ := hq 5 _ (by simp) rfl
          obtain ⟨A5_, d5_, hB5, hs5⟩ := SlS.of_own (Y := q.Z) sf5 zf5
          injection hB5 with e1 e2 e3
          subst A5_
          refine XK.retC rfl (n := 6) (vs := [.slice B0 x.d.length c0, .slice B1 x.c.length c1, .slice B2 x.l.length c2, .slice B3 y.d.length c3, .slice B4 y.c.length c4, .slice B5 y.l.length c5]) (by kernel_rfl) rfl rfl (RdN.whole 1 rfl) fun w1 st => ⟨⟨_, rfl, ?_⟩, st.below (by simp)⟩
          have hle := st.fresh_le (by simp) (hfr (by simp) (by simp))
          rw [show doneX x 1 k id = x from hdx, show doneY y 1 k id = y from hdy]
          exact ⟨B0, c0, B1, c1, B2, c2, B3, c3, B4, c4, B5, c5, rfl, SlS.le hs0 hle, SlS.le hs1 hle, SlS.le hs2 hle, SlS.le hs3 hle, SlS.le hs4 hle, SlS.le hs5 hle⟩
      · skip

        refine XK.draw 5 (by kernel_rfl) (by kernel_rfl) ?_
        refine XA.dA 0 rfl rfl rfl (does_move rfl) ?_
        refine XA.dA 1 rfl rfl rfl (does_field (off := 0) (by kernel_rfl) rfl) ?_
        refine XA.dA 2 rfl rfl rfl (does_atA 1 3 (n := 2) (el := 68) (sz := 3) (by kernel_rfl) (by kernel_rfl) rfl rfl (by omega) (by omega) (by omega)) ?_
        refine XA.dA 3 rfl rfl rfl (does_field (off := 0) (by kernel_rfl) rfl) ?_
        refine XA.dA 4 rfl rfl rfl (does_ld rfl) ?_
        refine XA.next 5 rfl (by kernel_rfl) ?_
        refine xk_callR (f := 179) (fi := []) (ca := []) (by kernel_rfl) rfl rfl (by decide) (v0 := .slice B5 y.l.length c5) (fun w1 st => (list_any g4 3 k (.slice B3 y.d.length c3) (.slice B4 y.c.length c4) (.slice B5 y.l.length c5) w1 (by simpa using (st.box (i := 6) rfl).at_ (j := 3) rfl) (by simpa using (st.box (i := 6) rfl).at_ (j := 4) rfl) (by simpa using (st.box (i := 6) rfl).at_ (j := 5) rfl)).mono fun _ _ h => Rt.conv h (by simp [listV, hk])) ?_
        refine XA.bt ?_
        refine XA.next 6 rfl (by kernel_rfl) ?_
        refine xk_assign rfl (by decide) ?_
        refine XA.bt ?_
        refine XA.done (by kernel_rfl) ?_
        refine XK.norm ?_
        refine XK.cutB 53 (0 ≤ id ∧ id < (y.l.length : Int)) ?_ ?_
        · skip

          refine XK.region ?_
          refine xk_field (off := 1) (by kernel_rfl) rfl (by decide) ?_
          refine xk_ld rfl ?_
          refine xk_geq rfl rfl (by decide) ?_
          refine xk_move rfl (by decide) ?_
          (first | refine xk_split (t := 47) rfl (fun hg => ?_) (fun hg => ?_) | refine xk_splitB (t := 47) rfl (fun hg => ?_) (fun hg => ?_))
          ·
            refine xk_guardT rfl rfl ?_; refine xk_field (off := 1) (by kernel_rfl) rfl (by decide) ?_
            refine xk_guardT rfl rfl ?_; refine xk_ld rfl ?_
            refine xk_guardT rfl rfl ?_; refine xk_move rfl (by decide) ?_
            refine xk_guardT rfl rfl ?_; refine xk_len (el := 4) (by kernel_rfl) rfl (by decide) ?_
            refine xk_guardT rfl rfl ?_; refine xk_lss rfl rfl (by decide) ?_
            (first | refine xk_pickT rfl rfl (by decide) ?_ | refine xk_pickF rfl rfl (by decide) ?_)
            refine XK.nilN ?_
            exact XK.meetB (by repeat (first | exact trivial | refine ⟨rfl, ?_⟩)) (by first | (refine get_iff rfl ?_; omega) | (refine get_iff rfl ?_; simp_all; done) | (refine get_false rfl ?_; first | omega | (simp_all; done)) | (refine get_true rfl ?_; first | omega | (simp_all; done)) | (refine get_bool rfl ?_; simp_all; done) | (refine get_iff rfl ⟨fun hh => ?_, fun hh => ?_⟩ <;> first | omega | (simp_all; done) | (simp_all; omega)) | (exfalso; omega))
          ·
            refine xk_guardF rfl rfl rfl (by decide) ?_
            refine xk_guardF rfl rfl rfl (by decide) ?_
            refine xk_guardF rfl rfl rfl (by decide) ?_
            refine xk_guardF rfl rfl rfl (by decide) ?_
            refine xk_guardF rfl rfl rfl (by decide) ?_
            (first | refine xk_pickT rfl rfl (by decide) ?_ | refine xk_pickF rfl rfl (by decide) ?_)
            refine XK.nilN ?_
            exact XK.meetB (by repeat (first | exact trivial | refine ⟨rfl, ?_⟩)) (by first | (refine get_iff rfl ?_; omega) | (refine get_iff rfl ?_; simp_all; done) | (refine get_false rfl ?_; first | omega | (simp_all; done)) | (refine get_true rfl ?_; first | omega | (simp_all; done)) | (refine get_bool rfl ?_; simp_all; done) | (refine get_iff rfl ⟨fun hh => ?_, fun hh => ?_⟩ <;> first | omega | (simp_all; done) | (simp_all; omega)) | (exfalso; omega))
        refine XK.if_ rfl (fun hin => ?_) (fun hin => ?_)
        ·
          refine XK.ownAt 5 rfl (by omega) ?_
          rintro ⟨gb, rfl⟩
          refine XK.openOwn 5 rfl fun cs hcl hct hnc hcm => ?_
          dsimp only [List.set]
          have hct1 : cs.take y.l.length = boolCells y.l := by simpa using hct

          refine XK.draw 6 (by kernel_rfl) (by kernel_rfl) ?_
          refine XA.dA 0 rfl rfl rfl (does_move rfl) ?_
          refine XA.dA 1 rfl rfl rfl (does_field (off := 1) (by kernel_rfl) rfl) ?_
          refine XA.dA 2 rfl rfl rfl (does_ld rfl) ?_
          refine XA.dA 3 rfl rfl rfl (does_field (off := 0) (by kernel_rfl) rfl) ?_
          refine XA.dA 4 rfl rfl rfl (does_ld rfl) ?_
          refine XA.next 5 rfl (by kernel_rfl) ?_
          refine xk_callR (f := 96) (fi := []) (ca := []) (by kernel_rfl) rfl rfl (by decide) (fun w1 st => on_any k w1) ?_
          refine XA.bk ?_
          refine XA.next 6 rfl (by kernel_rfl) ?_
          refine xk_at id.toNat id.toNat (el := 4) (sz := 1) (by kernel_rfl) (by kernel_rfl) rfl rfl (by omega) (by omega) (by omega) (by decide) ?_
          refine XA.bt ?_
          refine XA.next 7 rfl (by kernel_rfl) ?_
          refine xk_store 5 rfl (by kernel_rfl) rfl rfl rfl (by simp at hcl; omega) ?_; dsimp only [List.set]
          refine XA.bt ?_
          refine XA.done (by kernel_rfl) ?_
          refine XK.norm ?_
          refine XK.seq ?_
          refine XK.closeOwn 5 (n := y.l.length) (c := c5) (sz := 1) (xs := boolCells (setBL y.l id (decide (onB k)))) rfl (by simpa using hcl) (by rw [Nat.mul_one, ← boolCells_setB _ hin, ← hct1, List.take_set]) hnc hcm ?_
          dsimp only [List.set]

          refine XK.region ?_
          refine xk_ldN 6 rfl ?_
          (first | (refine xk_storeN 0 rfl rfl rfl (by kernel_rfl) (by simp [Value.cells, Value.oneCell']) (by simp [Value.cells]) ?_) | (refine xk_storeN 1 rfl rfl rfl (by kernel_rfl) (by simp [Value.cells, Value.oneCell']) (by simp [Value.cells]) ?_) | (refine xk_storeN 2 rfl rfl rfl (by kernel_rfl) (by simp [Value.cells, Value.oneCell']) (by simp [Value.cells]) ?_) | (refine xk_storeN 3 rfl rfl rfl (by kernel_rfl) (by simp [Value.cells, Value.oneCell']) (by simp [Value.cells]) ?_) | (refine xk_storeN 4 rfl rfl rfl (by kernel_rfl) (by simp [Value.cells, Value.oneCell']) (by simp [Value.cells]) ?_) | (refine xk_storeN 5 rfl rfl rfl (by kernel_rfl) (by simp [Value.cells, Value.oneCell']) (by simp [Value.cells]) ?_) | (refine xk_storeN 6 rfl rfl rfl (by kernel_rfl) (by simp [Value.cells, Value.oneCell']) (by simp [Value.cells]) ?_) | (refine xk_storeN 7 rfl rfl rfl (by kernel_rfl) (by simp [Value.cells, Value.oneCell']) (by simp [Value.cells]) ?_) | (refine xk_storeN 8 rfl rfl rfl (by kernel_rfl) (by simp [Value.cells, Value.oneCell']) (by simp [Value.cells]) ?_)); simp only [putN, Value.cells, List.set, List.take, List.drop, List.nil_append, List.append_nil, List.length_cons, List.length_nil, List.cons_append, Nat.reduceAdd]
          refine XK.nilN ?_
          refine XK.ret ?_
          refine XK.norm ?_
          have hdx : doneX x 1 k id = ⟨x.d, x.c, x.l⟩ := by simp [doneX, setW, hk]
          have hdy : doneY y 1 k id = ⟨y.d, y.c, (setBL y.l id (decide (onB k)))⟩ := by simp [doneY, setW, hk]
          refine XK.still [] [0, 1, 2, 3, 4, 5] [6, 7, 8, 9] (by simp) rfl (by decide) (by decide) fun q hq _ hfr => ?_
          obtain ⟨F0, sf0, zf0⟩ := hq 0 _ (by simp) rfl
          obtain ⟨A0_, d0_, hB0, hs0⟩ := SlS.of_own (Y := q.Z) sf0 zf0
          injection hB0 with e1 e2 e3
          subst A0_
          obtain ⟨F1, sf1, zf1⟩ := hq 1 _ (by simp) rfl
          obtain ⟨A1_, d1_, hB1, hs1⟩ := SlS.of_own (Y := q.Z) sf1 zf1
          injection hB1 with e1 e2 e3
          subst A1_
          obtain ⟨F2, sf2, zf2⟩ := hq 2 _ (by simp) rfl
          obtain ⟨A2_, d2_, hB2, hs2⟩ := SlS.of_own (Y := q.Z) sf2 zf2
          injection hB2 with e1 e2 e3
          subst A2_
          obtain ⟨F3, sf3, zf3⟩ := hq 3 _ (by simp) rfl
          obtain ⟨A3_, d3_, hB3, hs3⟩ := SlS.of_own (Y := q.Z) sf3 zf3
          injection hB3 with e1 e2 e3
          subst A3_
          obtain ⟨F4, sf4, zf4⟩ := hq 4 _ (by simp) rfl
          obtain ⟨A4_, d4_, hB4, hs4⟩ := SlS.of_own (Y := q.Z) sf4 zf4
          injection hB4 with e1 e2 e3
          subst A4_
          obtain ⟨F5, sf5, zf5⟩ := hq 5 _ (by simp) rfl
          obtain ⟨A5_, d5_, hB5, hs5⟩ := SlS.of_own (Y := q.Z) sf5 zf5
          injection hB5 with e1 e2 e3
          subst A5_
          refine XK.retC rfl (n := 6) (vs := [.slice B0 x.d.length c0, .slice B1 x.c.length c1, .slice B2 x.l.length c2, .slice B3 y.d.length c3, .slice B4 y.c.length c4, .slice (some ⟨gb, 0, none⟩) y.l.length c5]) (by kernel_rfl) rfl rfl (RdN.whole 1 rfl) fun w1 st => ⟨⟨_, rfl, ?_⟩, st.below (by simp)⟩
          have hle := st.fresh_le (by simp) (hfr (by simp) (by simp))
          rw [show doneX x 1 k id = ⟨x.d, x.c, x.l⟩ from hdx, show doneY y 1 k id = ⟨y.d, y.c, (setBL y.l id (decide (onB k)))⟩ from hdy]
          exact ⟨B0, c0, B1, c1, B2, c2, B3, c3, B4, c4, (some ⟨gb, 0, none⟩), c5, by simp only [setBL_len], SlS.le hs0 hle, SlS.le hs1 hle, SlS.le hs2 hle, SlS.le hs3 hle, SlS.le hs4 hle, SlS.le (p := q) (by dsimp only; rw [setBL_len]; exact hs5) hle⟩
        ·
          refine XK.skip ?_
          refine XK.norm ?_
          refine XK.seq ?_

          refine XK.region ?_
          refine xk_ldN 6 rfl ?_
          (first | (refine xk_storeN 0 rfl rfl rfl (by kernel_rfl) (by simp [Value.cells, Value.oneCell']) (by simp [Value.cells]) ?_) | (refine xk_storeN 1 rfl rfl rfl (by kernel_rfl) (by simp [Value.cells, Value.oneCell']) (by simp [Value.cells]) ?_) | (refine xk_storeN 2 rfl rfl rfl (by kernel_rfl) (by simp [Value.cells, Value.oneCell']) (by simp [Value.cells]) ?_) | (refine xk_storeN 3 rfl rfl rfl (by kernel_rfl) (by simp [Value.cells, Value.oneCell']) (by simp [Value.cells]) ?_) | (refine xk_storeN 4 rfl rfl rfl (by kernel_rfl) (by simp [Value.cells, Value.oneCell']) (by simp [Value.cells]) ?_) | (refine xk_storeN 5 rfl rfl rfl (by kernel_rfl) (by simp [Value.cells, Value.oneCell']) (by simp [Value.cells]) ?_) | (refine xk_storeN 6 rfl rfl rfl (by kernel_rfl) (by simp [Value.cells, Value.oneCell']) (by simp [Value.cells]) ?_) | (refine xk_storeN 7 rfl rfl rfl (by kernel_rfl) (by simp [Value.cells, Value.oneCell']) (by simp [Value.cells]) ?_) | (refine xk_storeN 8 rfl rfl rfl (by kernel_rfl) (by simp [Value.cells, Value.oneCell']) (by simp [Value.cells]) ?_)); simp only [putN, Value.cells, List.set, List.take, List.drop, List.nil_append, List.append_nil, List.length_cons, List.length_nil, List.cons_append, Nat.reduceAdd]
          refine XK.nilN ?_
          refine XK.ret ?_
          refine XK.norm ?_
          have hdx : doneX x 1 k id = x := by simp [doneX, setW, hk, setBL_out _ hin]
          have hdy : doneY y 1 k id = y := by simp [doneY, setW, hk, setBL_out _ hin]
          refine XK.still [] [0, 1, 2, 3, 4, 5] [6, 7, 8, 9] (by simp) rfl (by decide) (by decide) fun q hq _ hfr => ?_
          obtain ⟨F0, sf0, zf0⟩ := hq 0 _ (by simp) rfl
          obtain ⟨A0_, d0_, hB0, hs0⟩ := SlS.of_own (Y := q.Z) sf0 zf0
          injection hB0 with e1 e2 e3
          subst A0_
          obtain ⟨F1, sf1, zf1⟩ := hq 1 _ (by simp) rfl
          obtain ⟨A1_, d1_, hB1, hs1⟩ := SlS.of_own (Y := q.Z) sf1 zf1
          injection hB1 with e1 e2 e3
          subst A1_
          obtain ⟨F2, sf2, zf2⟩ := hq 2 _ (by simp) rfl
          obtain ⟨A2_, d2_, hB2, hs2⟩ := SlS.of_own (Y := q.Z) sf2 zf2
          injection hB2 with e1 e2 e3
          subst A2_
          obtain ⟨F3, sf3, zf3⟩ := hq 3 _ (by simp) rfl
          obtain ⟨A3_, d3_, hB3, hs3⟩ := SlS.of_own (Y := q.Z) sf3 zf3
          injection hB3 with e1 e2 e3
          subst A3_
          obtain ⟨F4, sf4, zf4⟩ := hq 4 _ (by simp) rfl
          obtain ⟨A4_, d4_, hB4, hs4⟩ := SlS.of_own (Y := q.Z) sf4 zf4
          injection hB4 with e1 e2 e3
          subst A4_
          obtain ⟨F5, sf5, zf5⟩ := hq 5 _ (by simp) rfl
          obtain ⟨A5_, d5_, hB5, hs5⟩ := SlS.of_own (Y := q.Z) sf5 zf5
          injection hB5 with e1 e2 e3
          subst A5_
          refine XK.retC rfl (n := 6) (vs := [.slice B0 x.d.length c0, .slice B1 x.c.length c1, .slice B2 x.l.length c2, .slice B3 y.d.length c3, .slice B4 y.c.length c4, .slice B5 y.l.length c5]) (by kernel_rfl) rfl rfl (RdN.whole 1 rfl) fun w1 st => ⟨⟨_, rfl, ?_⟩, st.below (by simp)⟩
          have hle := st.fresh_le (by simp) (hfr (by simp) (by simp))
          rw [show doneX x 1 k id = x from hdx, show doneY y 1 k id = y from hdy]
          exact ⟨B0, c0, B1, c1, B2, c2, B3, c3, B4, c4, B5, c5, rfl, SlS.le hs0 hle, SlS.le hs1 hle, SlS.le hs2 hle, SlS.le hs3 hle, SlS.le hs4 hle, SlS.le hs5 hle⟩
      · skip

        refine XK.draw 5 (by kernel_rfl) (by kernel_rfl) ?_
        refine XA.dA 0 rfl rfl rfl (does_move rfl) ?_
        refine XA.dA 1 rfl rfl rfl (does_field (off := 0) (by kernel_rfl) rfl) ?_
        refine XA.dA 2 rfl rfl rfl (does_atA 1 3 (n := 2) (el := 68) (sz := 3) (by kernel_rfl) (by kernel_rfl) rfl rfl (by omega) (by omega) (by omega)) ?_
        refine XA.dA 3 rfl rfl rfl (does_field (off := 0) (by kernel_rfl) rfl) ?_
        refine XA.dA 4 rfl rfl rfl (does_ld rfl) ?_
        refine XA.next 5 rfl (by kernel_rfl) ?_
        refine xk_callR (f := 179) (fi := []) (ca := []) (by kernel_rfl) rfl rfl (by decide) (v0 := .slice none 0 0) (fun w1 st => (list_any g4 3 k (.slice B3 y.d.length c3) (.slice B4 y.c.length c4) (.slice B5 y.l.length c5) w1 (by simpa using (st.box (i := 6) rfl).at_ (j := 3) rfl) (by simpa using (st.box (i := 6) rfl).at_ (j := 4) rfl) (by simpa using (st.box (i := 6) rfl).at_ (j := 5) rfl)).mono fun _ _ h => Rt.conv h (by simp [listV, hk])) ?_
        refine XA.bt ?_
        refine XA.next 6 rfl (by kernel_rfl) ?_
        refine xk_assign rfl (by decide) ?_
        refine XA.bt ?_
        refine XA.done (by kernel_rfl) ?_
        refine XK.norm ?_
        refine XK.cutB 53 (0 ≤ id ∧ id < (0 : Int)) ?_ ?_
        · skip

          refine XK.region ?_
          refine xk_field (off := 1) (by kernel_rfl) rfl (by decide) ?_
          refine xk_ld rfl ?_
          refine xk_geq rfl rfl (by decide) ?_
          refine xk_move rfl (by decide) ?_
          (first | refine xk_split (t := 47) rfl (fun hg => ?_) (fun hg => ?_) | refine xk_splitB (t := 47) rfl (fun hg => ?_) (fun hg => ?_))
          ·
            refine xk_guardT rfl rfl ?_; refine xk_field (off := 1) (by kernel_rfl) rfl (by decide) ?_
            refine xk_guardT rfl rfl ?_; refine xk_ld rfl ?_
            refine xk_guardT rfl rfl ?_; refine xk_move rfl (by decide) ?_
            refine xk_guardT rfl rfl ?_; refine xk_len (el := 4) (by kernel_rfl) rfl (by decide) ?_
            refine xk_guardT rfl rfl ?_; refine xk_lss rfl rfl (by decide) ?_
            (first | refine xk_pickT rfl rfl (by decide) ?_ | refine xk_pickF rfl rfl (by decide) ?_)
            refine XK.nilN ?_
            exact XK.meetB (by repeat (first | exact trivial | refine ⟨rfl, ?_⟩)) (by first | (refine get_iff rfl ?_; omega) | (refine get_iff rfl ?_; simp_all; done) | (refine get_false rfl ?_; first | omega | (simp_all; done)) | (refine get_true rfl ?_; first | omega | (simp_all; done)) | (refine get_bool rfl ?_; simp_all; done) | (refine get_iff rfl ⟨fun hh => ?_, fun hh => ?_⟩ <;> first | omega | (simp_all; done) | (simp_all; omega)) | (exfalso; omega))
          ·
            refine xk_guardF rfl rfl rfl (by decide) ?_
            refine xk_guardF rfl rfl rfl (by decide) ?_
            refine xk_guardF rfl rfl rfl (by decide) ?_
            refine xk_guardF rfl rfl rfl (by decide) ?_
            refine xk_guardF rfl rfl rfl (by decide) ?_
            (first | refine xk_pickT rfl rfl (by decide) ?_ | refine xk_pickF rfl rfl (by decide) ?_)
            refine XK.nilN ?_
            exact XK.meetB (by repeat (first | exact trivial | refine ⟨rfl, ?_⟩)) (by first | (refine get_iff rfl ?_; omega) | (refine get_iff rfl ?_; simp_all; done) | (refine get_false rfl ?_; first | omega | (simp_all; done)) | (refine get_true rfl ?_; first | omega | (simp_all; done)) | (refine get_bool rfl ?_; simp_all; done) | (refine get_iff rfl ⟨fun hh => ?_, fun hh => ?_⟩ <;> first | omega | (simp_all; done) | (simp_all; omega)) | (exfalso; omega))
        refine XK.if_ rfl (fun hin => ?_) (fun hin => ?_)
        ·
          exact absurd hin (by omega)
        ·
          refine XK.skip ?_
          refine XK.norm ?_
          refine XK.seq ?_

          refine XK.region ?_
          refine xk_ldN 6 rfl ?_
          (first | (refine xk_storeN 0 rfl rfl rfl (by kernel_rfl) (by simp [Value.cells, Value.oneCell']) (by simp [Value.cells]) ?_) | (refine xk_storeN 1 rfl rfl rfl (by kernel_rfl) (by simp [Value.cells, Value.oneCell']) (by simp [Value.cells]) ?_) | (refine xk_storeN 2 rfl rfl rfl (by kernel_rfl) (by simp [Value.cells, Value.oneCell']) (by simp [Value.cells]) ?_) | (refine xk_storeN 3 rfl rfl rfl (by kernel_rfl) (by simp [Value.cells, Value.oneCell']) (by simp [Value.cells]) ?_) | (refine xk_storeN 4 rfl rfl rfl (by kernel_rfl) (by simp [Value.cells, Value.oneCell']) (by simp [Value.cells]) ?_) | (refine xk_storeN 5 rfl rfl rfl (by kernel_rfl) (by simp [Value.cells, Value.oneCell']) (by simp [Value.cells]) ?_) | (refine xk_storeN 6 rfl rfl rfl (by kernel_rfl) (by simp [Value.cells, Value.oneCell']) (by simp [Value.cells]) ?_) | (refine xk_storeN 7 rfl rfl rfl (by kernel_rfl) (by simp [Value.cells, Value.oneCell']) (by simp [Value.cells]) ?_) | (refine xk_storeN 8 rfl rfl rfl (by kernel_rfl) (by simp [Value.cells, Value.oneCell']) (by simp [Value.cells]) ?_)); simp only [putN, Value.cells, List.set, List.take, List.drop, List.nil_append, List.append_nil, List.length_cons, List.length_nil, List.cons_append, Nat.reduceAdd]
          refine XK.nilN ?_
          refine XK.ret ?_
          refine XK.norm ?_
          have hdx : doneX x 1 k id = x := by simp [doneX, setW, hk]
          have hdy : doneY y 1 k id = y := by simp [doneY, setW, hk]
          refine XK.still [] [0, 1, 2, 3, 4, 5] [6, 7, 8, 9] (by simp) rfl (by decide) (by decide) fun q hq _ hfr => ?_
          obtain ⟨F0, sf0, zf0⟩ := hq 0 _ (by simp) rfl
          obtain ⟨A0_, d0_, hB0, hs0⟩ := SlS.of_own (Y := q.Z) sf0 zf0
          injection hB0 with e1 e2 e3
          subst A0_
          obtain ⟨F1, sf1, zf1⟩ := hq 1 _ (by simp) rfl
          obtain ⟨A1_, d1_, hB1, hs1⟩ := SlS.of_own (Y := q.Z) sf1 zf1
          injection hB1 with e1 e2 e3
          subst A1_
          obtain ⟨F2, sf2, zf2⟩ := hq 2 _ (by simp) rfl
          obtain ⟨A2_, d2_, hB2, hs2⟩ := SlS.of_own (Y := q.Z) sf2 zf2
          injection hB2 with e1 e2 e3
          subst A2_
          obtain ⟨F3, sf3, zf3⟩ := hq 3 _ (by simp) rfl
          obtain ⟨A3_, d3_, hB3, hs3⟩ := SlS.of_own (Y := q.Z) sf3 zf3
          injection hB3 with e1 e2 e3
          subst A3_
          obtain ⟨F4, sf4, zf4⟩ := hq 4 _ (by simp) rfl
          obtain ⟨A4_, d4_, hB4, hs4⟩ := SlS.of_own (Y := q.Z) sf4 zf4
          injection hB4 with e1 e2 e3
          subst A4_
          obtain ⟨F5, sf5, zf5⟩ := hq 5 _ (by simp) rfl
          obtain ⟨A5_, d5_, hB5, hs5⟩ := SlS.of_own (Y := q.Z) sf5 zf5
          injection hB5 with e1 e2 e3
          subst A5_
          refine XK.retC rfl (n := 6) (vs := [.slice B0 x.d.length c0, .slice B1 x.c.length c1, .slice B2 x.l.length c2, .slice B3 y.d.length c3, .slice B4 y.c.length c4, .slice B5 y.l.length c5]) (by kernel_rfl) rfl rfl (RdN.whole 1 rfl) fun w1 st => ⟨⟨_, rfl, ?_⟩, st.below (by simp)⟩
          have hle := st.fresh_le (by simp) (hfr (by simp) (by simp))
          rw [show doneX x 1 k id = x from hdx, show doneY y 1 k id = y from hdy]
          exact ⟨B0, c0, B1, c1, B2, c2, B3, c3, B4, c4, B5, c5, rfl, SlS.le hs0 hle, SlS.le hs1 hle, SlS.le hs2 hle, SlS.le hs3 hle, SlS.le hs4 hle, SlS.le hs5 hle⟩

end Go.Proofs.YticjkhagldkejaaGreatDoor
/- package firm: take. -/
namespace Go.Proofs.YticjkhagldkejaaGreatDoor
set_option linter.all false
set_option maxHeartbeats 4000000
set_option maxRecDepth 20000
open Go.RowKit
section
variable {P : Program} {N : Frm} {w0 w : World} {e : Env} {R : List Piece} {H : List HP} {K : Act → World → Prop} {f h : Nat} {L : FmL} {s : Soc} {z : FmS} {Q : Exit → Act → World → Prop}
theorem XK.cutT {y : Code} {x : Code} (M : Env → List Piece → List HP → Prop) (h : XK N w0 (x.wp P (Exit.then (fun a' w' => ∃ e' R' H', M e' R' H' ∧ Rep N e' a' ∧ St w0 R' H' w') Q)) e R H)
  (hy : ∀ e' R' H', M e' R' H' → XK N w0 (y.wp P Q) e' R' H') : XK N w0 (x.wp P (Exit.then (y.wp P Q) Q)) e R H := fun a w hr st =>
 wp_mono (h a w hr st) fun x a' w' hq => by
  cases x with
  | normal =>
   obtain ⟨e', R', H', hm, hr', st'⟩ := hq
   exact hy e' R' H' hm a' w' hr' st'
  | _ => exact hq
theorem Rd.firm (i : Nat) {o : Nat} {v : Value} (hi : H[i]? = some (FirmH f h L s z)) (hv : (fmC h L s z)[o]? = some v) : Rd w0 R H f o v := fun w t => by
 have := ((t.firmR i hi).r0.at_ hv).2
 rwa [Nat.zero_add] at this
theorem RdN.firm (i : Nat) {o : Nat} {vs : List Value} (hi : H[i]? = some (FirmH f h L s z)) (hv : ((fmC h L s z).drop o).take vs.length = vs) : RdN w0 R H f o vs := .of fun _ _ hj => Rd.firm i hi (cell_mid hv hj)
end
def bxA (L : FmL) (b : Nat) : AC := if b = 0 then L.b0 else L.b1
section
variable {h : Nat} {L : FmL} {s : Soc} {z : FmS}
theorem fmC_has {b : Nat} (hb : b < 2) : (fmC h L s z)[11 + b * 2]? = some (.int .i64 (hasB' z b)) := by
 obtain rfl | rfl : b = 0 ∨ b = 1 := by omega
 ·rfl
 ·rfl
theorem fmC_box {b : Nat} (hb : b < 2) : (fmC h L s z)[12 + b * 2]? = some (.slice (bxA L b).1 (boxW z b).length (bxA L b).2) := by
 obtain rfl | rfl : b = 0 ∨ b = 1 := by omega
 ·rfl
 ·rfl
theorem FirmR.box {w : World} {f : Nat} (k : FirmR w f h L s z) {b : Nat} (hb : b < 2) : SlS (all w) 1 (bxA L b).1 (boxW z b).length (u32Cells (boxW z b)) := by
 obtain rfl | rfl : b = 0 ∨ b = 1 := by omega
 ·exact k.b0
 ·exact k.b1
theorem FirmR.stR {w : World} {f : Nat} (k : FirmR w f h L s z) : StR (all w) z.x z.y (.agg #[.slice L.x1.1 z.x.d.length L.x1.2, .slice L.x2.1 z.x.c.length L.x2.2, .slice L.x3.1 z.x.l.length L.x3.2, .slice L.y1.1 z.y.d.length L.y1.2, .slice L.y2.1 z.y.c.length L.y2.2, .slice L.y3.1 z.y.l.length L.y3.2]) :=
 ⟨_, _, _, _, _, _, _, _, _, _, _, _, rfl, k.st.1, k.st.2.1, k.st.2.2.1, k.st.2.2.2.1, k.st.2.2.2.2.1, k.st.2.2.2.2.2⟩
end
structure FmOk (s : Soc) (z : FmS) : Prop where
 la : z.last = 0 ∨ z.last = 1
 u0 : U32s z.w0
 u1 : U32s z.w1
 n0 : z.w0.length ≤ 1000000
 n1 : z.w1.length ≤ 1000000
 sx : z.x.sm
 sy : z.y.sm
theorem FmOk.box {s : Soc} {z : FmS} (h : FmOk s z) (b : Nat) : U32s (boxW z b) ∧ (boxW z b).length ≤ 1000000 := by
 unfold boxW
 split
 ·exact ⟨h.u0, h.n0⟩
 ·exact ⟨h.u1, h.n1⟩
def decZ (s : Soc) (x : HwS) (z : FmS) (a : Nat) : Int × Int × Int := decF s z.x z.y (waitL s x) a (boxW z a)
def takeA (s : Soc) (x : HwS) (z : FmS) (a : Nat) : FmS × Bool :=
 let d := decZ s x z a
 if d.2.1 = 0 then (replyF s x { z with last := a } a d.1, false)
 else ({ z with last := a, x := doneX z.x a d.2.1 d.2.2, y := doneY z.y a d.2.1 d.2.2, at_ := a, kind := d.2.1, id := d.2.2 }, true)
def takeF (s : Soc) (x : HwS) (z : FmS) : FmS × Bool := match nextF z with
 | none => (z, false)
 | some a => takeA s x z a
theorem fmTake_some (f : Nat) (hL : HL) (s : Soc) (z : FmS) (x : HwS) (hH : s.okH) (hLo : HLOk hL s) (hok : HwOk s x) (hz : FmOk s z) (l a : Nat) (hl : z.last = (l : Int)) (hl1 : l ≤ 1) (ha : a < 2) (hab : (hasB' z (1 - l) = 1 ∧ a = 1 - l) ∨ (hasB' z (1 - l) ≠ 1 ∧ a = l)) (h1 : hasB' z a = 1)
  (hst : (decZ s x z a).2.1 = 0 → (decZ s x z a).1 = 0 → ReplyOk (boxW z a)) (w : World) (F : Nat → Prop) (hp : (MachH f hL s z x).sat F w) (hF : ∀ b, F b → b < w.heap.size) :
  Calls Tryz.prog 74 #[.pointer (some ⟨f, 0, none⟩)] w (fun y w' => y = .returned (.bool (takeA s x z a).2) ∧ ∃ F', (MachH f hL s (takeA s x z a).1 x).sat F' w' ∧ Turns w w' F F') := by
 have hnv := hH.t.nv
 unfold takeA
 generalize hdz : decZ s x z a = dz at hst ⊢
 obtain ⟨st, k, id⟩ := dz
 dsimp only at hst ⊢
 obtain ⟨hbu, hbn⟩ := hz.box a
 refine XK.enterM (p := MachH f hL s z x) (F := F) (vs := [.pointer (some ⟨f, 0, none⟩)]) Tryz.func74 rfl Tryz.ntmps74 (by simp) hp hF ?_
 refine XK.take 0 0 rfl rfl ?_
 dsimp only [List.set]
 refine XK.openEx 0 rfl fun L => ?_
 dsimp only [List.set]
 have hc15 : (fmC hL.h L s z)[15]? = some (.int .i64 (l : Int)) := by rw [← hl]; rfl
 refine XK.seq ?_
 refine XK.region ?_
 refine kdo ?_
 refine XK.nilN ?_
 refine XK.seq ?_
 refine XK.region ?_
 refine kdo ?_
 refine kdo ?_
 refine kdo ?_
 refine kd (does_ld1 rfl (Rd.firm 0 rfl hc15)) ?_
 refine kd (does_sub rfl rfl (c := ((1 - l : Nat) : Int)) (by rw [show (1 : Int) - (l : Int) = ((1 - l : Nat) : Int) by omega]; exact wrap_in (by omega))) ?_
 refine kdo ?_
 refine XK.nilN ?_
 refine XK.cut (fun e R H => e = [(3, .int .i64 (a : Int)), (0, .pointer (some ⟨f, 0, none⟩))] ∧ R = [⟨w, fun b => b < w.heap.size ∧ ¬ F b⟩] ∧ H = [FirmH f hL.h L s z, HP.many [HP.emp, HardH hL s x]]) ?_ ?_
 ·refine XK.seq ?_
  refine XK.region ?_
  refine kdo ?_
  refine kdo ?_
  refine kdo ?_
  refine kdo ?_
  refine kd (datA (1 - l) (11 + (1 - l) * 2)) ?_
  refine kdo ?_
  refine kd (does_ld1 rfl (Rd.firm 0 rfl (fmC_has (by omega)))) ?_
  refine kdo ?_
  refine XK.nilN ?_
  rcases hab with ⟨h2, rfl⟩ | ⟨h2, rfl⟩
  ·refine XK.if_ rfl (fun h => absurd h2 h) (fun _ => ?_)
   refine XK.skip ?_
   refine XK.norm ?_
   exact XK.envS [(3, .int .i64 ((1 - l : Nat) : Int)), (0, .pointer (some ⟨f, 0, none⟩))] (XK.meet ⟨rfl, rfl, rfl⟩)
  ·refine XK.if_ rfl (fun _ => ?_) (fun h => absurd h2 h)
   refine XK.region ?_
   refine kdo ?_
   refine kdo ?_
   refine kdo ?_
   refine kd (does_ld1 rfl (Rd.firm 0 rfl hc15)) ?_
   refine kdo ?_
   refine XK.nilN ?_
   exact XK.envS [(3, .int .i64 (a : Int)), (0, .pointer (some ⟨f, 0, none⟩))] (XK.meet ⟨rfl, rfl, rfl⟩)
 rintro _ _ _ ⟨rfl, rfl, rfl⟩
 refine XK.go ?_
 refine kd (datA a (11 + a * 2)) ?_
 refine XK.go ?_
 refine kd (does_ld1 rfl (Rd.firm 0 rfl (fmC_has ha))) ?_
 refine XK.go ?_
 refine XK.if_ rfl (fun h => absurd h1 h) (fun _ => ?_)
 refine XK.go ?_
 refine XK.take 0 0 rfl rfl ?_
 dsimp only [List.set]
 refine kst rfl rfl ?_ (hs := StoreAt.mk 0 rfl OneT.h rfl (by simp [fmC]))
 dsimp only [List.set]
 rw [show (fmC hL.h L s z).set (0 + 15) (.int .i64 (a : Int)) = fmC hL.h L s { z with last := (a : Int) } from rfl]
 refine XK.give 0 0 rfl rfl ?_
 dsimp only [List.set]
 change XK _ _ _ _ _ [FirmH f hL.h L s { z with last := (a : Int) }, HP.many [HP.emp, HardH hL s x]]
 generalize hz1 : ({ z with last := (a : Int) } : FmS) = z1
 have e1 : z1.x = z.x := by rw [← hz1]
 have e2 : z1.y = z.y := by rw [← hz1]
 have e3 : boxW z1 a = boxW z a := by rw [← hz1]; rfl
 refine XK.go ?_
 refine kd (does_ld1 rfl (Rd.firm 0 rfl rfl)) ?_
 refine XK.go ?_
 refine xk_makeT (n := s.devs.length) 8 (el := 3) (z := .int .i64 0) (by kernel_rfl) (by kernel_rfl) rfl rfl rfl (by omega) (by omega) (by decide) fun gm => ?_
 refine XK.go ?_
 refine XK.take 2 1 rfl rfl ?_
 dsimp only [List.set]
 rw [show List.replicate s.devs.length (Value.int .i64 0) = intCells (midN (waitL s x) ((waitL s x).map fun _ => 0) 0) by
  rw [midN_zero]
  refine List.ext_getElem? fun j => ?_
  simp only [intCells, waitL, List.map_map, List.getElem?_replicate, List.getElem?_map]
  by_cases h : j < s.devs.length
  ·rw [if_pos h, List.getElem?_range h]; rfl
  ·rw [if_neg h, List.getElem?_eq_none (by simp; omega)]; rfl]
 refine XK.envS [(46, .int .i64 0), (45, .int .i64 s.devs.length), (4, .slice (some ⟨gm, 0, none⟩) s.devs.length s.devs.length), (3, .int .i64 (a : Int)), (0, .pointer (some ⟨f, 0, none⟩))] ?_
 have hwl : (waitL s x).length = s.devs.length := by simp [waitL]
 refine XK.loop (fun m e R H => ∃ i : Nat, i ≤ s.devs.length ∧ m = s.devs.length - i ∧ e = [(46, .int .i64 i), (45, .int .i64 s.devs.length), (4, .slice (some ⟨gm, 0, none⟩) s.devs.length s.devs.length), (3, .int .i64 (a : Int)), (0, .pointer (some ⟨f, 0, none⟩))] ∧ R = [⟨w, fun b => b < w.heap.size ∧ ¬ F b⟩] ∧ H = [HardH hL s x, HP.blk gm 3 (intCells (midN (waitL s x) ((waitL s x).map fun _ => 0) i)), FirmH f hL.h L s z1, HP.many [HP.emp, HP.emp]]) s.devs.length ⟨0, by omega, rfl, rfl, rfl, rfl⟩ fun m e R H hI => ?_
 obtain ⟨i, hi, rfl, rfl, rfl, rfl⟩ := hI
 have hml2 := midN_len (vs := waitL s x) (old := (waitL s x).map fun _ => 0) (n := s.devs.length) hwl (by simp [waitL]) hi
 have hcl : (intCells (midN (waitL s x) ((waitL s x).map fun _ => 0) i)).length = s.devs.length := by simp [intCells, hml2]
 refine XK.go ?_
 refine XK.if_ rfl (fun hlt => ?_) (fun hge => ?_)
 ·have hlt : i < s.devs.length := by omega
  have hwi : (waitL s x)[i]? = some (wtN x.wt i : Int) := by simp [waitL, hlt]
  have hset : (intCells (midN (waitL s x) ((waitL s x).map fun _ => 0) i)).set i (.int .i64 (wtN x.wt i : Nat)) = intCells (midN (waitL s x) ((waitL s x).map fun _ => 0) (i + 1)) := by
   rw [← midN_set (by simp) hwi, intCells, intCells, List.map_set]
  refine XK.go ?_
  refine kd (does_ld1 rfl (Rd.firm 2 rfl rfl)) ?_
  refine XK.go ?_
  refine kcall (fun w1 t => hdWaiting_any hL s x w1 i hlt (t.hardR 0 rfl hLo hok)) ?_
  refine XK.go ?_
  refine kd (dat i i) ?_
  refine kst rfl rfl ?_
  dsimp only [List.set]
  rw [hset]
  refine XK.go ?_
  refine XK.envS [(46, .int .i64 (i + 1 : Nat)), (45, .int .i64 s.devs.length), (4, .slice (some ⟨gm, 0, none⟩) s.devs.length s.devs.length), (3, .int .i64 (a : Int)), (0, .pointer (some ⟨f, 0, none⟩))] ?_
  exact XK.round (s.devs.length - (i + 1)) (by omega) ⟨i + 1, hlt, rfl, rfl, rfl, rfl⟩
 obtain rfl : i = s.devs.length := by omega
 rw [midN_all hwl (by simp [waitL])]
 refine XK.give 2 1 rfl rfl ?_
 dsimp only [List.set]
 refine XK.go ?_
 refine XK.cutT (fun e R H => ∃ g7 : Nat, e = [(7, .pointer (some ⟨g7, 0, none⟩)), (6, .int .i32 st), (3, .int .i64 (a : Int)), (0, .pointer (some ⟨f, 0, none⟩))] ∧ R = [⟨w, fun b => b < w.heap.size ∧ ¬ F b⟩] ∧ H = [HP.blk g7 63 [.int .u8 k, .int .i64 id], FirmH f hL.h L s z1, HP.many [HP.emp, HardH hL s x]]) ?_ ?_
 ·refine XK.drawB [1, 2, 3, 5, 6, 7, 12, 13, 14, 15, 16, 19, 20] ?_
  refine XB.mv 0 ?_
  refine XB.mv 4 ?_
  refine XB.mv 8 ?_
  refine XB.mv 9 ?_
  refine XB.mv 10 ?_
  refine XB.mv 11 ?_
  refine XB.q 1 ?_
  refine XB.q 2 ?_
  refine XB.q 3 ?_ (hdo := does_ldA rfl (RdN.firm 1 rfl (vs := [.slice L.a1.1 s.clocks.length L.a1.2, .slice L.a2.1 s.domains.length L.a2.2, .slice L.a3.1 s.resets.length L.a3.2, .slice L.a4.1 s.devs.length L.a4.2]) rfl))
  refine XB.q 5 ?_
  refine XB.q 6 ?_
  refine XB.q 7 ?_ (hdo := does_ldA rfl (RdN.firm 1 rfl (vs := [.slice L.x1.1 z1.x.d.length L.x1.2, .slice L.x2.1 z1.x.c.length L.x2.2, .slice L.x3.1 z1.x.l.length L.x3.2, .slice L.y1.1 z1.y.d.length L.y1.2, .slice L.y2.1 z1.y.c.length L.y2.2, .slice L.y3.1 z1.y.l.length L.y3.2]) rfl))
  refine XB.q 12 ?_
  refine XB.q 13 ?_
  refine XB.q 14 ?_ (hdo := datA (sz := 2) a (11 + a * 2))
  refine XB.q 15 ?_
  refine XB.q 16 ?_ (hdo := does_ld1 rfl (Rd.firm 1 rfl (v := .slice (bxA L a).1 (boxW z1 a).length (bxA L a).2) (by rw [show 11 + a * 2 + 1 = 12 + a * 2 by omega]; exact fmC_box ha)))
  have hcall : ∀ H : List HP, H[H.length - 2]? = some (FirmH f hL.h L s z1) → (H.length = 3 ∨ H.length = 4) → H[H.length - 3]? = some (HP.blk gm 3 (intCells (waitL s x))) → ∀ w1, St w [⟨w, fun b => b < w.heap.size ∧ ¬ F b⟩] H w1 → Calls Tryz.prog 32 #[.agg #[.slice L.a1.1 s.clocks.length L.a1.2, .slice L.a2.1 s.domains.length L.a2.2, .slice L.a3.1 s.resets.length L.a3.2, .slice L.a4.1 s.devs.length L.a4.2], .agg #[.slice L.x1.1 z1.x.d.length L.x1.2, .slice L.x2.1 z1.x.c.length L.x2.2, .slice L.x3.1 z1.x.l.length L.x3.2, .slice L.y1.1 z1.y.d.length L.y1.2, .slice L.y2.1 z1.y.c.length L.y2.2, .slice L.y3.1 z1.y.l.length L.y3.2], .slice (some ⟨gm, 0, none⟩) s.devs.length s.devs.length, .int .i64 (a : Int), .slice (bxA L a).1 (boxW z1 a).length (bxA L a).2] w1 (Rt (actV (st, k, id)) w1) := fun H h2 _ h3 w1 t => by
   have kf := t.firmR _ h2
   have := decide_any (all w1) (all w1) s _ _ _ _ _ L.a1.2 _ L.a2.2 _ L.a3.2 _ L.a4.2 _ _ _ _ _ _ _ L.x1.2 _ L.x2.2 _ L.x3.2 _ L.y1.2 _ L.y2.2 _ L.y3.2 z1.x z1.y (some ⟨gm, 0, none⟩) s.devs.length s.devs.length (waitL s x) a _ _ (bxA L a).2 (boxW z1 a) w1 kf.so hH.t (Piece.Le.refl _) kf.stR (Piece.Le.refl _) (t.slS h3 (by simp [intCells, hwl])) hwl.symm ha (kf.box ha) rfl (by rw [e3]; exact hbn) (by rw [e3]; exact hbu)
   rw [show decF s z1.x z1.y (waitL s x) a (boxW z1 a) = (st, k, id) by rw [e1, e2, e3]; exact hdz] at this
   exact this
  refine XB.either 17 21 rfl rfl (by kernel_rfl) ?_ ?_
  ·refine kcall (fun w1 t => hcall _ rfl (.inl rfl) rfl w1 t) ?_
   refine XB.bk ?_
   refine XB.mv 18 ?_
   refine XB.q 19 ?_
   refine XB.q 20 ?_
   refine XB.next 21 rfl (by kernel_rfl) ?_
   refine xk_alloc (cs := [.int .u8 0, .int .i64 0]) (zeroB_of (by kernel_rfl)) (by decide) fun g7 => ?_
   refine XB.bk ?_
   refine XB.next 22 rfl (by kernel_rfl) ?_
   refine kdo ?_
   refine XB.bk ?_
   refine XB.next 23 rfl (by kernel_rfl) ?_
   refine kstW 0 rfl ?_
   dsimp only [List.set]
   refine XB.bt ?_
   refine XB.done (by kernel_rfl) ?_
   refine XK.norm ?_
   refine XK.weak [0, 2, 3] rfl (by decide) (fun _ h => h) ?_
   exact XK.envS [(7, .pointer (some ⟨g7, 0, none⟩)), (6, .int .i32 st), (3, .int .i64 (a : Int)), (0, .pointer (some ⟨f, 0, none⟩))] (XK.meet ⟨g7, rfl, rfl, rfl⟩)
  ·refine xk_alloc (cs := [.int .u8 0, .int .i64 0]) (zeroB_of (by kernel_rfl)) (by decide) fun g7 => ?_
   refine XB.bk ?_
   refine XB.next 17 rfl (by kernel_rfl) ?_
   refine kcall (fun w1 t => hcall _ rfl (.inr rfl) rfl w1 t) ?_
   refine XB.bk ?_
   refine XB.mv 18 ?_
   refine XB.q 19 ?_
   refine XB.q 20 ?_
   refine XB.next 22 rfl (by kernel_rfl) ?_
   refine kdo ?_
   refine XB.bk ?_
   refine XB.next 23 rfl (by kernel_rfl) ?_
   refine kstW 0 rfl ?_
   dsimp only [List.set]
   refine XB.bt ?_
   refine XB.done (by kernel_rfl) ?_
   refine XK.norm ?_
   refine XK.weak [0, 2, 3] rfl (by decide) (fun _ h => h) ?_
   exact XK.envS [(7, .pointer (some ⟨g7, 0, none⟩)), (6, .int .i32 st), (3, .int .i64 (a : Int)), (0, .pointer (some ⟨f, 0, none⟩))] (XK.meet ⟨g7, rfl, rfl, rfl⟩)
 rintro _ _ _ ⟨g7, rfl, rfl, rfl⟩
 refine XK.go ?_
 refine XK.if_ rfl (fun hk => ?_) (fun hk => ?_)
 ·have hk : k = 0 := hk
  rw [if_pos hk]
  refine XK.toEx 1 (f := fun L : FmL => FirmH f hL.h L s z1) L rfl ?_
  dsimp only [List.set]
  refine XK.weak [1, 0, 2] rfl (by decide) (fun _ h => h) ?_
  refine XK.give 1 0 rfl rfl ?_
  dsimp only [List.set]
  refine XK.go ?_
  refine kcallW 1 (MachH f hL s (replyF s x z1 a st) x) (fun w1 F1 t h1 h2 h3 => fmReply_m f hL s z1 x hH hLo hok a ha st (fun h0 => by rw [e3]; exact hst hk h0) w1 F1 h1 h2) ?_
  dsimp only [List.set]
  refine XK.go ?_
  exact XK.ret1 rfl rfl fun w1 t => ⟨rfl, t.turns hF (by simp) (i := 1) rfl⟩
 ·rw [if_neg hk]
  rw [show ({ z with last := (a : Int), x := doneX z.x a k id, y := doneY z.y a k id, at_ := (a : Int), kind := k, id := id } : FmS) = { z1 with x := doneX z1.x a k id, y := doneY z1.y a k id, at_ := (a : Int), kind := k, id := id } by rw [← hz1]]
  refine XK.go ?_
  refine XK.drawB [2, 3, 4, 6] ?_
  refine XB.mv 0 ?_
  refine XB.mv 1 ?_
  refine XB.mv 5 ?_
  refine XB.q 2 ?_
  refine XB.q 3 ?_
  refine XB.q 4 ?_ (hdo := does_ldA rfl (RdN.firm 1 rfl (vs := [.slice L.x1.1 z1.x.d.length L.x1.2, .slice L.x2.1 z1.x.c.length L.x2.2, .slice L.x3.1 z1.x.l.length L.x3.2, .slice L.y1.1 z1.y.d.length L.y1.2, .slice L.y2.1 z1.y.c.length L.y2.2, .slice L.y3.1 z1.y.l.length L.y3.2]) rfl))
  refine XB.q 6 ?_
  refine XB.next 7 rfl (by kernel_rfl) ?_
  refine xk_call [] (f := 151) (fi := []) (ca := []) (by kernel_rfl) rfl rfl (by decide) (by simp) (fun v w w' => StR (fresh w w') (doneX z1.x a k id) (doneY z1.y a k id) v) (fun w1 t => by
   have kf := t.firmR 1 rfl
   exact done_any (all w1) _ _ _ _ _ _ _ _ _ _ _ _ z1.x z1.y a k id w1 (Piece.Le.refl _) ha (by rw [e1]; exact hz.sx) (by rw [e2]; exact hz.sy) kf.st.1 kf.st.2.1 kf.st.2.2.1 kf.st.2.2.2.1 kf.st.2.2.2.2.1 kf.st.2.2.2.2.2) ?_
  rintro _ w2 q2 hst2 hq2 _ hF2
  have hF2 := hF2 (by simp)
  obtain ⟨x1, x2, x3, y1, y2, y3, rfl, hsp2⟩ := hst2.P
  have hsp2 := StP.le _ _ hq2 (hsp2 L.a1 L.a2 L.a3 L.a4 L.b0 L.b1)
  refine XK.ownP (Φ := StP ⟨L.a1, L.a2, L.a3, L.a4, x1, x2, x3, y1, y2, y3, L.b0, L.b1⟩ (doneX z1.x a k id) (doneY z1.y a k id)) (hm := StP.le) hF2 (fun p hp b hb => by simp at hp; subst hp; exact hb.1) hsp2 ?_
  refine XB.bt ?_
  refine XB.next 8 rfl (by kernel_rfl) ?_
  refine kdo ?_
  refine XB.bt ?_
  refine XB.next 9 rfl (by kernel_rfl) ?_
  refine kdo ?_
  refine XB.bt ?_
  refine XB.next 10 rfl (by kernel_rfl) ?_
  refine XK.take 2 0 rfl rfl ?_
  dsimp only [List.set]
  refine xk_storeN 0 (t := 150) rfl rfl rfl (by kernel_rfl) (by simp [Value.cells, Value.oneCell', slV]) (by simp [Value.cells, fmC]) ?_
  dsimp only [List.set]
  rw [show putN (fmC hL.h L s z1) (0 + 5) (Value.agg #[slV x1 (doneX z1.x a k id).d.length, slV x2 (doneX z1.x a k id).c.length, slV x3 (doneX z1.x a k id).l.length, slV y1 (doneY z1.y a k id).d.length, slV y2 (doneY z1.y a k id).c.length, slV y3 (doneY z1.y a k id).l.length]).cells.toList = fmC hL.h ⟨L.a1, L.a2, L.a3, L.a4, x1, x2, x3, y1, y2, y3, L.b0, L.b1⟩ s { z1 with x := doneX z1.x a k id, y := doneY z1.y a k id } from rfl]
  refine XB.bt ?_
  refine XB.done (by kernel_rfl) ?_
  refine XK.norm ?_
  refine XK.take 3 2 rfl rfl ?_
  dsimp only [List.set]
  refine XK.weak [1, 2, 3, 4, 5] rfl (by decide) (R' := [⟨w, fun b => b < w.heap.size ∧ ¬ F b⟩]) (by simp) ?_
  refine XK.weak [1, 0, 2, 3, 4] rfl (by decide) (fun _ h => h) ?_
  refine XK.give 2 2 rfl rfl ?_
  dsimp only [List.set]
  generalize hz2 : ({ z1 with x := doneX z1.x a k id, y := doneY z1.y a k id } : FmS) = z2
  rw [show ({ z1 with x := doneX z1.x a k id, y := doneY z1.y a k id, at_ := (a : Int), kind := k, id := id } : FmS) = { z2 with at_ := (a : Int), kind := k, id := id } by rw [← hz2]]
  generalize hL2 : (⟨L.a1, L.a2, L.a3, L.a4, x1, x2, x3, y1, y2, y3, L.b0, L.b1⟩ : FmL) = L2
  refine XK.seq ?_
  refine XK.cutT (fun e R H => e = [(0, .pointer (some ⟨f, 0, none⟩))] ∧ R = [⟨w, fun b => b < w.heap.size ∧ ¬ F b⟩] ∧ H = [HP.blk f 150 (fmC hL.h L2 s { z2 with at_ := (a : Int), kind := k, id := id }), HP.blk g7 63 [.int .u8 k, .int .i64 id], HP.many [HP.emp, HP.pic (SoP L s) (SoP.le (L := L) (s := s)), HP.pic (StP L2 (doneX z1.x a k id) (doneY z1.y a k id)) (StP.le (L := L2) (x := doneX z1.x a k id) (y := doneY z1.y a k id)), HP.pic (BxP L.b0 z1.w0) (BxP.le (a := L.b0) (l := z1.w0)), HP.pic (BxP L.b1 z1.w1) (BxP.le (a := L.b1) (l := z1.w1))], HP.many [HP.emp, HardH hL s x]]) ?_ ?_
  ·refine XK.drawB [] ?_
   refine XB.mv 0 ?_
   refine XB.mv 1 ?_
   refine XB.mv 2 ?_
   refine XB.either 3 4 rfl rfl (by kernel_rfl) ?_ ?_
   ·refine kdo ?_
    refine XB.bt ?_
    refine XB.next 4 rfl (by kernel_rfl) ?_
    refine kdo ?_
    refine XB.bt ?_
    refine XB.next 5 rfl (by kernel_rfl) ?_
    refine kdo ?_
    refine XB.bt ?_
    refine XB.next 6 rfl (by kernel_rfl) ?_
    refine kst rfl rfl ?_ (hs := StoreAt.mk 0 rfl OneT.h rfl (by simp [fmC]))
    dsimp only [List.set]
    rw [show (fmC hL.h L2 s z2).set (0 + 16) (.int .i64 (a : Int)) = fmC hL.h L2 s { z2 with at_ := (a : Int) } from rfl]
    refine XB.bt ?_
    refine XB.next 7 rfl (by kernel_rfl) ?_
    refine kdo ?_
    refine XB.bt ?_
    refine XB.next 8 rfl (by kernel_rfl) ?_
    refine kdo ?_
    refine XB.bt ?_
    refine XB.next 9 rfl (by kernel_rfl) ?_
    refine xk_storeN 0 (t := 150) rfl rfl rfl (by kernel_rfl) (by simp [Value.cells, Value.oneCell']) (by simp [Value.cells, fmC]) ?_
    dsimp only [List.set]
    rw [show putN (fmC hL.h L2 s { z2 with at_ := (a : Int) }) (0 + 17) (Value.agg #[.int .u8 k, .int .i64 id]).cells.toList = fmC hL.h L2 s { z2 with at_ := (a : Int), kind := k, id := id } from rfl]
    refine XB.bt ?_
    refine XB.done (by kernel_rfl) ?_
    refine XK.norm ?_
    exact XK.envS [(0, .pointer (some ⟨f, 0, none⟩))] (XK.meet ⟨rfl, rfl, rfl⟩)
   ·refine kdo ?_
    refine XB.bt ?_
    refine XB.either 3 5 rfl rfl (by kernel_rfl) ?_ ?_
    ·refine kdo ?_
     refine XB.bt ?_
     refine XB.next 5 rfl (by kernel_rfl) ?_
     refine kdo ?_
     refine XB.bt ?_
     refine XB.next 6 rfl (by kernel_rfl) ?_
     refine kst rfl rfl ?_ (hs := StoreAt.mk 0 rfl OneT.h rfl (by simp [fmC]))
     dsimp only [List.set]
     rw [show (fmC hL.h L2 s z2).set (0 + 16) (.int .i64 (a : Int)) = fmC hL.h L2 s { z2 with at_ := (a : Int) } from rfl]
     refine XB.bt ?_
     refine XB.next 7 rfl (by kernel_rfl) ?_
     refine kdo ?_
     refine XB.bt ?_
     refine XB.next 8 rfl (by kernel_rfl) ?_
     refine kdo ?_
     refine XB.bt ?_
     refine XB.next 9 rfl (by kernel_rfl) ?_
     refine xk_storeN 0 (t := 150) rfl rfl rfl (by kernel_rfl) (by simp [Value.cells, Value.oneCell']) (by simp [Value.cells, fmC]) ?_
     dsimp only [List.set]
     rw [show putN (fmC hL.h L2 s { z2 with at_ := (a : Int) }) (0 + 17) (Value.agg #[.int .u8 k, .int .i64 id]).cells.toList = fmC hL.h L2 s { z2 with at_ := (a : Int), kind := k, id := id } from rfl]
     refine XB.bt ?_
     refine XB.done (by kernel_rfl) ?_
     refine XK.norm ?_
     exact XK.envS [(0, .pointer (some ⟨f, 0, none⟩))] (XK.meet ⟨rfl, rfl, rfl⟩)
    ·refine kdo ?_
     refine XB.bt ?_
     refine XB.either 3 6 rfl rfl (by kernel_rfl) ?_ ?_
     ·refine kdo ?_
      refine XB.bt ?_
      refine XB.next 6 rfl (by kernel_rfl) ?_
      refine kst rfl rfl ?_ (hs := StoreAt.mk 0 rfl OneT.h rfl (by simp [fmC]))
      dsimp only [List.set]
      rw [show (fmC hL.h L2 s z2).set (0 + 16) (.int .i64 (a : Int)) = fmC hL.h L2 s { z2 with at_ := (a : Int) } from rfl]
      refine XB.bt ?_
      refine XB.next 7 rfl (by kernel_rfl) ?_
      refine kdo ?_
      refine XB.bt ?_
      refine XB.next 8 rfl (by kernel_rfl) ?_
      refine kdo ?_
      refine XB.bt ?_
      refine XB.next 9 rfl (by kernel_rfl) ?_
      refine xk_storeN 0 (t := 150) rfl rfl rfl (by kernel_rfl) (by simp [Value.cells, Value.oneCell']) (by simp [Value.cells, fmC]) ?_
      dsimp only [List.set]
      rw [show putN (fmC hL.h L2 s { z2 with at_ := (a : Int) }) (0 + 17) (Value.agg #[.int .u8 k, .int .i64 id]).cells.toList = fmC hL.h L2 s { z2 with at_ := (a : Int), kind := k, id := id } from rfl]
      refine XB.bt ?_
      refine XB.done (by kernel_rfl) ?_
      refine XK.norm ?_
      exact XK.envS [(0, .pointer (some ⟨f, 0, none⟩))] (XK.meet ⟨rfl, rfl, rfl⟩)
     ·refine kst rfl rfl ?_ (hs := StoreAt.mk 0 rfl OneT.h rfl (by simp [fmC]))
      dsimp only [List.set]
      rw [show (fmC hL.h L2 s z2).set (0 + 16) (.int .i64 (a : Int)) = fmC hL.h L2 s { z2 with at_ := (a : Int) } from rfl]
      refine XB.bt ?_
      refine XB.next 3 rfl (by kernel_rfl) ?_
      refine kdo ?_
      refine XB.bt ?_
      refine XB.next 7 rfl (by kernel_rfl) ?_
      refine kdo ?_
      refine XB.bt ?_
      refine XB.next 8 rfl (by kernel_rfl) ?_
      refine kdo ?_
      refine XB.bt ?_
      refine XB.next 9 rfl (by kernel_rfl) ?_
      refine xk_storeN 0 (t := 150) rfl rfl rfl (by kernel_rfl) (by simp [Value.cells, Value.oneCell']) (by simp [Value.cells, fmC]) ?_
      dsimp only [List.set]
      rw [show putN (fmC hL.h L2 s { z2 with at_ := (a : Int) }) (0 + 17) (Value.agg #[.int .u8 k, .int .i64 id]).cells.toList = fmC hL.h L2 s { z2 with at_ := (a : Int), kind := k, id := id } from rfl]
      refine XB.bt ?_
      refine XB.done (by kernel_rfl) ?_
      refine XK.norm ?_
      exact XK.envS [(0, .pointer (some ⟨f, 0, none⟩))] (XK.meet ⟨rfl, rfl, rfl⟩)
  rintro _ _ _ ⟨rfl, rfl, rfl⟩
  refine XK.give 1 0 rfl rfl ?_
  dsimp only [List.set]
  subst hL2
  subst hz2
  refine XK.toEx 1 (f := fun L : FmL => FirmH f hL.h L s { ({ z1 with x := doneX z1.x a k id, y := doneY z1.y a k id } : FmS) with at_ := (a : Int), kind := k, id := id }) ⟨L.a1, L.a2, L.a3, L.a4, x1, x2, x3, y1, y2, y3, L.b0, L.b1⟩ rfl ?_
  dsimp only [List.set]
  refine XK.weak [1, 0, 2] rfl (by decide) (fun _ h => h) ?_
  refine XK.give 1 0 rfl rfl ?_
  dsimp only [List.set]
  refine XK.go ?_
  exact XK.ret1 rfl rfl fun w1 t => ⟨rfl, t.turns hF (by simp) (i := 1) rfl⟩
theorem fmTake_m (f : Nat) (hL : HL) (s : Soc) (z : FmS) (x : HwS) (hH : s.okH) (hLo : HLOk hL s) (hok : HwOk s x) (hz : FmOk s z) (hst : ∀ a, nextF z = some a → (decZ s x z a).2.1 = 0 → (decZ s x z a).1 = 0 → ReplyOk (boxW z a)) (w : World) (F : Nat → Prop) (hp : (MachH f hL s z x).sat F w) (hF : ∀ b, F b → b < w.heap.size) :
  Calls Tryz.prog 74 #[.pointer (some ⟨f, 0, none⟩)] w (fun y w' => y = .returned (.bool (takeF s x z).2) ∧ ∃ F', (MachH f hL s (takeF s x z).1 x).sat F' w' ∧ Turns w w' F F') := by
 unfold takeF
 cases hn : nextF z with
 | none => exact fmTake_none f hL s z x hz.la hn w F hp hF
 | some a =>
  obtain ⟨l, hl, hl1⟩ : ∃ l : Nat, z.last = (l : Int) ∧ l ≤ 1 := by
   rcases hz.la with h | h
   ·exact ⟨0, h, by omega⟩
   ·exact ⟨1, h, by omega⟩
  have hn2 := hn
  unfold nextF at hn
  rw [show (1 - z.last).toNat = 1 - l by omega, show z.last.toNat = l by omega] at hn
  by_cases h2 : hasB' z (1 - l) = 1
  ·rw [if_pos h2] at hn
   obtain rfl := Option.some.inj hn
   exact fmTake_some f hL s z x hH hLo hok hz l _ hl hl1 (by omega) (.inl ⟨h2, rfl⟩) h2 (hst _ hn2) w F hp hF
  ·rw [if_neg h2] at hn
   by_cases h3 : hasB' z l = 1
   ·rw [if_pos h3] at hn
    obtain rfl := Option.some.inj hn
    exact fmTake_some f hL s z x hH hLo hok hz l _ hl hl1 (by omega) (.inr ⟨h2, rfl⟩) h3 (hst _ hn2) w F hp hF
   ·rw [if_neg h3] at hn
    cases hn
end Go.Proofs.YticjkhagldkejaaGreatDoor
/- Functions that defer a recover: how they begin and end. -/
namespace Go.Proofs.YticjkhagldkejaaGreatDoor
set_option linter.all false
set_option maxHeartbeats 4000000
set_option maxRecDepth 20000
open Go.RowKit
section
variable {P : Program} {N : Frm} {w0 w : World} {K : Act → World → Prop} {e : Env} {R : List Piece} {H H' : List HP}
theorem XK.enterDM {nn : Nat} {F : Nat → Prop} {p : HP} {f : FuncId} {fn : Func} {c : Code} {vs : List Value} {Post : Ending → World → Prop} (hf : P.funcs[f]? = some fn) (hb : fn.body = some c) (hN : fn.ntmps = nn) (hl : vs.length ≤ nn) (hp : p.sat F w) (hF : ∀ b, F b → b < w.heap.size)
  (h : XK ⟨nn, []⟩ w (c.wp P (bodyPostD P fn Post)) (argEnv 0 vs) [⟨w, fun b => b < w.heap.size ∧ ¬ F b⟩] [p]) : Calls P f vs.toArray w Post := by
 refine calls_of_wp_defers hf hb (h _ _ ⟨?_, rfl, fun t v hv => ?_⟩ (St.startM hp hF))
 ·simp; omega
 ·obtain ⟨_, h2⟩ := argEnv_get vs 0 t v hv
  rw [Nat.sub_zero] at h2
  have hlt : t < vs.length := by
   rcases Nat.lt_or_ge t vs.length with h | h
   ·exact h
   ·rw [List.getElem?_eq_none h] at h2; cases h2
  rw [Array.getElem?_append_left (by simpa using hlt)]
  simpa using h2
theorem XK.leave0 {nn : Nat} {f : FuncId} {fi ca : List Value} {fn : Func} {Post : Ending → World → Prop} {x : Exit} (hx : x = .ret ∨ x = .normal) (hf : callB P f = true)
  (hcl : ∀ w, CallsD P f (fi ++ ca).toArray .returning w fun y u' w' => y = .returned (.tuple #[]) ∧ u' = .returning ∧ w' = w) (hr : fn.results = #[])
  (h : ∀ w, St w0 R H w → Post (.returned (.tuple #[])) w) : XK ⟨nn, [dfd f fi ca]⟩ w0 (bodyPostD P fn Post x) e R H := by
 have key : XK ⟨nn, [dfd f fi ca]⟩ w0 (bodyPostD P fn Post .ret) e R H := XK.leaveR (H' := H) hf (fun w1 st => (hcl w1).mono fun y u' w' h => by
  obtain ⟨h1, h2, rfl⟩ := h
  exact ⟨⟨_, h1⟩, h2, st⟩) fun a w1 _ st => ⟨.tuple #[], results_none hr _ _ _, h w1 st⟩
 rcases hx with rfl | rfl
 ·exact key
 ·exact key
end
theorem fmRec_idle (w : World) : CallsD Tryz.prog 73 #[] .returning w fun e u' w' => e = .returned (.tuple #[]) ∧ u' = .returning ∧ w' = w := by
 refine callsD_of_wpS Tryz.func73 rfl fun c₀ cs hu => ?_
 apply wpS_region
 simp [wpOpsS, go_sem, recoverD, hu, Tryz.ntmps73, Exit.thenS]
 cases c₀
 simp_all [bodyPostS, results, Tryz.results73]
section
variable {N : Frm} {w0 w : World} {e : Env} {R : List Piece} {H : List HP} {K : Act → World → Prop} {f : Nat} {hL : HL} {s : Soc} {z : FmS} {x : HwS}
theorem Rd.mach (i : Nat) {o : Nat} {v : Value} (hi : H[i]? = some (MachH f hL s z x)) (hv : ∀ L, (fmC hL.h L s z)[o]? = some v) : Rd w0 R H f o v := fun w t => by
 obtain ⟨F, ⟨G, g1, g2, _⟩, h2, _⟩ := t.chunk hi
 obtain ⟨L, hL'⟩ := g1 0 _ rfl
 have := ((FirmH.reads hL' fun b hb => h2 b (g2 0 b hb)).r0.at_ (hv L)).2
 rwa [Nat.zero_add] at this
end
theorem fmWorking_any (f : Nat) (hL : HL) (s : Soc) (z : FmS) (x : HwS) (w : World) (F : Nat → Prop) (hp : (MachH f hL s z x).sat F w) (hF : ∀ b, F b → b < w.heap.size) :
  Calls Tryz.prog 22 #[.pointer (some ⟨f, 0, none⟩)] w (fun y w' => y = .returned (.int .i64 z.at_) ∧ ∃ F', (MachH f hL s z x).sat F' w' ∧ Turns w w' F F') := by
 refine XK.enterM (p := MachH f hL s z x) (F := F) (vs := [.pointer (some ⟨f, 0, none⟩)]) Tryz.func22 rfl Tryz.ntmps22 (by simp) hp hF ?_
 refine XK.go ?_
 refine kd (does_ld1 rfl (Rd.mach 0 rfl fun _ => rfl)) ?_
 refine XK.go ?_
 exact XK.ret1 rfl rfl fun w1 t => ⟨rfl, t.turns hF (by simp) (i := 0) rfl⟩
theorem fmStep_ask (f : Nat) (hL : HL) (s : Soc) (z : FmS) (x : HwS) (hH : s.okH) (hLo : HLOk hL s) (hok : HwOk s x) (hz : FmOk s z) (hst : ∀ a, nextF z = some a → (decZ s x z a).2.1 = 0 → (decZ s x z a).1 = 0 → ReplyOk (boxW z a)) (hat : z.at_ < 0) (hno : (takeF s x z).2 = false) (w : World) (F : Nat → Prop) (hp : (MachH f hL s z x).sat F w) (hF : ∀ b, F b → b < w.heap.size) :
  Calls Tryz.prog 20 #[.pointer (some ⟨f, 0, none⟩)] w (fun y w' => y = .returned (.tuple #[]) ∧ ∃ F', (MachH f hL s (takeF s x z).1 x).sat F' w' ∧ Turns w w' F F') := by
 refine XK.enterDM (vs := [.pointer (some ⟨f, 0, none⟩)]) (p := MachH f hL s z x) Tryz.func20 rfl Tryz.ntmps20 (by simp) hp hF ?_
 refine XK.go ?_
 refine xk_defer (f := 73) (fi := []) (ca := []) rfl ?_
 refine XK.go ?_
 refine kd (does_ld1 rfl (Rd.mach 0 rfl fun _ => rfl)) ?_
 refine XK.go ?_
 refine xk_split (t := 8) rfl (fun _ => ?_) (fun h => absurd hat h)
 refine XK.go ?_
 refine kcallW 0 (MachH f hL s (takeF s x z).1 x) (fun w1 F1 t h1 h2 h3 => fmTake_m f hL s z x hH hLo hok hz hst w1 F1 h1 h2) ?_
 dsimp only [List.set]
 rw [hno]
 refine XK.go ?_
 exact XK.leave0 (.inl rfl) (by kernel_rfl) fmRec_idle rfl fun w1 t => ⟨rfl, t.turns hF (by simp) (i := 0) rfl⟩
end Go.Proofs.YticjkhagldkejaaGreatDoor
/- Heads of messages that have room; words. No walk in sight. -/
namespace Go.Proofs.YticjkhagldkejaaGreatDoor
set_option linter.all false
open Go.RowKit
theorem or32_bd (a b : Int) : 0 ≤ or32 a b ∧ or32 a b < 4294967296 := u32_bd _
theorem putW_bd (w low many v : Int) : 0 ≤ (putW w low many v).1 ∧ (putW w low many v).1 < 4294967296 := by
 unfold putW
 split
 ·exact ⟨by decide, by decide⟩
 ·split
  ·exact ⟨by decide, by decide⟩
  ·unfold putZ
   split
   ·exact ⟨by decide, by decide⟩
   ·exact or32_bd _ _
theorem pack_bd (m t p k : Int) : 0 ≤ (packZ m t p k).1 ∧ (packZ m t p k).1 < 4294967296 := by
 unfold packZ
 split
 ·exact ⟨by dsimp only; decide, by dsimp only; decide⟩
 ·split
  ·exact ⟨by dsimp only; decide, by dsimp only; decide⟩
  ·split
   ·exact ⟨by dsimp only; decide, by dsimp only; decide⟩
   ·split
    ·exact ⟨by dsimp only; decide, by dsimp only; decide⟩
    ·exact putW_bd _ _ _ _
theorem U32s.snoc {l : List Int} {x : Int} (h : U32s l) (hx : 0 ≤ x ∧ x < 4294967296) : U32s (l ++ [x]) := by
 intro y hy
 rcases List.mem_append.1 hy with hy | hy
 ·exact h y hy
 ·simp at hy; subst hy; exact hx
theorem U32s.set {l : List Int} {x : Int} {i : Nat} (h : U32s l) (hx : 0 ≤ x ∧ x < 4294967296) : U32s (l.set i x) := by
 intro y hy
 rcases List.mem_or_eq_of_mem_set hy with hy | hy
 ·exact h y hy
 ·subst hy; exact hx
theorem U32s.take {l : List Int} {n : Nat} (h : U32s l) : U32s (l.take n) := fun y hy => h y (List.mem_of_mem_take hy)
end Go.Proofs.YticjkhagldkejaaGreatDoor
/- A chip as it is made is as it must be; the chip without anything. -/
namespace Go.Proofs.YticjkhagldkejaaGreatDoor
set_option linter.all false
open Go.RowKit
theorem hw0_ok {s : Soc} (h : s.okH) : HwOk s (hw0 s) := by
 refine ⟨⟨by simp [hw0], fun x hx => ?_⟩, ⟨by simp [hw0], fun x hx => ?_, fun x hx => ?_⟩, ⟨by simp [hw0], fun x hx => ?_⟩, by simp [hw0], fun i d p hd hp => ?_, by simp [hw0]⟩
 ·obtain ⟨c, hc, rfl⟩ := List.mem_map.1 hx
  obtain ⟨i, hi⟩ := List.getElem?_of_mem hc
  have := (h.t.clocks i c hi).2
  unfold ck0
  dsimp only
  split
  ·omega
  ·omega
 ·obtain ⟨c, hc, rfl⟩ := List.mem_map.1 hx
  simp [dm0]
 ·obtain ⟨c, hc, rfl⟩ := List.mem_map.1 hx
  simp [dm0]
 ·obtain ⟨c, hc, rfl⟩ := List.mem_map.1 hx
  simp [ln0]
 ·simp only [hw0, List.getElem?_map, hd, Option.map_some] at hp
  cases hp
  have hf := h.t.devs i d hd
  refine ⟨⟨by simp [fl0], by simp [fl0], fun v hv => ?_, fun v hv => ?_⟩, by simp [QtOk, qt0]⟩
  ·obtain ⟨r, hr, rfl⟩ := List.mem_map.1 hv
   have := hf.2.2.2.2.2.2.2.2.2.1 r hr
   omega
  ·simp only [fl0, List.mem_map] at hv
   obtain ⟨r, _, rfl⟩ := hv
   omega
theorem zero_sm {s : Soc} (h : s.okT) : (zeroW s).sm := by
 have h1 := h.nc
 have h2 := h.nd
 have h3 := h.nr
 exact ⟨by simp [zeroW]; omega, by simp [zeroW]; omega, by simp [zeroW]; omega⟩
def socE : Soc := ⟨[], [], [], []⟩
theorem socE_small : socE.small := ⟨by decide, by decide, by decide, by decide, (fun c hc => by cases hc), (fun c hc => by cases hc)⟩
theorem socE_okT : socE.okT := ⟨fun _ _ h => by simp [socE] at h, fun _ _ h => by simp [socE] at h, by decide, by decide, by decide, by decide, by rfl, socE_small⟩
theorem socE_okH : socE.okH := ⟨socE_okT, fun _ _ h => by simp [socE] at h, by simp [socE]⟩
theorem socE_W (w : World) : SocW w socE none 0 none 0 none 0 none 0 :=
 ⟨⟨[], trivial, rfl, SlS.nil _ _⟩, ⟨[], trivial, rfl, SlS.nil _ _⟩, ⟨[], trivial, rfl, SlS.nil _ _⟩, ⟨[], trivial, rfl, SlS.nil _ _⟩, socE_small⟩
end Go.Proofs.YticjkhagldkejaaGreatDoor
/- FirmTurns in plain words: two agents ask, again and again. No walk in sight. -/
namespace Go.Proofs.YticjkhagldkejaaGreatDoor
set_option linter.all false
open Go.RowKit
def msgT (k : Nat) (a : Int) : List Int := [(packZ 5 0 17 k).1, a]
theorem head5_all : (List.range 20).all (fun (k : Nat) => decide ((packZ 5 0 17 k).2 = 0 ∧ unpackE (packZ 5 0 17 k).1 = 0 ∧ hTyp (packZ 5 0 17 k).1 = 0 ∧ hPro (packZ 5 0 17 k).1 = 17 ∧ hMsg (packZ 5 0 17 k).1 = 5 ∧ getZ (packZ 5 0 17 k).1 28 4 = 0 ∧ 0 ≤ (packZ 5 0 17 k).1 ∧ (packZ 5 0 17 k).1 < 4294967296)) = true := by decide +kernel
theorem head5k {k : Nat} (h : k < 20) : (packZ 5 0 17 k).2 = 0 ∧ unpackE (packZ 5 0 17 k).1 = 0 ∧ hTyp (packZ 5 0 17 k).1 = 0 ∧ hPro (packZ 5 0 17 k).1 = 17 ∧ hMsg (packZ 5 0 17 k).1 = 5 ∧ getZ (packZ 5 0 17 k).1 28 4 = 0 ∧ 0 ≤ (packZ 5 0 17 k).1 ∧ (packZ 5 0 17 k).1 < 4294967296 :=
 of_decide_eq_true (List.all_eq_true.1 head5_all k (List.mem_range.2 h))
theorem msgT_read {s : Soc} {k : Nat} {a : Int} (hk : k < 20) : (readF s (msgT k a)).2 = (0, 0) := by
 obtain ⟨_, h1, h2, h3, h4, _⟩ := head5k hk
 simp only [readF, msgT, h1, h2, h3, h4, frmOf, frmD]
 simp [askF]
 split <;> rfl
theorem msgT_dec {s : Soc} {x y : Wsh} {wt : List Int} {ag k : Nat} {a : Int} (hk : k < 20) : (decF s x y wt ag (msgT k a)).2 = (0, 0) := by
 have h := msgT_read (s := s) (a := a) hk
 unfold decF
 rw [if_pos (.inr (.inl (by rw [h])))]
theorem msgT_reply {k : Nat} {a : Int} (hk : k < 20) (h0 : 0 ≤ a) (h1 : a < 2) : ReplyOk (msgT k a) :=
 ⟨⟨_, _, rfl, (head5k hk).2.2.2.2.2.1, fun _ => ⟨a, rfl, h0, by omega⟩⟩⟩
theorem msgT_u32 {k : Nat} {a : Int} (h0 : 0 ≤ a) (h1 : a < 2) : U32s (msgT k a) := by
 intro x hx
 simp [msgT] at hx
 rcases hx with rfl | rfl
 ·exact pack_bd _ _ _ _
 ·omega
def hB (o : Option Nat) : Int := if o.isSome then 1 else 0
def wB (o : Option Nat) (a : Int) : List Int := match o with
 | none => []
 | some k => msgT k a
def zT (s : Soc) (a : Nat) (o : Option Nat) : FmS := if a = 1 then ⟨zeroW s, zeroW s, hB o, 0, wB o 0, [], 1, -1, 0, 0⟩ else ⟨zeroW s, zeroW s, 0, hB o, [], wB o 1, 0, -1, 0, 0⟩
def zF (s : Soc) (a : Nat) (k0 k1 : Nat) : FmS := ⟨zeroW s, zeroW s, 1, 1, msgT k0 0, msgT k1 1, a, -1, 0, 0⟩
def zS (s : Soc) (a : Nat) (o : Option Nat) (k : Nat) : Nat → FmS
 | 0 => zT s a o
 | n + 1 => (sendF (zS s a o k n) n (msgT k n)).2
theorem zS_two {s : Soc} {a : Nat} {o : Option Nat} {k : Nat} (ha : a < 2) : ∃ k0 k1, zS s a o k 2 = zF s a k0 k1 ∧ (k0 = k ∨ o = some k0) ∧ (k1 = k ∨ o = some k1) := by
 obtain rfl | rfl : a = 0 ∨ a = 1 := by omega
 ·cases o with
  | none => exact ⟨k, k, by simp [zS, zT, zF, sendF, inB, hB, wB], .inl rfl, .inl rfl⟩
  | some j => exact ⟨k, j, by simp [zS, zT, zF, sendF, inB, hB, wB], .inl rfl, .inr rfl⟩
 ·cases o with
  | none => exact ⟨k, k, by simp [zS, zT, zF, sendF, inB, hB, wB], .inl rfl, .inl rfl⟩
  | some j => exact ⟨j, k, by simp [zS, zT, zF, sendF, inB, hB, wB], .inr rfl, .inl rfl⟩
theorem zF_next {s : Soc} {a k0 k1 : Nat} (ha : a < 2) : nextF (zF s a k0 k1) = some (1 - a) := by
 obtain rfl | rfl : a = 0 ∨ a = 1 := by omega
 ·rfl
 ·rfl
theorem zF_ok {s : Soc} {a k0 k1 : Nat} (hH : s.okT) (ha : a < 2) : FmOk s (zF s a k0 k1) := by
 have hl : (a : Int) = 0 ∨ (a : Int) = 1 := by omega
 exact ⟨hl, msgT_u32 (by omega) (by omega), msgT_u32 (by omega) (by omega), by simp [zF, msgT], by simp [zF, msgT], zero_sm hH, zero_sm hH⟩
theorem zF_box {s : Soc} {a k0 k1 b : Nat} (hb : b < 2) : boxW (zF s a k0 k1) b = msgT (if b = 0 then k0 else k1) b := by
 obtain rfl | rfl : b = 0 ∨ b = 1 := by omega
 ·rfl
 ·rfl
theorem zF_reply {s : Soc} {x : HwS} {a k0 k1 : Nat} (h0 : k0 < 20) (h1 : k1 < 20) (b : Nat) (hb : nextF (zF s a k0 k1) = some b) (ha : a < 2) : ReplyOk (boxW (zF s a k0 k1) b) := by
 rw [zF_next ha] at hb
 cases hb
 rw [zF_box (by omega)]
 refine msgT_reply ?_ (by omega) (by omega)
 split <;> assumption
theorem zF_take {s : Soc} {x : HwS} {a k0 k1 : Nat} (h0 : k0 < 20) (h1 : k1 < 20) (ha : a < 2) : ∃ st, takeF s x (zF s a k0 k1) = (replyF s x { zF s a k0 k1 with last := ((1 - a : Nat) : Int) } (1 - a) st, false) := by
 have hd : (decZ s x (zF s a k0 k1) (1 - a)).2 = (0, 0) := by
  unfold decZ
  rw [zF_box (by omega)]
  refine msgT_dec ?_
  split <;> assumption
 unfold takeF
 rw [zF_next ha]
 dsimp only
 unfold takeA
 dsimp only
 rw [hd]
 exact ⟨_, rfl⟩
theorem zF_read {s : Soc} {x : HwS} {a k0 k1 : Nat} {st : Int} (ha : a < 2) (z : FmS) (hz : z = replyF s x { zF s a k0 k1 with last := ((1 - a : Nat) : Int) } (1 - a) st) :
  (a = 1 ∧ (∃ l, readW z 0 = some l) ∧ readW (readZ z 0) 1 = none ∧ readZ (readZ z 0) 1 = zT s 0 (some k1)) ∨ (a = 0 ∧ readW z 0 = none ∧ (∃ l, readW (readZ z 0) 1 = some l) ∧ readZ (readZ z 0) 1 = zT s 1 (some k0)) := by
 obtain rfl | rfl : a = 0 ∨ a = 1 := by omega
 ·right
  subst hz
  refine ⟨rfl, by simp [readW, replyF, putBox, zF], ⟨_, by simp [readW, readZ, replyF, putBox, zF]; rfl⟩, by simp [readZ, replyF, putBox, zF, zT, hB, wB]⟩
 ·left
  subst hz
  refine ⟨rfl, ⟨_, by simp [readW, replyF, putBox, zF]; rfl⟩, by simp [readW, readZ, replyF, putBox, zF], by simp [readZ, replyF, putBox, zF, zT, hB, wB]⟩
def msgE : List Int := [(packZ 0 0 16 5).1]
def zE : FmS := { fm0 socE with h0 := 1, w0 := msgE }
theorem msgE_ok : (packZ 0 0 16 5).2 = 0 ∧ getZ (packZ 0 0 16 5).1 28 4 = 0 ∧ getZ (packZ 0 0 16 5).1 10 8 = 16 ∧ getZ (packZ 0 0 16 5).1 0 8 = 0 ∧ 0 ≤ (packZ 0 0 16 5).1 ∧ (packZ 0 0 16 5).1 < 4294967296 := by decide +kernel
theorem zE_send : (sendF (fm0 socE) 0 msgE) = (0, zE) := by simp [sendF, fm0, inB, zE]
theorem zE_next : nextF zE = some 0 := rfl
theorem zE_ok : FmOk socE zE := ⟨.inr rfl, fun x hx => by simp [zE, msgE] at hx; subst hx; exact msgE_ok.2.2.2.2, fun x hx => by simp [zE, fm0] at hx, by simp [zE, msgE], by simp [zE, fm0], zero_sm socE_okT, zero_sm socE_okT⟩
theorem zE_dec (x : HwS) : decZ socE x zE 0 = (0, 0, 0) := by
 have h : readF socE msgE = (0, 0, 0) := by decide +kernel
 unfold decZ decF
 rw [show boxW zE 0 = msgE from rfl, h]
 rfl
theorem zE_take (x : HwS) : takeF socE x zE = ({ zE with last := 0, h0 := 2, w0 := [(packZ 0 0 16 5).1, 0, 131072] }, false) := by
 unfold takeF
 rw [zE_next]
 dsimp only
 unfold takeA
 dsimp only
 rw [zE_dec]
 have hm : moreF socE x msgE = [131072] := by
  unfold moreF
  dsimp only
  rw [if_pos (show getZ (msgE.headD 0) 0 8 = 0 from msgE_ok.2.2.2.1)]
 have hw : IntKind.u32.wrap 0 = 0 := by decide +kernel
 simp [replyF, putBox, answF, boxW, zE, hm, hw]
 rfl
theorem zE_reply : ReplyOk (boxW zE 0) := ⟨⟨_, _, rfl, msgE_ok.2.1, fun h => by
 obtain ⟨_, _, h3, h4, _⟩ := msgE_ok
 rw [h3, h4] at h
 omega⟩⟩
end Go.Proofs.YticjkhagldkejaaGreatDoor
/- A call that turns a chunk, and tells how. -/
namespace Go.Proofs.YticjkhagldkejaaGreatDoor
set_option linter.all false
open Go.RowKit
section
variable {P : Program} {N : Frm} {w0 : World} {e : Env} {R : List Piece} {H : List HP} {Q : Exit → Act → World → Prop} {ops : Array Oper} {rest : List Oper}
variable {d : Nat} {ty : TypeId} {pos : String} {aft : Array Edge}
theorem xk_callMV {α : Type} (i : Nat) {f : FuncId} {x : Operand} {args : List Operand} {fi ca vs : List Value} {tys : Array TypeId} {p : HP} (v : α → Value) (q : α → HP) (G : α → Prop) (hf : callB P f = true) (hx : e.ev x = some (.func (.func f) fi.toArray ca.toArray)) (ha : e.evs args = some vs) (hi : H[i]? = some p) (hd : d < N.n)
  (hc : ∀ w F, St w0 R H w → p.sat F w → (∀ b, F b → b < w.heap.size) → (∀ q ∈ R, q.Le ⟨w, fun b => b < w.heap.size ∧ ¬ F b⟩) → Calls P f (fi ++ vs ++ ca).toArray w fun y w' => ∃ a, y = .returned (v a) ∧ G a ∧ ∃ F', (q a).sat F' w' ∧ Turns w w' F F')
  (k : ∀ a, G a → XK N w0 (wpList P ops Q rest) ((d, v a) :: e) R (H.set i (q a))) : XK N w0 (wpList P ops Q (⟨some d, .call { callee := .value x, args := args.toArray, argTypes := tys }, ty, pos, aft, none⟩ :: rest)) e R H := fun a w hr st => wpList_plain rfl fun K hK => by
 unfold callB at hf
 cases hq : P.funcs[f]? with
 | none => simp [hq] at hf
 | some fn =>
  simp [hq] at hf
  obtain ⟨hf1, hf2⟩ := hf
  have hrun : (execOp a.eval (⟨some d, .call { callee := .value x, args := args.toArray, argTypes := tys }, ty, pos, aft, none⟩ : Oper)).run P w = .ok (.enter f (fi ++ vs ++ ca).toArray) w := by
   cases hb : fn.body with
   | none => simp [hb] at hf2
   | some c => simp [execOp, resolve, hr.ev hx, Deferred.ofValue, invoke, callFunc, hq, hf1, hb, hr.evs ha]
  obtain ⟨F, hp, hlt, hle, hset⟩ := st.chunk hi
  unfold Oper.wp
  rw [hrun]
  refine (hc w F st hp hlt hle).mono fun y w' hy => ?_
  obtain ⟨a', rfl, hG, F', hs, ht⟩ := hy
  exact hK _ _ (k a' hG _ _ (hr.put hd (v a')) (hset w' F' (q a') hs ht))
end
end Go.Proofs.YticjkhagldkejaaGreatDoor
/- chapter 15's example. -/
namespace Go.Proofs.YticjkhagldkejaaGreatDoor
set_option linter.all false
set_option maxHeartbeats 4000000
set_option maxRecDepth 20000
open Go.RowKit
theorem shown15_any (w : World) : Calls Tryz.prog 13 #[] w (Rt (.bool true) w) := by
 refine XK.enter (vs := []) Tryz.func13 rfl Tryz.ntmps13 (by simp) ?_
 refine XK.go ?_
 refine xk_alloc (cs := [.slice none 0 0, .slice none 0 0, .slice none 0 0, .slice none 0 0]) (zeroB_of (by kernel_rfl)) (by decide) fun g1 => ?_
 refine XK.go ?_
 refine xk_callN (f := 15) (fi := []) (ca := []) (by kernel_rfl) rfl rfl (by decide) (HardOk socE) (fun w1 t => hardNew_ok socE socE_okH none none none none 0 0 0 0 0 0 0 0 w1 (socE_W w1)) ?_
 rintro _ _ q1 ⟨hL, rfl, rfl, hl1, hl2⟩ _
 dsimp only [List.cons_append, List.nil_append]
 refine XK.go ?_
 refine xk_callN (f := 16) (fi := []) (ca := []) (by kernel_rfl) rfl rfl (by decide) (FirmOk hL.h socE) (fun w1 t => firmNew_ok hL.h socE socE_okH none none none none 0 0 0 0 0 0 0 0 w1 (socE_W w1)) ?_
 rintro _ _ q2 ⟨f, rfl, rfl⟩ _
 dsimp only [List.cons_append, List.nil_append]
 refine XK.go ?_
 refine xk_buildS (zs := [.int .i64 0, .int .i64 0, .int .i64 0, .int .i64 0]) (L := [(0, 1), (1, 1), (2, 1), (3, 1)]) (zeroB_of (by kernel_rfl)) (by kernel_rfl) rfl (by simp [fillL, setN, Value.cells]; rfl) (by decide) ?_
 refine xk_call [] (f := 18) (fi := []) (ca := []) (by kernel_rfl) rfl rfl (by decide) (by simp) (CmdOk ((packZ 0 0 16 5).1 :: [])) (fun w1 t => command_any 0 0 16 5 none 0 0 [] w1 (SlS.nil _ _) rfl (by omega) msgE_ok.1) ?_
 rintro _ w1 q3 ⟨Al, cl, rfl, hl⟩ hf _ _
 have hl := hl.le hf
 clear hf
 refine XK.weak [0, 1] rfl (by decide) (R' := [q3, all w]) (by simp) ?_
 refine XK.go ?_
 refine kcallW 0 (FirmX f hL.h socE zE) (fun w1 F1 t h1 h2 h3 => by
  have := fmSend_m f hL.h socE (fm0 socE) 0 Al _ cl msgE w1 F1 h1 h2 (hl.le (h3 _ (by simp))) rfl (by decide)
  rw [zE_send] at this
  exact this) ?_
 dsimp only [List.set]
 refine XK.go ?_
 refine XK.pair ?_
 refine kcallW 0 (MachH f hL socE (takeF socE (hw0 socE) zE).1 (hw0 socE)) (fun w1 F1 t h1 h2 h3 => fmStep_ask f hL socE zE (hw0 socE) socE_okH ⟨hl1, hl2⟩ (hw0_ok socE_okH) zE_ok (fun a ha _ _ => by cases ha.symm.trans zE_next; exact zE_reply) (by decide) (by rw [zE_take]) w1 F1 h1 h2) ?_
 dsimp only [List.set]
 rw [zE_take]
 refine XK.go ?_
 refine XK.take 0 0 rfl rfl ?_
 dsimp only [List.set]
 refine xk_callMV (α := AC) 0 (f := 21) (fi := []) (ca := []) (fun c => .tuple #[.slice c.1 3 c.2, .bool true]) (fun c => readH f hL.h socE { zE with last := 0, h0 := 0, w0 := [] } [(packZ 0 0 16 5).1, 0, 131072] c) (fun _ => True) (by kernel_rfl) rfl rfl rfl (by decide) (fun w1 F1 t h1 h2 h3 => fmRead_m f hL.h socE { zE with last := 0, h0 := 2, w0 := [(packZ 0 0 16 5).1, 0, 131072] } 0 w1 F1 h1 h2) ?_
 rintro ⟨Ar, cr⟩ _
 dsimp only [List.set]
 refine XK.take 0 1 rfl rfl ?_
 dsimp only [List.set]
 refine XK.still [] [0] [] (by simp) rfl (by decide) (by decide) fun q hq _ hfr => ?_
 obtain ⟨F2, sf2, zf2⟩ := hq 0 _ (by simp) rfl
 have hr : BxP (Ar, cr) [(packZ 0 0 16 5).1, 0, 131072] q := BxP.le ⟨q.w, F2⟩ q (fun b hb => ⟨zf2 b hb, rfl⟩) sf2
 unfold msgE at hl
 generalize (packZ 0 0 16 5).1 = hd at hr hl ⊢
 obtain ⟨b, off, rfl, hb, hc⟩ := hr.2 (by simp)
 obtain ⟨lb, lo, rfl, hlb, hlc⟩ := hl.2 (by simp)
 have r0 : Rd w [q, q3, all w] [] b off (.int .u32 hd) := Rd.ro (p := q) (by simp) hb (hc 0 _ rfl)
 have r1 : Rd w [q, q3, all w] [] b (off + 1) (.int .u32 0) := Rd.ro (p := q) (by simp) hb (hc 1 _ rfl)
 have r2 : Rd w [q, q3, all w] [] b (off + 2) (.int .u32 131072) := Rd.ro (p := q) (by simp) hb (hc 2 _ rfl)
 have l0 : Rd w [q, q3, all w] [] lb lo (.int .u32 hd) := Rd.ro (p := q3) (by simp) hlb (hlc 0 _ rfl)
 refine XK.go ?_
 refine XK.drawQ ?_
 refine XQ.go ?_
 refine XQ.kd (dat 0 off) ?_
 refine XQ.go ?_
 refine XQ.kd (dat 0 lo (hlt := by simp)) ?_
 refine XQ.go ?_
 refine XQ.split 65 rfl (fun _ => ?_) (fun h => absurd rfl h)
 refine XQ.go ?_
 refine XQ.kd (dat 1 (off + 1)) ?_
 refine XQ.go ?_
 refine XQ.kd (dat 2 (off + 2)) ?_
 refine XQ.end_ ?_
 refine XK.go ?_
 exact XK.retE (by simp) rfl
end Go.Proofs.YticjkhagldkejaaGreatDoor
