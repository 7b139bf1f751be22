/- chapter 14's example. -/
import Derived.Test.YtbcfbafpeidifaaTableTwiceK5
namespace Go.Proofs.Ytbcfbafpeidifaa
set_option linter.all false
open Go.RowKit
theorem soc1_dec : decF soc1 (zeroW soc1) (zeroW soc1) [] 0 [(packZ 5 0 17 0).1, 9] = (-4, 0, 0) := by decide +kernel
theorem soc1_pack : (packZ 5 0 17 0).2 = 0 := by decide +kernel
theorem soc1_u32 : U32s [(packZ 5 0 17 0).1, 9] := by
  intro x hx
  simp at hx
  rcases hx with rfl | rfl
  · exact pack_bd _ _ _ _
  · omega

theorem shown14_any (w : World) : Calls Try.prog 6 #[] w (Rt (.bool true) w) := by
  refine XK.enter (vs := []) Try.func6 rfl Try.ntmps6 (by simp) ?_
  refine XK.seq ?_

  refine XK.region ?_
  refine xk_assign rfl (by decide) ?_
  refine XK.nilN ?_
  refine XK.seq ?_

  refine XK.region ?_
  refine xk_buildS (zs := [.int .i64 0, .int .i64 0, .bool false]) (L := [(0, 1), (1, 1), (2, 1)]) (zeroB_of (by kernel_rfl)) (by kernel_rfl) rfl (by simp [fillL, setN, Value.cells]; rfl) (by decide) ?_
  refine xk_slice (el := 57) (sz := 3) (zs := [.int .i64 0, .int .i64 0, .bool false]) (by kernel_rfl) (zeroB_of (by kernel_rfl)) (by kernel_rfl) rfl (by decide) (by decide) rfl (by simp [fillL, setN, Value.cells, List.range_succ, List.set]; rfl) (by decide) fun g1 => ?_
  refine xk_buildS (zs := [.slice none 0 0, .slice none 0 0, .slice none 0 0, .slice none 0 0]) (L := [(0, 1), (1, 1), (2, 1), (3, 1)]) (zeroB_of (by kernel_rfl)) (by kernel_rfl) rfl (by simp [fillL, setN, Value.cells]; rfl) (by decide) ?_
  refine xk_alloc (cs := [.slice none 0 0, .slice none 0 0, .slice none 0 0, .slice none 0 0]) (zeroB_of (by kernel_rfl)) (by decide) fun g2 => ?_
  (first | (refine xk_storeN 0 rfl rfl rfl (by kernel_rfl) (by simp [Value.cells, Value.oneCell']) (by simp [Value.cells]) ?_) | (refine xk_storeN 1 rfl rfl rfl (by kernel_rfl) (by simp [Value.cells, Value.oneCell']) (by simp [Value.cells]) ?_) | (refine xk_storeN 2 rfl rfl rfl (by kernel_rfl) (by simp [Value.cells, Value.oneCell']) (by simp [Value.cells]) ?_) | (refine xk_storeN 3 rfl rfl rfl (by kernel_rfl) (by simp [Value.cells, Value.oneCell']) (by simp [Value.cells]) ?_) | (refine xk_storeN 4 rfl rfl rfl (by kernel_rfl) (by simp [Value.cells, Value.oneCell']) (by simp [Value.cells]) ?_) | (refine xk_storeN 5 rfl rfl rfl (by kernel_rfl) (by simp [Value.cells, Value.oneCell']) (by simp [Value.cells]) ?_) | (refine xk_storeN 6 rfl rfl rfl (by kernel_rfl) (by simp [Value.cells, Value.oneCell']) (by simp [Value.cells]) ?_) | (refine xk_storeN 7 rfl rfl rfl (by kernel_rfl) (by simp [Value.cells, Value.oneCell']) (by simp [Value.cells]) ?_) | (refine xk_storeN 8 rfl rfl rfl (by kernel_rfl) (by simp [Value.cells, Value.oneCell']) (by simp [Value.cells]) ?_)); simp only [putN, Value.cells, List.set, List.take, List.drop, List.nil_append, List.append_nil, List.length_cons, List.length_nil, List.cons_append, Nat.reduceAdd]
  refine XK.nilN ?_
  refine XK.seq ?_

  refine XK.region ?_
  refine xk_buildS (zs := [.int .i64 0, .int .i64 0, .int .i64 0, .int .i64 0]) (L := [(0, 1), (1, 1), (2, 1), (3, 1)]) (zeroB_of (by kernel_rfl)) (by kernel_rfl) rfl (by simp [fillL, setN, Value.cells]; rfl) (by decide) ?_
  refine xk_slice (el := 54) (sz := 1) (zs := [.int .u32 0]) (by kernel_rfl) (zeroB_of (by kernel_rfl)) (by kernel_rfl) rfl (by decide) (by decide) rfl (by simp [fillL, setN, Value.cells, List.range_succ, List.set]; rfl) (by decide) fun g3 => ?_
  refine xk_call [] (f := 13) (fi := []) (ca := []) (by kernel_rfl) rfl rfl (by decide) (by simp) (CmdOk ((packZ 5 0 17 0).1 :: [9])) (fun w1 st => command_any 5 0 17 0 (some ⟨g3, 0, none⟩) 1 1 [9] w1 (st.slS (i := 0) rfl rfl) rfl (by omega) soc1_pack) ?_
  rintro _ w1 q1 ⟨Al, cl, rfl, hl⟩ hf _ _
  have hl := hl.le hf
  clear hf
  refine xk_move rfl (by decide) ?_
  refine xk_extract rfl rfl (by decide) ?_
  refine xk_extract rfl rfl (by decide) ?_
  refine xk_assign rfl (by decide) ?_
  refine xk_assign rfl (by decide) ?_
  refine XK.nilN ?_
  refine XK.cut (fun e R H => ∃ g4, e = [(5, .pointer (some ⟨g4, 0, none⟩)), (4, .int .i32 (-4)), (3, .int .i64 0)] ∧ R = [all w] ∧ H = [HP.blk g4 43 [.int .u8 0, .int .i64 0]]) ?_ ?_
  ·

    refine XK.draw 10 (by kernel_rfl) (by kernel_rfl) ?_
    refine XA.dA 0 rfl rfl rfl (does_ldN 4 rfl) ?_
    refine XA.dA 1 rfl rfl rfl (does_ldN 4 rfl) ?_
    refine XA.dA 3 rfl rfl rfl (does_move rfl) ?_
    refine XA.maybe0 (j := 8) 5 43 [.int .u8 0, .int .i64 0] fun M => ?_
    refine XA.maybe 2 8 rfl rfl (zeroB_of (by kernel_rfl)) (by decide) (by kernel_rfl) (by kernel_rfl) (fun _ h => h) (fun M => ?_)
    refine xk_call [] (f := 8) (fi := []) (ca := []) (by kernel_rfl) (ev_M M rfl rfl) (evs_M M rfl rfl) (by decide) (by simp) (fun v w w' => StR (fresh w w') (zeroW soc1) (zeroW soc1) v) (fun w1 st => start_any soc1 none (some ⟨g1, 0, none⟩) none none 0 1 0 0 w1 soc1_okT) ?_
    rintro _ w1 qs hS0 hf _ _
    have hS0 := StR.le hS0 hf
    clear hf
    obtain ⟨Z0, Zk0, Z1, Zk1, Z2, Zk2, Z3, Zk3, Z4, Zk4, Z5, Zk5, rfl, e1, e2, e3, e4, e5, e6⟩ := hS0
    have hS0 : StR qs (zeroW soc1) (zeroW soc1) (.agg #[.slice Z0 (zeroW soc1).d.length Zk0, .slice Z1 (zeroW soc1).c.length Zk1, .slice Z2 (zeroW soc1).l.length Zk2, .slice Z3 (zeroW soc1).d.length Zk3, .slice Z4 (zeroW soc1).c.length Zk4, .slice Z5 (zeroW soc1).l.length Zk5]) := ⟨Z0, Zk0, Z1, Zk1, Z2, Zk2, Z3, Zk3, Z4, Zk4, Z5, Zk5, rfl, e1, e2, e3, e4, e5, e6⟩
    clear e1 e2 e3 e4 e5 e6
    refine XK.nil ?_; refine XK.thenN ?_; refine XA.backM (by decide) rfl (fun _ h => h.tailR) ?_
    refine XA.maybe 4 8 rfl rfl (zeroB_of (by kernel_rfl)) (by decide) (by kernel_rfl) (by kernel_rfl) (fun _ h => h.tailR) (fun M => ?_)
    refine xk_callR (f := 10) (fi := []) (ca := []) (by kernel_rfl) (ev_M M rfl rfl) (evs_M M rfl rfl) (by decide) (v0 := actV (decF soc1 (zeroW soc1) (zeroW soc1) [] 0 [(packZ 5 0 17 0).1, 9])) (fun w1 st => decide_any (all w1) qs soc1 none (some ⟨g1, 0, none⟩) none none _ _ _ _ _ _ _ _ Z0 Z1 Z2 Z3 Z4 Z5 _ Zk0 _ Zk1 _ Zk2 _ Zk3 _ Zk4 _ Zk5 (zeroW soc1) (zeroW soc1) none 0 0 [] 0 Al 2 cl [(packZ 5 0 17 0).1, 9] w1 (soc1_W (st.unM.slS (i := 2) rfl rfl)).P soc1_okT (Piece.Le.refl _) hS0 (st.le (by simp)) (SlS.nil _ _) rfl (by omega) (hl.le (st.le (by simp))) rfl (by omega) soc1_u32) ?_
    rw [soc1_dec]
    simp only [actV]
    refine XK.nil ?_; refine XK.thenN ?_; refine XA.backM (by decide) rfl (fun _ h => h.tailR) ?_
    cases M
    · dsimp only [emM, hmM, lmM, fmM]
      refine XA.do_ 5 rfl rfl rfl (by decide) (does_move rfl) (by kernel_rfl) (fun _ _ _ h => h) (fun _ h => h.tailR) ?_
      refine XA.do_ 6 rfl rfl rfl (by decide) (does_extract rfl rfl) (by kernel_rfl) (fun _ _ _ h => h) (fun _ h => h.tailR) ?_
      refine XA.do_ 7 rfl rfl rfl (by decide) (does_extract rfl rfl) (by kernel_rfl) (fun _ _ _ h => h) (fun _ h => h.tailR) ?_
      refine XA.next 8 rfl (by kernel_rfl) ?_
      refine xk_alloc (cs := [.int .u8 0, .int .i64 0]) (zeroB_of (by kernel_rfl)) (by decide) fun g4 => ?_
      refine XK.nil ?_; refine XK.thenN ?_; refine XA.back (fun _ h => h.tailR.tail) ?_
      refine XA.do_ 9 rfl rfl rfl (by decide) (does_assign rfl) (by kernel_rfl) (fun _ _ _ h => h) (fun _ h => h.tailR.tail) ?_
      refine XA.next 10 rfl (by kernel_rfl) ?_
      (first | (refine xk_storeN 0 rfl rfl rfl (by kernel_rfl) (by simp [Value.cells, Value.oneCell']) (by simp [Value.cells]) ?_) | (refine xk_storeN 1 rfl rfl rfl (by kernel_rfl) (by simp [Value.cells, Value.oneCell']) (by simp [Value.cells]) ?_) | (refine xk_storeN 2 rfl rfl rfl (by kernel_rfl) (by simp [Value.cells, Value.oneCell']) (by simp [Value.cells]) ?_) | (refine xk_storeN 3 rfl rfl rfl (by kernel_rfl) (by simp [Value.cells, Value.oneCell']) (by simp [Value.cells]) ?_) | (refine xk_storeN 4 rfl rfl rfl (by kernel_rfl) (by simp [Value.cells, Value.oneCell']) (by simp [Value.cells]) ?_) | (refine xk_storeN 5 rfl rfl rfl (by kernel_rfl) (by simp [Value.cells, Value.oneCell']) (by simp [Value.cells]) ?_) | (refine xk_storeN 6 rfl rfl rfl (by kernel_rfl) (by simp [Value.cells, Value.oneCell']) (by simp [Value.cells]) ?_) | (refine xk_storeN 7 rfl rfl rfl (by kernel_rfl) (by simp [Value.cells, Value.oneCell']) (by simp [Value.cells]) ?_) | (refine xk_storeN 8 rfl rfl rfl (by kernel_rfl) (by simp [Value.cells, Value.oneCell']) (by simp [Value.cells]) ?_)); simp only [putN, Value.cells, List.set, List.take, List.drop, List.nil_append, List.append_nil, List.length_cons, List.length_nil, List.cons_append, Nat.reduceAdd]
      refine XA.bt ?_
      refine XA.done (by kernel_rfl) ?_
      refine XK.norm ?_
      exact XK.weakR (by simp) (XK.weak [0] rfl (by decide) (fun _ h => h) (XK.envS [(5, .pointer (some ⟨g4, 0, none⟩)), (4, .int .i32 (-4)), (3, .int .i64 0)] (XK.meet ⟨g4, rfl, rfl, rfl⟩)))
    · rename_i g4
      dsimp only [emM, hmM, lmM, fmM]
      refine XA.do_ 5 rfl rfl rfl (by decide) (does_move rfl) (by kernel_rfl) (fun _ _ _ h => h) (fun _ h => h.tailR.tail) ?_
      refine XA.do_ 6 rfl rfl rfl (by decide) (does_extract rfl rfl) (by kernel_rfl) (fun _ _ _ h => h) (fun _ h => h.tailR.tail) ?_
      refine XA.do_ 7 rfl rfl rfl (by decide) (does_extract rfl rfl) (by kernel_rfl) (fun _ _ _ h => h) (fun _ h => h.tailR.tail) ?_
      refine XA.do_ 9 rfl rfl rfl (by decide) (does_assign rfl) (by kernel_rfl) (fun _ _ _ h => h) (fun _ h => h.tailR.tail) ?_
      refine XA.next 10 rfl (by kernel_rfl) ?_
      (first | (refine xk_storeN 0 rfl rfl rfl (by kernel_rfl) (by simp [Value.cells, Value.oneCell']) (by simp [Value.cells]) ?_) | (refine xk_storeN 1 rfl rfl rfl (by kernel_rfl) (by simp [Value.cells, Value.oneCell']) (by simp [Value.cells]) ?_) | (refine xk_storeN 2 rfl rfl rfl (by kernel_rfl) (by simp [Value.cells, Value.oneCell']) (by simp [Value.cells]) ?_) | (refine xk_storeN 3 rfl rfl rfl (by kernel_rfl) (by simp [Value.cells, Value.oneCell']) (by simp [Value.cells]) ?_) | (refine xk_storeN 4 rfl rfl rfl (by kernel_rfl) (by simp [Value.cells, Value.oneCell']) (by simp [Value.cells]) ?_) | (refine xk_storeN 5 rfl rfl rfl (by kernel_rfl) (by simp [Value.cells, Value.oneCell']) (by simp [Value.cells]) ?_) | (refine xk_storeN 6 rfl rfl rfl (by kernel_rfl) (by simp [Value.cells, Value.oneCell']) (by simp [Value.cells]) ?_) | (refine xk_storeN 7 rfl rfl rfl (by kernel_rfl) (by simp [Value.cells, Value.oneCell']) (by simp [Value.cells]) ?_) | (refine xk_storeN 8 rfl rfl rfl (by kernel_rfl) (by simp [Value.cells, Value.oneCell']) (by simp [Value.cells]) ?_)); simp only [putN, Value.cells, List.set, List.take, List.drop, List.nil_append, List.append_nil, List.length_cons, List.length_nil, List.cons_append, Nat.reduceAdd]
      refine XA.bt ?_
      refine XA.done (by kernel_rfl) ?_
      refine XK.norm ?_
      exact XK.weakR (by simp) (XK.weak [0] rfl (by decide) (fun _ h => h) (XK.envS [(5, .pointer (some ⟨g4, 0, none⟩)), (4, .int .i32 (-4)), (3, .int .i64 0)] (XK.meet ⟨g4, rfl, rfl, rfl⟩)))
  rintro _ _ _ ⟨g4, rfl, rfl, rfl⟩
  refine XK.cutB 0 (True) ?_ ?_
  · skip

    refine XK.region ?_
    refine xk_move rfl (by decide) ?_
    refine xk_eql rfl rfl (by decide) ?_
    refine xk_move rfl (by decide) ?_
    (first | refine xk_split (t := 25) rfl (fun hg => ?_) (fun hg => ?_) | refine xk_splitB (t := 25) rfl (fun hg => ?_) (fun hg => ?_))
    ·
      refine xk_guardT rfl rfl ?_; refine xk_move rfl (by decide) ?_
      refine xk_guardT rfl rfl ?_; refine xk_eql rfl rfl (by decide) ?_
      (first | refine xk_pickT rfl rfl (by decide) ?_ | refine xk_pickF rfl rfl (by decide) ?_)
      refine xk_move rfl (by decide) ?_
      (first | refine xk_split (t := 29) rfl (fun hg => ?_) (fun hg => ?_) | refine xk_splitB (t := 29) rfl (fun hg => ?_) (fun hg => ?_))
      ·
        refine xk_guardT rfl rfl ?_; refine xk_ldN 2 rfl ?_
        refine xk_guardT rfl rfl ?_; refine xk_buildS (zs := [.int .u8 0, .int .i64 0]) (L := [(0, 1), (1, 1)]) (zeroB_of (by kernel_rfl)) (by kernel_rfl) rfl (by simp [fillL, setN, Value.cells]; rfl) (by decide) ?_
        refine xk_guardT rfl rfl ?_; refine xk_eqlS (xs := [.int .u8 0, .int .i64 0]) (ys := [.int .u8 0, .int .i64 0]) (by kernel_rfl) rfl rfl (by decide) ?_
        (first | refine xk_pickT rfl rfl (by decide) ?_ | refine xk_pickF rfl rfl (by decide) ?_)
        refine xk_assign rfl (by decide) ?_
        refine XK.nilN ?_
        exact XK.meetB (by repeat (first | exact trivial | refine ⟨rfl, ?_⟩)) (by first | (refine get_iff rfl ?_; omega) | (refine get_iff rfl ?_; simp_all; done) | (refine get_false rfl ?_; first | omega | (simp_all; done)) | (refine get_true rfl ?_; first | omega | (simp_all; done)) | (refine get_bool rfl ?_; simp_all; done) | (refine get_iff rfl ⟨fun hh => ?_, fun hh => ?_⟩ <;> first | omega | (simp_all; done) | (simp_all; omega)) | (exfalso; omega))
      ·
        refine xk_guardF rfl rfl rfl (by decide) ?_
        refine xk_guardF rfl rfl rfl (by decide) ?_
        refine xk_guardF rfl rfl rfl (by decide) ?_
        (first | refine xk_pickT rfl rfl (by decide) ?_ | refine xk_pickF rfl rfl (by decide) ?_)
        refine xk_assign rfl (by decide) ?_
        refine XK.nilN ?_
        exact XK.meetB (by repeat (first | exact trivial | refine ⟨rfl, ?_⟩)) (by first | (refine get_iff rfl ?_; omega) | (refine get_iff rfl ?_; simp_all; done) | (refine get_false rfl ?_; first | omega | (simp_all; done)) | (refine get_true rfl ?_; first | omega | (simp_all; done)) | (refine get_bool rfl ?_; simp_all; done) | (refine get_iff rfl ⟨fun hh => ?_, fun hh => ?_⟩ <;> first | omega | (simp_all; done) | (simp_all; omega)) | (exfalso; omega))
    ·
      refine xk_guardF rfl rfl rfl (by decide) ?_
      refine xk_guardF rfl rfl rfl (by decide) ?_
      (first | refine xk_pickT rfl rfl (by decide) ?_ | refine xk_pickF rfl rfl (by decide) ?_)
      refine xk_move rfl (by decide) ?_
      refine xk_guardF rfl rfl rfl (by decide) ?_
      refine xk_guardF rfl rfl rfl (by decide) ?_
      refine xk_guardF rfl rfl rfl (by decide) ?_
      (first | refine xk_pickT rfl rfl (by decide) ?_ | refine xk_pickF rfl rfl (by decide) ?_)
      refine xk_assign rfl (by decide) ?_
      refine XK.nilN ?_
      exact XK.meetB (by repeat (first | exact trivial | refine ⟨rfl, ?_⟩)) (by first | (refine get_iff rfl ?_; omega) | (refine get_iff rfl ?_; simp_all; done) | (refine get_false rfl ?_; first | omega | (simp_all; done)) | (refine get_true rfl ?_; first | omega | (simp_all; done)) | (refine get_bool rfl ?_; simp_all; done) | (refine get_iff rfl ⟨fun hh => ?_, fun hh => ?_⟩ <;> first | omega | (simp_all; done) | (simp_all; omega)) | (exfalso; omega))
  refine XK.ret ?_
  refine XK.norm ?_
  exact XK.ret1 rfl rfl fun w1 st => ⟨by simp, st.below (by simp)⟩

end Go.Proofs.Ytbcfbafpeidifaa
/- chapter 14's laws: asks, and what is told of them. No walk in sight. -/
namespace Go.Proofs.Ytbcfbafpeidifaa
set_option linter.all false
open Go.RowKit
structure AskT where
  a1 : Int
  a2 : Int
  a3 : Int
  a4 : Int
  a5 : Int
  a6 : Int
def AskT.cells (a : AskT) : List Value := [.int .i64 a.a1, .int .i64 a.a2, .int .i64 a.a3, .int .i64 a.a4, .int .i64 a.a5, .int .i64 a.a6]
def I64 (a : Int) : Prop := -9223372036854775808 ≤ a ∧ a ≤ 9223372036854775807
structure AskT.ok (a : AskT) : Prop where
  h1 : I64 a.a1
  h2 : I64 a.a2
  h3 : I64 a.a3
  h4 : I64 a.a4
  h5 : I64 a.a5
  h6 : I64 a.a6
theorem StR.six {q : Piece} {x y : Wsh} {X0 X1 X2 X3 X4 X5 : Option Addr} {k0 k1 k2 k3 k4 k5 : Nat} (h : StR q x y (.agg #[.slice X0 x.d.length k0, .slice X1 x.c.length k1, .slice X2 x.l.length k2, .slice X3 y.d.length k3, .slice X4 y.c.length k4, .slice X5 y.l.length k5])) :
    SlS q 1 X0 x.d.length (boolCells x.d) ∧ SlS q 1 X1 x.c.length (boolCells x.c) ∧ SlS q 1 X2 x.l.length (boolCells x.l) ∧ SlS q 1 X3 y.d.length (boolCells y.d) ∧ SlS q 1 X4 y.c.length (boolCells y.c) ∧ SlS q 1 X5 y.l.length (boolCells y.l) := by
  obtain ⟨C1, j1, C2, j2, C3, j3, D1, i1, D2, i2, D3, i3, he, s1, s2, s3, s4, s5, s6⟩ := h
  simp only [Value.agg.injEq, Array.mk.injEq, List.cons.injEq, Value.slice.injEq] at he
  obtain ⟨⟨rfl, _⟩, ⟨rfl, _⟩, ⟨rfl, _⟩, ⟨rfl, _⟩, ⟨rfl, _⟩, ⟨rfl, _⟩, _⟩ := he
  exact ⟨s1, s2, s3, s4, s5, s6⟩
theorem setW_len (x : Wsh) (k id : Int) : (setW x k id).d.length = x.d.length ∧ (setW x k id).c.length = x.c.length ∧ (setW x k id).l.length = x.l.length := by
  unfold setW
  split
  · exact ⟨setBL_len _ _ _, rfl, rfl⟩
  · split
    · exact ⟨rfl, setBL_len _ _ _, rfl⟩
    · split
      · exact ⟨rfl, rfl, setBL_len _ _ _⟩
      · exact ⟨rfl, rfl, rfl⟩
theorem setW_sm {x : Wsh} (h : x.sm) (k id : Int) : (setW x k id).sm := by
  obtain ⟨h1, h2, h3⟩ := setW_len x k id
  exact ⟨by rw [h1]; exact h.d, by rw [h2]; exact h.c, by rw [h3]; exact h.l⟩
theorem doneX_sm {x : Wsh} (h : x.sm) (ag : Nat) (k id : Int) : (doneX x ag k id).sm := by
  unfold doneX; split
  · exact setW_sm h k id
  · exact h
theorem doneY_sm {x : Wsh} (h : x.sm) (ag : Nat) (k id : Int) : (doneY x ag k id).sm := by
  unfold doneY; split
  · exact h
  · exact setW_sm h k id
theorem zeroW_sm {s : Soc} (h : s.okT) : (zeroW s).sm := by
  have h1 := h.nc
  have h2 := h.nd
  have h3 := h.nr
  exact ⟨by simp [zeroW]; omega, by simp [zeroW]; omega, by simp [zeroW]; omega⟩
/-- what only asks has a status, and nothing is to be done -/
theorem dec_zero {s : Soc} {x y : Wsh} {wt : List Int} {ag : Nat} {l : List Int} {st : Int} (h : readF s l = (st, 0, 0)) : decF s x y wt ag l = (st, 0, 0) := by
  unfold decF
  rw [h, if_pos (.inr (.inl rfl))]
end Go.Proofs.Ytbcfbafpeidifaa
/- chapter 14: what is switched on, and off again. No walk in sight. -/
namespace Go.Proofs.Ytbcfbafpeidifaa
set_option linter.all false
open Go.RowKit
/-- the three kinds of things, and their messages -/
def Tw (r : Nat) (p m on off kn kf : Int) : Prop := (r = 0 ∧ p = 17 ∧ m = 4 ∧ on = 1 ∧ off = 0 ∧ kn = 117 ∧ kf = 100) ∨ (r = 1 ∧ p = 20 ∧ m = 7 ∧ on = 1 ∧ off = 0 ∧ kn = 99 ∧ kf = 111) ∨ (r = 2 ∧ p = 22 ∧ m = 4 ∧ on = 0 ∧ off = 1 ∧ kn = 114 ∧ kf = 97)
def aboveOf (s : Soc) (k : Nat) : Int := ((s.domains[k]?).map (·.above)).getD (-1)
theorem head_tw {r : Nat} {p m on off kn kf : Int} (h : Tw r p m on off kn kf) : (packZ m 0 p 0).2 = 0 ∧ unpackE (packZ m 0 p 0).1 = 0 ∧ hTyp (packZ m 0 p 0).1 = 0 ∧ hPro (packZ m 0 p 0).1 = p ∧ hMsg (packZ m 0 p 0).1 = m := by
  have key : ∀ m p : Int, (m = 4 ∨ m = 7) → (p = 17 ∨ p = 20 ∨ p = 22) → (packZ m 0 p 0).2 = 0 ∧ unpackE (packZ m 0 p 0).1 = 0 ∧ hTyp (packZ m 0 p 0).1 = 0 ∧ hPro (packZ m 0 p 0).1 = p ∧ hMsg (packZ m 0 p 0).1 = m := by
    intro m p hm hp
    have h1 := head_ok (k := 0) hm hp (by decide)
    obtain ⟨h1, h2, h3⟩ := h1
    rw [unpackH_eq] at h3
    simp only [headC, List.cons.injEq, Value.int.injEq, true_and, and_true] at h3
    exact ⟨h1, h2, h3.2.1, h3.2.2.1, h3.1⟩
  rcases h with ⟨_, rfl, rfl, _⟩ | ⟨_, rfl, rfl, _⟩ | ⟨_, rfl, rfl, _⟩
  · exact key 4 17 (.inl rfl) (.inl rfl)
  · exact key 7 20 (.inr rfl) (.inr (.inl rfl))
  · exact key 4 22 (.inl rfl) (.inr (.inr rfl))
/-- the words name an act, if it can be -/
theorem read_tw {s : Soc} {r : Nat} {p m on off kn kf n v k : Int} (h : Tw r p m on off kn kf) (h0 : 0 ≤ n) (hn : n < (numF s p : Int)) (hv : (v = on ∧ k = kn) ∨ (v = off ∧ k = kf)) : readF s [(packZ m 0 p 0).1, n, v] = if p = 20 ∧ ¬ swit s n.toNat then (-2, 0, 0) else (0, k, n) := by
  obtain ⟨_, e1, e2, e3, e4⟩ := head_tw h
  unfold readF
  dsimp only
  rw [e1, e2, e3, e4, if_neg (by simp)]
  have hn' : ¬ (numF s p : Int) ≤ n := by omega
  rcases h with ⟨_, rfl, rfl, rfl, rfl, rfl, rfl⟩ | ⟨_, rfl, rfl, rfl, rfl, rfl, rfl⟩ | ⟨_, rfl, rfl, rfl, rfl, rfl, rfl⟩
  · rw [show frmOf 17 4 = some ⟨2, 3, 100, 117, 107⟩ from rfl, show frmD 17 4 = ⟨2, 3, 100, 117, 107⟩ from rfl]
    rcases hv with ⟨rfl, rfl⟩ | ⟨rfl, rfl⟩ <;> simp [askF, hn', Frm.act, notF]
  · rw [show frmOf 20 7 = some ⟨2, 2, 111, 99, 0⟩ from rfl, show frmD 20 7 = ⟨2, 2, 111, 99, 0⟩ from rfl]
    rcases hv with ⟨rfl, rfl⟩ | ⟨rfl, rfl⟩ <;> simp [askF, hn', Frm.act, notF]
  · rw [show frmOf 22 4 = some ⟨2, 2, 114, 97, 0⟩ from rfl, show frmD 22 4 = ⟨2, 2, 114, 97, 0⟩ from rfl]
    rcases hv with ⟨rfl, rfl⟩ | ⟨rfl, rfl⟩ <;> simp [askF, hn', Frm.act, notF]
/-! wishes -/
theorem has_rep (n : Nat) (i : Nat) : hasB (List.replicate n false) i = false := by
  unfold hasB
  rw [List.getElem?_replicate]
  split <;> rfl
theorem wish_zero (s : Soc) (k id : Int) : wishF (zeroW s) k id = false := by
  unfold wishF kindL zeroW
  have h : ∀ n i, hasB (List.replicate n false) i = false := has_rep
  split
  · rw [h]; simp
  · split
    · rw [h]; simp
    · split
      · rw [h]; simp
      · simp [hasB]
/-- just one thing is wished -/
def oneW (s : Soc) (kn n : Int) : Wsh := setW (zeroW s) kn n
theorem has_set {l : List Bool} {b : Bool} {i j : Nat} (hi : i < l.length) : hasB (l.set i b) j = if i = j then b else hasB l j := by
  unfold hasB
  rw [List.getElem?_set]
  split
  · rename_i e; subst e; simp [hi]
  · rfl
section
variable {s : Soc} {r : Nat} {p m on off kn kf n : Int}
/-- the list of a kind of thing -/
theorem one_list (h : Tw r p m on off kn kf) (h0 : 0 ≤ n) (hn : n < (numF s p : Int)) {k : Int} (hk : k = kn ∨ k = kf ∨ (r = 0 ∧ k = 117) ∨ (r = 0 ∧ k = 100)) (i : Nat) : hasB (kindL k (oneW s kn n)) i = decide (i = n.toNat) := by
  have key : ∀ N : Nat, n < (N : Int) → hasB (setBL (List.replicate N false) n true) i = decide (i = n.toNat) := by
    intro N hN
    rw [setBL, if_pos ⟨h0, by simpa using hN⟩, has_set (by simp; omega), has_rep]
    by_cases e : n.toNat = i
    · simp [e]
    · simp [e, Ne.symm e]
  rcases h with ⟨rfl, rfl, rfl, rfl, rfl, rfl, rfl⟩ | ⟨rfl, rfl, rfl, rfl, rfl, rfl, rfl⟩ | ⟨rfl, rfl, rfl, rfl, rfl, rfl, rfl⟩
  · have e : kindL k (oneW s 117 n) = setBL (List.replicate s.domains.length false) n true := by
      rcases hk with rfl | rfl | ⟨_, rfl⟩ | ⟨_, rfl⟩ <;> simp [kindL, oneW, setW, zeroW, onB]
    rw [e]; exact key _ hn
  · have e : kindL k (oneW s 99 n) = setBL (List.replicate s.clocks.length false) n true := by
      rcases hk with rfl | rfl | ⟨h, _⟩ | ⟨h, _⟩
      · simp [kindL, oneW, setW, zeroW, onB]
      · simp [kindL, oneW, setW, zeroW, onB]
      · cases h
      · cases h
    rw [e]; exact key _ (by simpa [numF] using hn)
  · have e : kindL k (oneW s 114 n) = setBL (List.replicate s.resets.length false) n true := by
      rcases hk with rfl | rfl | ⟨h, _⟩ | ⟨h, _⟩
      · simp [kindL, oneW, setW, zeroW, onB]
      · simp [kindL, oneW, setW, zeroW, onB]
      · cases h
      · cases h
    rw [e]; exact key _ (by simpa [numF] using hn)
theorem one_wish (h : Tw r p m on off kn kf) (h0 : 0 ≤ n) (hn : n < (numF s p : Int)) {k : Int} (hk : k = kn ∨ k = kf ∨ (r = 0 ∧ k = 117) ∨ (r = 0 ∧ k = 100)) (i : Int) : wishF (oneW s kn n) k i = decide (i = n) := by
  unfold wishF
  rw [one_list h h0 hn hk]
  by_cases e : i = n
  · subst e; simp [h0]
  · by_cases hi : 0 ≤ i
    · have : ¬ i.toNat = n.toNat := by omega
      simp [e, this]
    · simp [hi, e]
/-- set, and set back -/
theorem one_off (h : Tw r p m on off kn kf) (h0 : 0 ≤ n) (hn : n < (numF s p : Int)) : setW (oneW s kn n) kf n = zeroW s := by
  have key : ∀ N : Nat, n < (N : Int) → setBL (setBL (List.replicate N false) n true) n false = List.replicate N false := by
    intro N hN
    have e1 : setBL (List.replicate N false) n true = (List.replicate N false).set n.toNat true := by rw [setBL, if_pos ⟨h0, by simpa using hN⟩]
    rw [e1, setBL, if_pos ⟨h0, by simpa using hN⟩, List.set_set]
    apply List.ext_getElem?
    intro j
    rw [List.getElem?_set]
    split
    · rename_i e; subst e
      rw [List.getElem?_replicate]
      simp
    · rfl
  rcases h with ⟨rfl, rfl, rfl, rfl, rfl, rfl, rfl⟩ | ⟨rfl, rfl, rfl, rfl, rfl, rfl, rfl⟩ | ⟨rfl, rfl, rfl, rfl, rfl, rfl, rfl⟩
  · simp [oneW, setW, zeroW, onB, key s.domains.length hn]
  · simp [oneW, setW, zeroW, onB, key s.clocks.length (by simpa [numF] using hn)]
  · simp [oneW, setW, zeroW, onB, key s.resets.length (by simpa [numF] using hn)]
theorem tw_on (h : Tw r p m on off kn kf) : onB kn ∧ ¬ onB kf ∧ kn ≠ 0 ∧ kf ≠ 0 := by
  rcases h with ⟨rfl, rfl, rfl, rfl, rfl, rfl, rfl⟩ | ⟨rfl, rfl, rfl, rfl, rfl, rfl, rfl⟩ | ⟨rfl, rfl, rfl, rfl, rfl, rfl, rfl⟩ <;> decide
/-! what is told -/
theorem dec_on {x y : Wsh} {wt : List Int} {ag : Nat} {l : List Int} {k id : Int} (hr : readF s l = (0, k, id)) (hk : onB k) (hk0 : k ≠ 0) (hw : wishF (if ag = 0 then x else y) k id = false) :
    decF s x y wt ag l = if k = 117 ∧ (s.domains[id.toNat]?).any (fun d => decide (d.above ≠ -1) && !wishedF x y 117 d.above) = true then (-3, 0, 0) else (0, k, id) := by
  unfold decF
  rw [hr]
  dsimp only
  rw [hw, if_neg (by simp [hk0, hk]), if_pos hk]
theorem dec_same {x y : Wsh} {wt : List Int} {ag : Nat} {l : List Int} {k id : Int} (hr : readF s l = (0, k, id)) (hw : wishF (if ag = 0 then x else y) k id = decide (onB k)) : decF s x y wt ag l = (0, 0, 0) := by
  unfold decF
  rw [hr]
  dsimp only
  rw [if_pos (.inr (.inr hw))]
theorem dec_off {x y : Wsh} {wt : List Int} {ag : Nat} {l : List Int} {k id : Int} (hr : readF s l = (0, k, id)) (hk : ¬ onB k) (hk0 : k ≠ 0) (hw : wishF (if ag = 0 then x else y) k id = true) :
    decF s x y wt ag l = if deniedF s x y ag k id = true then (-3, 0, 0) else if busyF s wt k id = true then (-6, 0, 0) else (0, k, id) := by
  unfold decF
  rw [hr]
  dsimp only
  rw [hw, if_neg (by simp [hk0, hk]), if_neg hk]
theorem dec_bad {x y : Wsh} {wt : List Int} {ag : Nat} {l : List Int} {st : Int} (hr : readF s l = (st, 0, 0)) : decF s x y wt ag l = (st, 0, 0) := dec_zero hr
theorem busy_nil (s : Soc) (k id : Int) : busyF s [] k id = false := busyF_false fun i hi => by simp [busyAt]
/-- nothing hangs on it, if it alone is wished -/
theorem hang_one (hm : s.made) (h : Tw r p m on off kn kf) (h0 : 0 ≤ n) (hn : n < (numF s p : Int)) {x y : Wsh} (hx : x = oneW s kn n ∨ x = zeroW s) (hy : y = oneW s kn n ∨ y = zeroW s) : hangF s x y kf n = false := by
  have hw : ∀ i : Nat, wishedF x y kf i = true → (i : Int) = n := by
    intro i hi
    unfold wishedF at hi
    rw [Bool.or_eq_true] at hi
    rcases hi with hi | hi
    · rcases hx with rfl | rfl
      · rw [one_wish h h0 hn (.inr (.inl rfl))] at hi; exact of_decide_eq_true hi
      · rw [wish_zero] at hi; cases hi
    · rcases hy with rfl | rfl
      · rw [one_wish h h0 hn (.inr (.inl rfl))] at hi; exact of_decide_eq_true hi
      · rw [wish_zero] at hi; cases hi
  refine hangF_false fun i hi => ?_
  cases ht : hangAt s x y kf n i with
  | false => rfl
  | true =>
    exfalso
    unfold hangAt at ht
    split at ht
    · rw [Bool.and_eq_true] at ht
      have e := hw i ht.2
      cases hd : s.domains[i]? with
      | none => rw [hd] at ht; simp at ht
      | some d =>
        rw [hd] at ht
        have ha : d.above = n := by simpa using ht.1
        have := (hm.domains i d hd).1
        omega
    · simp only [Bool.and_eq_true, decide_eq_true_eq] at ht
      exact ht.1 (hw i ht.2.1)
end
/-- can it be switched on, when nothing is wished? -/
def goodB (s : Soc) (p n : Int) : Prop := ¬ (p = 20 ∧ ¬ swit s n.toNat) ∧ ¬ (p = 17 ∧ aboveOf s n.toNat ≠ -1)
section
variable {s : Soc} {r : Nat} {p m on off kn kf n : Int} {a b : Nat}
theorem above_any (h : Tw r p m on off kn kf) (x y : Wsh) (hg : ¬ (p = 17 ∧ aboveOf s n.toNat ≠ -1)) : ¬ (kn = 117 ∧ (s.domains[n.toNat]?).any (fun d => decide (d.above ≠ -1) && !wishedF x y 117 d.above) = true) := by
  rintro ⟨h1, h2⟩
  have hp : p = 17 := by
    rcases h with ⟨_, rfl, _⟩ | ⟨_, rfl, rfl, rfl, rfl, rfl, rfl⟩ | ⟨_, rfl, rfl, rfl, rfl, rfl, rfl⟩
    · rfl
    · cases h1
    · cases h1
  have ha : aboveOf s n.toNat = -1 := Decidable.byContradiction fun hh => hg ⟨hp, hh⟩
  cases hd : s.domains[n.toNat]? with
  | none => rw [hd] at h2; simp at h2
  | some d =>
    rw [hd] at h2
    rw [aboveOf, hd] at ha
    simp at ha
    simp [ha] at h2
theorem twice_first (hm : s.made) (h : Tw r p m on off kn kf) (h0 : 0 ≤ n) (hn : n < (numF s p : Int)) : (goodB s p n ∧ decF s (zeroW s) (zeroW s) [] a [(packZ m 0 p 0).1, n, on] = (0, kn, n)) ∨
    (∃ st : Int, decF s (zeroW s) (zeroW s) [] a [(packZ m 0 p 0).1, n, on] = (st, 0, 0) ∧ st ≠ 0 ∧ ((st = -3 ∧ r = 0 ∧ 0 ≤ aboveOf s n.toNat) ∨ (st = -2 ∧ r = 1 ∧ kindOf s n.toNat ≠ 112 ∧ kindOf s n.toNat ≠ 103))) := by
  have hr := read_tw (v := on) (k := kn) h h0 hn (.inl ⟨rfl, rfl⟩)
  obtain ⟨t1, t2, t3, t4⟩ := tw_on h
  by_cases h1 : p = 20 ∧ ¬ swit s n.toNat
  · rw [if_pos h1] at hr
    refine .inr ⟨-2, dec_bad hr, by decide, .inr ⟨rfl, ?_, fun e => h1.2 (.inl e), fun e => h1.2 (.inr e)⟩⟩
    rcases h with ⟨_, rfl, _⟩ | ⟨rfl, _⟩ | ⟨_, rfl, _⟩
    · have := h1.1; omega
    · rfl
    · have := h1.1; omega
  · rw [if_neg h1] at hr
    have hd := dec_on (x := zeroW s) (y := zeroW s) (wt := []) (ag := a) hr t1 t3 (by split <;> exact wish_zero _ _ _)
    by_cases h2 : p = 17 ∧ aboveOf s n.toNat ≠ -1
    · obtain ⟨rfl, h3⟩ := h2
      have hk : kn = 117 ∧ r = 0 := by
        rcases h with ⟨rfl, _, _, _, _, rfl, _⟩ | ⟨_, h, _⟩ | ⟨_, h, _⟩
        · exact ⟨rfl, rfl⟩
        · cases h
        · cases h
      have hlt : n.toNat < s.domains.length := by have : n < ((s.domains.length : Nat) : Int) := hn; omega
      have hdm : s.domains[n.toNat]? = some s.domains[n.toNat] := List.getElem?_eq_getElem hlt
      have hab : aboveOf s n.toNat = (s.domains[n.toNat]).above := by rw [aboveOf, hdm]; rfl
      rw [if_pos ⟨hk.1, by rw [hdm]; simp [← hab, h3, wishedF, wish_zero]⟩] at hd
      refine .inr ⟨-3, hd, by decide, .inl ⟨rfl, hk.2, ?_⟩⟩
      have := (hm.domains n.toNat _ hdm).1
      rw [hab] at h3 ⊢
      omega
    · rw [if_neg (above_any h _ _ h2)] at hd
      exact .inl ⟨⟨h1, h2⟩, hd⟩
/-- the agents' wishes behind the first act -/
theorem done_one (ha : a < 2) (hb : (b : Int) = 1 - (a : Int)) : (if a = 0 then doneX (zeroW s) a kn n else doneY (zeroW s) a kn n) = oneW s kn n ∧ (if b = 0 then doneX (zeroW s) a kn n else doneY (zeroW s) a kn n) = zeroW s ∧
    (if a = 0 then doneY (zeroW s) a kn n else doneX (zeroW s) a kn n) = zeroW s ∧ (doneX (zeroW s) a kn n = oneW s kn n ∨ doneX (zeroW s) a kn n = zeroW s) ∧ (doneY (zeroW s) a kn n = oneW s kn n ∨ doneY (zeroW s) a kn n = zeroW s) ∧
    (if a = 0 then doneY (doneY (zeroW s) a kn n) b kn n else doneX (doneX (zeroW s) a kn n) b kn n) = oneW s kn n ∧ (if a = 0 then doneX (doneX (zeroW s) a kn n) b kn n else doneY (doneY (zeroW s) a kn n) b kn n) = oneW s kn n := by
  rcases (by omega : a = 0 ∨ a = 1) with rfl | rfl
  · have : b = 1 := by omega
    subst this
    simp [doneX, doneY, oneW]
  · have : b = 0 := by omega
    subst this
    simp [doneX, doneY, oneW]
theorem done_back (h : Tw r p m on off kn kf) (h0 : 0 ≤ n) (hn : n < (numF s p : Int)) (ha : a < 2) : doneX (doneX (zeroW s) a kn n) a kf n = zeroW s ∧ doneY (doneY (zeroW s) a kn n) a kf n = zeroW s := by
  have e := one_off h h0 hn
  unfold oneW at e
  rcases (by omega : a = 0 ∨ a = 1) with rfl | rfl <;> simp [doneX, doneY, e]
theorem twice_facts (hm : s.made) (h : Tw r p m on off kn kf) (h0 : 0 ≤ n) (hn : n < (numF s p : Int)) (hg : goodB s p n) (ha : a < 2) (hb : (b : Int) = 1 - (a : Int)) :
    decF s (doneX (zeroW s) a kn n) (doneY (zeroW s) a kn n) [] a [(packZ m 0 p 0).1, n, on] = (0, 0, 0) ∧ decF s (doneX (zeroW s) a kn n) (doneY (zeroW s) a kn n) [] b [(packZ m 0 p 0).1, n, on] = (0, kn, n) ∧
    decF s (doneX (zeroW s) a kn n) (doneY (zeroW s) a kn n) [] a [(packZ m 0 p 0).1, n, off] = (0, kf, n) ∧ decF s (doneX (zeroW s) a kn n) (doneY (zeroW s) a kn n) [] b [(packZ m 0 p 0).1, n, off] = (0, 0, 0) ∧
    decF s (doneX (doneX (zeroW s) a kn n) b kn n) (doneY (doneY (zeroW s) a kn n) b kn n) [] a [(packZ m 0 p 0).1, n, off] = (-3, 0, 0) ∧
    decF s (doneX (doneX (zeroW s) a kn n) a kf n) (doneY (doneY (zeroW s) a kn n) a kf n) [] a [(packZ m 0 p 0).1, n, on] = (0, kn, n) := by
  have hr1 := read_tw (v := on) (k := kn) h h0 hn (.inl ⟨rfl, rfl⟩)
  have hr2 := read_tw (v := off) (k := kf) h h0 hn (.inr ⟨rfl, rfl⟩)
  rw [if_neg hg.1] at hr1 hr2
  obtain ⟨t1, t2, t3, t4⟩ := tw_on h
  obtain ⟨d1, d2, d3, d4, d5, d6, d7⟩ := done_one (s := s) (kn := kn) (n := n) ha hb
  obtain ⟨e1, e2⟩ := done_back (a := a) h h0 hn ha
  have w1 : wishF (oneW s kn n) kn n = true := by rw [one_wish h h0 hn (.inl rfl)]; simp
  have w2 : wishF (oneW s kn n) kf n = true := by rw [one_wish h h0 hn (.inr (.inl rfl))]; simp
  refine ⟨dec_same hr1 ?_, ?_, ?_, dec_same hr2 ?_, ?_, ?_⟩
  · rw [d1, w1]; simp [t1]
  · rw [dec_on hr1 t1 t3 (by rw [d2]; exact wish_zero _ _ _), if_neg (above_any h _ _ hg.2)]
  · rw [dec_off hr2 t2 t4 (by rw [d1]; exact w2)]
    have hden : deniedF s (doneX (zeroW s) a kn n) (doneY (zeroW s) a kn n) a kf n = false := by
      rw [deniedF, d3, wish_zero, hang_one hm h h0 hn d4 d5]; rfl
    rw [hden, busy_nil]; simp
  · rw [d2, wish_zero]; simp [t2]
  · rw [dec_off hr2 t2 t4 (by rw [d7]; exact w2)]
    have hden : deniedF s (doneX (doneX (zeroW s) a kn n) b kn n) (doneY (doneY (zeroW s) a kn n) b kn n) a kf n = true := by
      rw [deniedF, d6, w2]; rfl
    rw [if_pos hden]
  · rw [e1, e2, dec_on hr1 t1 t3 (by split <;> exact wish_zero _ _ _), if_neg (above_any h _ _ hg.2)]
end
end Go.Proofs.Ytbcfbafpeidifaa
/- chapter 14: what is switched on is wished; off again it is as it was. -/
namespace Go.Proofs.Ytbcfbafpeidifaa
set_option linter.all false
open Go.RowKit

theorem u32_three (m t p k : Int) {r v : Int} (h0 : 0 ≤ r) (h1 : r < 4294967296) (h2 : 0 ≤ v) (h3 : v < 4294967296) : U32s [(packZ m t p k).1, r, v] := by
  intro x hx
  simp at hx
  rcases hx with rfl | rfl | rfl
  · exact pack_bd _ _ _ _
  · exact ⟨h0, h1⟩
  · exact ⟨h2, h3⟩
set_option maxHeartbeats 8000000 in
theorem twice_any (A : Option Addr) (n0 c : Nat) (zs : List Int) (ia iid ip : Int) (w : World) (h0 : SlS (all w) 1 A n0 (intCells zs)) (hz : I64s zs) (hn0 : n0 = zs.length) (hn2 : n0 ≤ 9223372036854775807) (hia : I64 ia) (hiid : I64 iid) (hip : I64 ip) :
    Calls Try.prog 4 #[.slice A n0 c, .int .i64 ia, .int .i64 iid, .int .i64 ip] w (Rt (.bool true) w) := by
  refine XK.enter (vs := [.slice A n0 c, .int .i64 ia, .int .i64 iid, .int .i64 ip]) Try.func4 rfl Try.ntmps4 (by simp) ?_
  refine XK.seq ?_

  refine XK.region ?_
  refine xk_assign rfl (by decide) ?_
  refine XK.nilN ?_
  refine XK.seq ?_

  refine XK.region ?_
  refine xk_callR (f := 6) (fi := []) (ca := []) (by kernel_rfl) rfl rfl (by decide) (fun w1 st => shown14_any w1) ?_
  refine xk_assign rfl (by decide) ?_
  refine XK.nilN ?_
  refine XK.seq ?_

  refine XK.region ?_
  refine xk_move rfl (by decide) ?_
  refine xk_call [] (f := 7) (fi := []) (ca := []) (by kernel_rfl) rfl rfl (by decide) (by simp) (fun v w w' => ∃ cs s, v = .agg cs ∧ SocR (slq (fresh w w')) s cs ∧ s.made) (fun w1 st => chip14_any A n0 c zs w1 (h0.le (st.le (by simp))) hz hn0 hn2) ?_
  rintro _ w1 q1 ⟨cs, s, rfl, hS, hm⟩ hf _ _
  obtain ⟨A1, n1, k1, A2, n2, k2, A3, n3, k3, A4, n4, k4, rfl, hSP⟩ := (hS.mono (slq_le hf)).P
  obtain ⟨rfl, rfl, rfl, rfl⟩ := hSP.len
  have hK := hm.okT
  clear hf hS
  refine xk_alloc (cs := [.slice none 0 0, .slice none 0 0, .slice none 0 0, .slice none 0 0]) (zeroB_of (by kernel_rfl)) (by decide) fun g1 => ?_
  (first | (refine xk_storeN 0 rfl rfl rfl (by kernel_rfl) (by simp [Value.cells, Value.oneCell']) (by simp [Value.cells]) ?_) | (refine xk_storeN 1 rfl rfl rfl (by kernel_rfl) (by simp [Value.cells, Value.oneCell']) (by simp [Value.cells]) ?_) | (refine xk_storeN 2 rfl rfl rfl (by kernel_rfl) (by simp [Value.cells, Value.oneCell']) (by simp [Value.cells]) ?_) | (refine xk_storeN 3 rfl rfl rfl (by kernel_rfl) (by simp [Value.cells, Value.oneCell']) (by simp [Value.cells]) ?_) | (refine xk_storeN 4 rfl rfl rfl (by kernel_rfl) (by simp [Value.cells, Value.oneCell']) (by simp [Value.cells]) ?_) | (refine xk_storeN 5 rfl rfl rfl (by kernel_rfl) (by simp [Value.cells, Value.oneCell']) (by simp [Value.cells]) ?_) | (refine xk_storeN 6 rfl rfl rfl (by kernel_rfl) (by simp [Value.cells, Value.oneCell']) (by simp [Value.cells]) ?_) | (refine xk_storeN 7 rfl rfl rfl (by kernel_rfl) (by simp [Value.cells, Value.oneCell']) (by simp [Value.cells]) ?_) | (refine xk_storeN 8 rfl rfl rfl (by kernel_rfl) (by simp [Value.cells, Value.oneCell']) (by simp [Value.cells]) ?_)); simp only [putN, Value.cells, List.set, List.take, List.drop, List.nil_append, List.append_nil, List.length_cons, List.length_nil, List.cons_append, Nat.reduceAdd]
  refine XK.nilN ?_
  refine XK.seq ?_
  refine XK.seq ?_

  refine XK.region ?_
  refine xk_move rfl (by decide) ?_
  (first | refine xk_notD rfl (by decide) ?_ | refine xk_not rfl (by decide) ?_)
  refine XK.nilN ?_
  refine XK.cond rfl (fun h => by cases h) (fun h => ?_)

  ·
    have hnc := hm.nc
    have hnd := hm.nd
    have hnr := hm.nr
    refine XK.skip ?_
    refine XK.norm ?_
    refine XK.seq ?_

    refine XK.region ?_
    refine xk_move rfl (by decide) ?_
    refine xk_callV (f := 9) (fi := []) (ca := []) (by kernel_rfl) rfl rfl (by decide) (fun v => ∃ r : Int, v = .int .i64 r ∧ 0 ≤ r ∧ r < 2) (fun w1 st => pick14_any _ _ w1 hia (by omega)) fun v hv => ?_
    obtain ⟨za, rfl, hr0za, hr1za⟩ := hv
    obtain ⟨a, rfl⟩ : ∃ a : Nat, za = (a : Int) := ⟨za.toNat, by omega⟩
    obtain ⟨b, hb⟩ : ∃ b : Nat, (b : Int) = 1 - (a : Int) := ⟨(1 - (a : Int)).toNat, by omega⟩
    refine xk_assign rfl (by decide) ?_
    refine XK.nilN ?_
    refine XK.seq ?_

    refine XK.region ?_
    refine xk_ldN 4 rfl ?_
    refine xk_call [] (f := 8) (fi := []) (ca := []) (by kernel_rfl) rfl rfl (by decide) (by simp) (fun v w w' => StR (fresh w w') (zeroW s) (zeroW s) v) (fun w1 st => start_any s A1 A2 A3 A4 k1 k2 k3 k4 w1 hK) ?_
    rintro _ w1 qs hS0 hf _ _
    have hS0 := StR.le hS0 hf
    clear hf
    obtain ⟨X0, Xk0, X1, Xk1, X2, Xk2, X3, Xk3, X4, Xk4, X5, Xk5, rfl, e1, e2, e3, e4, e5, e6⟩ := hS0
    have hS0 : StR qs (zeroW s) (zeroW s) (.agg #[.slice X0 (zeroW s).d.length Xk0, .slice X1 (zeroW s).c.length Xk1, .slice X2 (zeroW s).l.length Xk2, .slice X3 (zeroW s).d.length Xk3, .slice X4 (zeroW s).c.length Xk4, .slice X5 (zeroW s).l.length Xk5]) := ⟨X0, Xk0, X1, Xk1, X2, Xk2, X3, Xk3, X4, Xk4, X5, Xk5, rfl, e1, e2, e3, e4, e5, e6⟩
    clear e1 e2 e3 e4 e5 e6
    refine xk_alloc (cs := [.slice none 0 0, .slice none 0 0, .slice none 0 0, .slice none 0 0, .slice none 0 0, .slice none 0 0]) (zeroB_of (by kernel_rfl)) (by decide) fun g2 => ?_
    (first | (refine xk_storeN 0 rfl rfl rfl (by kernel_rfl) (by simp [Value.cells, Value.oneCell']) (by simp [Value.cells]) ?_) | (refine xk_storeN 1 rfl rfl rfl (by kernel_rfl) (by simp [Value.cells, Value.oneCell']) (by simp [Value.cells]) ?_) | (refine xk_storeN 2 rfl rfl rfl (by kernel_rfl) (by simp [Value.cells, Value.oneCell']) (by simp [Value.cells]) ?_) | (refine xk_storeN 3 rfl rfl rfl (by kernel_rfl) (by simp [Value.cells, Value.oneCell']) (by simp [Value.cells]) ?_) | (refine xk_storeN 4 rfl rfl rfl (by kernel_rfl) (by simp [Value.cells, Value.oneCell']) (by simp [Value.cells]) ?_) | (refine xk_storeN 5 rfl rfl rfl (by kernel_rfl) (by simp [Value.cells, Value.oneCell']) (by simp [Value.cells]) ?_) | (refine xk_storeN 6 rfl rfl rfl (by kernel_rfl) (by simp [Value.cells, Value.oneCell']) (by simp [Value.cells]) ?_) | (refine xk_storeN 7 rfl rfl rfl (by kernel_rfl) (by simp [Value.cells, Value.oneCell']) (by simp [Value.cells]) ?_) | (refine xk_storeN 8 rfl rfl rfl (by kernel_rfl) (by simp [Value.cells, Value.oneCell']) (by simp [Value.cells]) ?_)); simp only [putN, Value.cells, List.set, List.take, List.drop, List.nil_append, List.append_nil, List.length_cons, List.length_nil, List.cons_append, Nat.reduceAdd]
    refine XK.nilN ?_
    refine XK.seq ?_

    refine XK.region ?_
    refine xk_slice (el := 3) (sz := 1) (zs := [.int .i64 0]) (by kernel_rfl) (zeroB_of (by kernel_rfl)) (by kernel_rfl) rfl (by decide) (by decide) rfl (by simp [fillL, setN, Value.cells, List.range_succ, List.set]; rfl) (by decide) fun g3 => ?_
    refine xk_assign rfl (by decide) ?_
    refine XK.nilN ?_
    refine XK.seq ?_

    refine XK.region ?_
    refine xk_slice (el := 3) (sz := 1) (zs := [.int .i64 0]) (by kernel_rfl) (zeroB_of (by kernel_rfl)) (by kernel_rfl) rfl (by decide) (by decide) rfl (by simp [fillL, setN, Value.cells, List.range_succ, List.set]; rfl) (by decide) fun g4 => ?_
    refine xk_assign rfl (by decide) ?_
    refine XK.nilN ?_
    refine XK.seq ?_

    refine XK.region ?_
    refine xk_slice (el := 3) (sz := 1) (zs := [.int .i64 0]) (by kernel_rfl) (zeroB_of (by kernel_rfl)) (by kernel_rfl) rfl (by decide) (by decide) rfl (by simp [fillL, setN, Value.cells, List.range_succ, List.set]; rfl) (by decide) fun g5 => ?_
    refine xk_assign rfl (by decide) ?_
    refine XK.nilN ?_
    refine XK.seq ?_

    refine XK.region ?_
    refine xk_slice (el := 3) (sz := 1) (zs := [.int .i64 0]) (by kernel_rfl) (zeroB_of (by kernel_rfl)) (by kernel_rfl) rfl (by decide) (by decide) rfl (by simp [fillL, setN, Value.cells, List.range_succ, List.set]; rfl) (by decide) fun g6 => ?_
    refine xk_assign rfl (by decide) ?_
    refine XK.nilN ?_
    refine XK.seq ?_

    refine XK.region ?_
    refine xk_field (off := 1) (by kernel_rfl) rfl (by decide) ?_
    refine xk_ld rfl ?_
    refine xk_len (el := 57) (by kernel_rfl) rfl (by decide) ?_
    refine xk_field (off := 0) (by kernel_rfl) rfl (by decide) ?_
    refine xk_ld rfl ?_
    refine xk_len (el := 60) (by kernel_rfl) rfl (by decide) ?_
    refine xk_field (off := 2) (by kernel_rfl) rfl (by decide) ?_
    refine xk_ld rfl ?_
    refine xk_len (el := 64) (by kernel_rfl) rfl (by decide) ?_
    refine xk_slice (el := 3) (sz := 1) (zs := [.int .i64 0]) (by kernel_rfl) (zeroB_of (by kernel_rfl)) (by kernel_rfl) rfl (by decide) (by decide) rfl (by simp [fillL, setN, Value.cells, List.range_succ, List.set]; rfl) (by decide) fun g7 => ?_
    refine xk_assign rfl (by decide) ?_
    refine XK.nilN ?_
    refine XK.seq ?_

    refine XK.region ?_
    refine xk_move rfl (by decide) ?_
    refine xk_callV (f := 9) (fi := []) (ca := []) (by kernel_rfl) rfl rfl (by decide) (fun v => ∃ r : Int, v = .int .i64 r ∧ 0 ≤ r ∧ r < 3) (fun w1 st => pick14_any _ _ w1 hip (by omega)) fun v hv => ?_
    obtain ⟨zr, rfl, hr0zr, hr1zr⟩ := hv
    obtain ⟨r, rfl⟩ : ∃ r : Nat, zr = (r : Int) := ⟨zr.toNat, by omega⟩
    obtain ⟨p, m, on, off, kn, kf, hT⟩ : ∃ p m on off kn kf : Int, Tw r p m on off kn kf := by
      rcases (by omega : r = 0 ∨ r = 1 ∨ r = 2) with rfl | rfl | rfl
      · exact ⟨_, _, _, _, _, _, .inl ⟨rfl, rfl, rfl, rfl, rfl, rfl, rfl⟩⟩
      · exact ⟨_, _, _, _, _, _, .inr (.inl ⟨rfl, rfl, rfl, rfl, rfl, rfl, rfl⟩)⟩
      · exact ⟨_, _, _, _, _, _, .inr (.inr ⟨rfl, rfl, rfl, rfl, rfl, rfl, rfl⟩)⟩
    have cp : ([.int .i64 17, .int .i64 20, .int .i64 22] : List Value)[r]? = some (.int .i64 p) := by rcases hT with ⟨rfl, rfl, _⟩ | ⟨rfl, rfl, _⟩ | ⟨rfl, rfl, _⟩ <;> rfl
    have cm : ([.int .i64 4, .int .i64 7, .int .i64 4] : List Value)[r]? = some (.int .i64 m) := by rcases hT with ⟨rfl, _, rfl, _⟩ | ⟨rfl, _, rfl, _⟩ | ⟨rfl, _, rfl, _⟩ <;> rfl
    have con : ([.int .i64 1, .int .i64 1, .int .i64 0] : List Value)[r]? = some (.int .i64 on) := by rcases hT with ⟨rfl, _, _, rfl, _⟩ | ⟨rfl, _, _, rfl, _⟩ | ⟨rfl, _, _, rfl, _⟩ <;> rfl
    have coff : ([.int .i64 0, .int .i64 0, .int .i64 1] : List Value)[r]? = some (.int .i64 off) := by rcases hT with ⟨rfl, _, _, _, rfl, _⟩ | ⟨rfl, _, _, _, rfl, _⟩ | ⟨rfl, _, _, _, rfl, _⟩ <;> rfl
    have cmany : ([.int .i64 s.domains.length, .int .i64 s.clocks.length, .int .i64 s.resets.length] : List Value)[r]? = some (.int .i64 (numF s p : Int)) := by rcases hT with ⟨rfl, rfl, _⟩ | ⟨rfl, rfl, _⟩ | ⟨rfl, rfl, _⟩ <;> rfl
    have hnum : 0 < (numF s p : Int) ∧ (numF s p : Int) ≤ 9 := by
      rcases hT with ⟨_, rfl, _⟩ | ⟨_, rfl, _⟩ | ⟨_, rfl, _⟩
      · rw [show numF s 17 = s.domains.length from rfl]; omega
      · rw [show numF s 20 = s.clocks.length from rfl]; omega
      · rw [show numF s 22 = s.resets.length from rfl]; omega
    have hon : 0 ≤ on ∧ on ≤ 1 := by rcases hT with ⟨_, _, _, rfl, _⟩ | ⟨_, _, _, rfl, _⟩ | ⟨_, _, _, rfl, _⟩ <;> decide
    have hoff : 0 ≤ off ∧ off ≤ 1 := by rcases hT with ⟨_, _, _, _, rfl, _⟩ | ⟨_, _, _, _, rfl, _⟩ | ⟨_, _, _, _, rfl, _⟩ <;> decide
    have hpk := (head_tw hT).1
    refine xk_assign rfl (by decide) ?_
    refine XK.nilN ?_
    refine XK.seq ?_

    refine XK.region ?_
    refine xk_move rfl (by decide) ?_
    refine xk_move rfl (by decide) ?_
    refine xk_move rfl (by decide) ?_
    refine xk_at r r (el := 3) (sz := 1) (by kernel_rfl) (by kernel_rfl) rfl rfl (by omega) (by omega) (by omega) (by decide) ?_
    refine xk_load (by kernel_rfl) rfl (Rd.blk 0 rfl cmany) (by decide) ?_
    refine xk_callV (f := 9) (fi := []) (ca := []) (by kernel_rfl) rfl rfl (by decide) (fun v => ∃ r : Int, v = .int .i64 r ∧ 0 ≤ r ∧ r < (numF s p : Int)) (fun w1 st => pick14_any _ _ w1 hiid (by omega)) fun v hv => ?_
    obtain ⟨n, rfl, hr0n, hr1n⟩ := hv
    refine xk_assign rfl (by decide) ?_
    refine XK.nilN ?_
    refine XK.seq ?_

    refine XK.draw 22 (by kernel_rfl) (by kernel_rfl) ?_
    refine XA.dA 0 rfl rfl rfl (does_move rfl) ?_
    refine XA.dA 1 rfl rfl rfl (does_move rfl) ?_
    refine XA.dA 2 rfl rfl rfl (does_at r r (el := 3) (sz := 1) (by kernel_rfl) (by kernel_rfl) rfl rfl (by omega) (by omega) (by omega)) ?_
    refine XA.dA 3 rfl rfl rfl (does_load (by kernel_rfl) rfl (Rd.blk 1 rfl cm)) ?_
    refine XA.dA 4 rfl rfl rfl (does_move rfl) ?_
    refine XA.dA 5 rfl rfl rfl (does_move rfl) ?_
    refine XA.dA 6 rfl rfl rfl (does_at r r (el := 3) (sz := 1) (by kernel_rfl) (by kernel_rfl) rfl rfl (by omega) (by omega) (by omega)) ?_
    refine XA.dA 7 rfl rfl rfl (does_load (by kernel_rfl) rfl (Rd.blk 2 rfl cp)) ?_
    refine XA.dA 8 rfl rfl rfl (does_buildS (zs := [.int .i64 0, .int .i64 0, .int .i64 0, .int .i64 0]) (L := [(0, 1), (1, 1), (2, 1), (3, 1)]) (zeroB_of (by kernel_rfl)) (by kernel_rfl) rfl (by simp [fillL, setN, Value.cells]; rfl)) ?_
    refine XA.dA 9 rfl rfl rfl (does_move rfl) ?_
    refine XA.dA 10 rfl rfl rfl (does_conv (ds := .int .i64) (by kernel_rfl) (by kernel_rfl) rfl (wrap_u32 (by omega))) ?_
    refine XA.dA 11 rfl rfl rfl (does_move rfl) ?_
    refine XA.dA 12 rfl rfl rfl (does_move rfl) ?_
    refine XA.dA 13 rfl rfl rfl (does_at r r (el := 3) (sz := 1) (by kernel_rfl) (by kernel_rfl) rfl rfl (by omega) (by omega) (by omega)) ?_
    refine XA.dA 14 rfl rfl rfl (does_load (by kernel_rfl) rfl (Rd.blk 4 rfl con)) ?_
    refine XA.dA 15 rfl rfl rfl (does_conv (ds := .int .i64) (by kernel_rfl) (by kernel_rfl) rfl (wrap_u32 (by omega))) ?_
    refine XA.next 16 rfl (by kernel_rfl) ?_
    refine xk_slice (el := 54) (sz := 1) (zs := [.int .u32 0]) (by kernel_rfl) (zeroB_of (by kernel_rfl)) (by kernel_rfl) rfl (by decide) (by decide) rfl (by simp [fillL, setN, Value.cells, List.range_succ, List.set]; rfl) (by decide) fun g8 => ?_
    refine XA.bk ?_
    refine XA.next 17 rfl (by kernel_rfl) ?_
    refine xk_call [] (f := 13) (fi := []) (ca := []) (by kernel_rfl) rfl rfl (by decide) (by simp) (CmdOk ((packZ m 0 p 0).1 :: [n, on])) (fun w1 st => command_any m 0 p 0 (some ⟨g8, 0, none⟩) 2 2 [n, on] w1 (st.slS (i := 0) rfl rfl) rfl (by omega) hpk) ?_
    rintro _ w1 qca ⟨Ala, cla, rfl, hla⟩ hf _ _
    have hla := hla.le hf
    clear hf
    refine XA.bk ?_
    refine XA.dA 18 rfl rfl rfl (does_move rfl) ?_
    refine XA.dA 19 rfl rfl rfl (does_extract rfl rfl) ?_
    refine XA.dA 20 rfl rfl rfl (does_extract rfl rfl) ?_
    refine XA.dA 21 rfl rfl rfl (does_assign rfl) ?_
    refine XA.next 22 rfl (by kernel_rfl) ?_
    refine xk_assign rfl (by decide) ?_
    refine XA.bt ?_
    refine XA.done (by kernel_rfl) ?_
    refine XK.norm ?_
    refine XK.seq ?_
    refine XK.weak [2, 3, 4, 6, 7] rfl (by decide) (fun _ h => h) ?_

    refine XK.region ?_
    refine xk_ldN 4 rfl ?_
    refine xk_ldN 6 rfl ?_
    refine xk_move rfl (by decide) ?_
    refine xk_move rfl (by decide) ?_
    refine xk_callR (f := 10) (fi := []) (ca := []) (by kernel_rfl) rfl rfl (by decide) (v0 := actV (decF s (zeroW s) (zeroW s) [] a [(packZ m 0 p 0).1, n, on])) (fun w1 st => decide_any q1 qs s A1 A2 A3 A4 _ k1 _ k2 _ k3 _ k4 X0 X1 X2 X3 X4 X5 _ Xk0 _ Xk1 _ Xk2 _ Xk3 _ Xk4 _ Xk5 (zeroW s) (zeroW s) none 0 0 [] a Ala 3 cla [(packZ m 0 p 0).1, n, on] w1 hSP hK (st.le (by simp)) hS0 (st.le (by simp)) (SlS.nil _ _) rfl (by omega) (hla.le (st.le (by simp))) rfl (by omega) (u32_three _ _ _ _ hr0n (by omega) hon.1 (by omega))) ?_
    have hD := twice_first (a := a) hm hT hr0n hr1n
    generalize decF s (zeroW s) (zeroW s) [] a [(packZ m 0 p 0).1, n, on] = dd at *
    obtain ⟨t1, kd, ac⟩ := dd
    simp only [actV]
    refine xk_move rfl (by decide) ?_
    refine xk_extract rfl rfl (by decide) ?_
    refine xk_extract rfl rfl (by decide) ?_
    refine xk_alloc (cs := [.int .u8 0, .int .i64 0]) (zeroB_of (by kernel_rfl)) (by decide) fun g9 => ?_
    refine xk_assign rfl (by decide) ?_
    (first | (refine xk_storeN 0 rfl rfl rfl (by kernel_rfl) (by simp [Value.cells, Value.oneCell']) (by simp [Value.cells]) ?_) | (refine xk_storeN 1 rfl rfl rfl (by kernel_rfl) (by simp [Value.cells, Value.oneCell']) (by simp [Value.cells]) ?_) | (refine xk_storeN 2 rfl rfl rfl (by kernel_rfl) (by simp [Value.cells, Value.oneCell']) (by simp [Value.cells]) ?_) | (refine xk_storeN 3 rfl rfl rfl (by kernel_rfl) (by simp [Value.cells, Value.oneCell']) (by simp [Value.cells]) ?_) | (refine xk_storeN 4 rfl rfl rfl (by kernel_rfl) (by simp [Value.cells, Value.oneCell']) (by simp [Value.cells]) ?_) | (refine xk_storeN 5 rfl rfl rfl (by kernel_rfl) (by simp [Value.cells, Value.oneCell']) (by simp [Value.cells]) ?_) | (refine xk_storeN 6 rfl rfl rfl (by kernel_rfl) (by simp [Value.cells, Value.oneCell']) (by simp [Value.cells]) ?_) | (refine xk_storeN 7 rfl rfl rfl (by kernel_rfl) (by simp [Value.cells, Value.oneCell']) (by simp [Value.cells]) ?_) | (refine xk_storeN 8 rfl rfl rfl (by kernel_rfl) (by simp [Value.cells, Value.oneCell']) (by simp [Value.cells]) ?_)); simp only [putN, Value.cells, List.set, List.take, List.drop, List.nil_append, List.append_nil, List.length_cons, List.length_nil, List.cons_append, Nat.reduceAdd]
    refine XK.nilN ?_
    refine XK.seq ?_
    refine XK.seq ?_

    refine XK.region ?_
    refine xk_move rfl (by decide) ?_
    refine xk_neq rfl rfl (by decide) ?_
    refine XK.nilN ?_
    refine XK.if_ rfl (fun h16 => ?_) (fun h16 => ?_)
    ·
      refine XK.envS [(23, .pointer (some ⟨g9, 0, none⟩)), (22, .int .i32 t1), (19, .int .i64 n), (18, .int .i64 (r : Int)), (10, .pointer (some ⟨g1, 0, none⟩))] ?_
      obtain ⟨st1, he, _, hst⟩ : ∃ st : Int, (t1, kd, ac) = (st, (0 : Int), (0 : Int)) ∧ st ≠ 0 ∧ ((st = -3 ∧ r = 0 ∧ 0 ≤ aboveOf s n.toNat) ∨ (st = -2 ∧ r = 1 ∧ kindOf s n.toNat ≠ 112 ∧ kindOf s n.toNat ≠ 103)) := by
        rcases hD with ⟨_, he⟩ | hD
        · simp only [Prod.mk.injEq] at he; exact absurd he.1 h16
        · exact hD
      simp only [Prod.mk.injEq] at he
      obtain ⟨rfl, rfl, rfl⟩ := he
      clear hD
      refine XK.cutB 8 (True) ?_ ?_
      · skip

        refine XK.region ?_
        refine xk_field (off := 0) (by kernel_rfl) rfl (by decide) ?_
        refine xk_ld rfl ?_
        refine xk_eql rfl rfl (by decide) ?_
        refine xk_move rfl (by decide) ?_
        (first | refine xk_split (t := 106) rfl (fun hg => ?_) (fun hg => ?_) | refine xk_splitB (t := 106) rfl (fun hg => ?_) (fun hg => ?_))
        ·
          refine xk_guardT rfl rfl ?_; refine xk_move rfl (by decide) ?_
          refine xk_guardT rfl rfl ?_; refine xk_eql rfl rfl (by decide) ?_
          refine xk_guardT rfl rfl ?_; refine xk_move rfl (by decide) ?_
          (first | refine xk_split (t := 109) rfl (fun hg => ?_) (fun hg => ?_) | refine xk_splitB (t := 109) rfl (fun hg => ?_) (fun hg => ?_))
          ·
            have hltD : n.toNat < s.domains.length := by
              have hr9 : r = 0 := by omega
              rcases hT with ⟨_, rfl, _⟩ | ⟨h9, _⟩ | ⟨h9, _⟩
              · rw [show numF s 17 = s.domains.length from rfl] at hr1n; omega
              · omega
              · omega
            obtain ⟨dm, hdm⟩ : ∃ d, s.domains[n.toNat]? = some d := ⟨_, List.getElem?_eq_getElem hltD⟩
            obtain ⟨bD, oD, rD, rfl, hzD, _, rfl, hcD⟩ := hSP.dom.rowP hdm
            have hab : aboveOf s n.toNat = dm.above := by rw [aboveOf, hdm]; rfl
            refine xk_guardT rfl rfl ?_; refine xk_field (off := 1) (by kernel_rfl) rfl (by decide) ?_
            refine xk_guardT rfl rfl ?_; refine xk_ld rfl ?_
            refine xk_guardT rfl rfl ?_; refine xk_move rfl (by decide) ?_
            refine xk_guardT rfl rfl ?_; refine xk_at n.toNat (oD + n.toNat * 3) (el := 57) (sz := 3) (by kernel_rfl) (by kernel_rfl) rfl rfl (by omega) (by omega) (by omega) (by decide) ?_
            refine xk_guardT rfl rfl ?_; refine xk_field (off := 0) (by kernel_rfl) rfl (by decide) ?_
            refine xk_guardT rfl rfl ?_; refine xk_load (by kernel_rfl) rfl (Rd.ro (p := q1) (by simp) hzD (hcD 0 _ rfl)) (by decide) ?_
            refine xk_guardT rfl rfl ?_; refine xk_geq rfl rfl (by decide) ?_
            refine xk_guardT rfl rfl ?_; (first | refine xk_pickT rfl rfl (by decide) ?_ | refine xk_pickF rfl rfl (by decide) ?_)
            refine xk_guardT rfl rfl ?_; refine xk_move rfl (by decide) ?_
            (first | refine xk_split (t := 118) rfl (fun hg => ?_) (fun hg => ?_) | refine xk_splitB (t := 118) rfl (fun hg => ?_) (fun hg => ?_))
            ·
              refine xk_guardT rfl rfl ?_; refine xk_move rfl (by decide) ?_
              refine xk_guardT rfl rfl ?_; refine xk_eql rfl rfl (by decide) ?_
              refine xk_guardT rfl rfl ?_; (first | refine xk_pickT rfl rfl (by decide) ?_ | refine xk_pickF rfl rfl (by decide) ?_)
              refine xk_guardT rfl rfl ?_; refine xk_move rfl (by decide) ?_
              (first | refine xk_split (t := 122) rfl (fun hg => ?_) (fun hg => ?_) | refine xk_splitB (t := 122) rfl (fun hg => ?_) (fun hg => ?_))
              ·
                refine xk_guardF rfl rfl rfl (by decide) ?_
                refine xk_guardF rfl rfl rfl (by decide) ?_
                refine xk_guardF rfl rfl rfl (by decide) ?_
                refine xk_guardU rfl rfl (by decide) ?_
                refine xk_guardU rfl rfl (by decide) ?_
                refine xk_guardF rfl rfl rfl (by decide) ?_
                refine xk_guardF rfl rfl rfl (by decide) ?_
                refine xk_guardU rfl rfl (by decide) ?_
                refine xk_guardU rfl rfl (by decide) ?_
                refine xk_guardU rfl rfl (by decide) ?_
                refine xk_guardU rfl rfl (by decide) ?_
                refine xk_guardU rfl rfl (by decide) ?_
                refine xk_guardU rfl rfl (by decide) ?_
                refine xk_guardU rfl rfl (by decide) ?_
                refine xk_guardF rfl rfl rfl (by decide) ?_
                refine xk_guardF rfl rfl rfl (by decide) ?_
                refine xk_guardU rfl rfl (by decide) ?_
                refine xk_guardU rfl rfl (by decide) ?_
                refine xk_guardU rfl rfl (by decide) ?_
                refine xk_guardU rfl rfl (by decide) ?_
                refine xk_guardU rfl rfl (by decide) ?_
                refine xk_guardU rfl rfl (by decide) ?_
                refine xk_guardU rfl rfl (by decide) ?_
                refine xk_guardF rfl rfl rfl (by decide) ?_
                refine xk_guardT rfl rfl ?_; (first | refine xk_pickT rfl rfl (by decide) ?_ | refine xk_pickF rfl rfl (by decide) ?_)
                (first | refine xk_pickT rfl rfl (by decide) ?_ | refine xk_pickF rfl rfl (by decide) ?_)
                refine xk_assign rfl (by decide) ?_
                refine XK.nilN ?_
                exact XK.meetB (by repeat (first | exact trivial | refine ⟨rfl, ?_⟩)) (by first | (refine get_iff rfl ?_; omega) | (refine get_false rfl ?_; exact id) | (refine get_true rfl ?_; exact trivial) | (refine get_iff rfl ⟨fun hh => ?_, fun hh => ?_⟩ <;> first | omega | exact trivial | (simp_all [eqVs, eqV]; done) | (simp_all [eqVs, eqV]; omega)) | (refine get_bool rfl ?_; simp [eqVs, eqV]; done) | (refine get_bool rfl ?_; simp_all [eqVs, eqV]; done) | (exfalso; simp_all; done) | (exfalso; simp_all; omega) | (exfalso; simp_all [eqVs, eqV]; done))
              ·
                refine xk_guardT rfl rfl ?_; refine xk_move rfl (by decide) ?_
                refine xk_guardT rfl rfl ?_; refine xk_eql rfl rfl (by decide) ?_
                refine xk_guardT rfl rfl ?_; refine xk_move rfl (by decide) ?_
                (first | refine xk_split (t := 125) rfl (fun hg => ?_) (fun hg => ?_) | refine xk_splitB (t := 125) rfl (fun hg => ?_) (fun hg => ?_))
                ·
                  refine xk_guardT rfl rfl ?_; refine xk_move rfl (by decide) ?_
                  refine xk_guardT rfl rfl ?_; refine xk_eql rfl rfl (by decide) ?_
                  refine xk_guardT rfl rfl ?_; (first | refine xk_pickT rfl rfl (by decide) ?_ | refine xk_pickF rfl rfl (by decide) ?_)
                  refine xk_guardT rfl rfl ?_; refine xk_move rfl (by decide) ?_
                  (first | refine xk_split (t := 129) rfl (fun hg => ?_) (fun hg => ?_) | refine xk_splitB (t := 129) rfl (fun hg => ?_) (fun hg => ?_))
                  ·
                    have hltC : n.toNat < s.clocks.length := by
                      have hr9 : r = 1 := by omega
                      rcases hT with ⟨h9, _⟩ | ⟨_, rfl, _⟩ | ⟨h9, _⟩
                      · omega
                      · rw [show numF s 20 = s.clocks.length from rfl] at hr1n; omega
                      · omega
                    obtain ⟨ck, hck⟩ : ∃ d, s.clocks[n.toNat]? = some d := ⟨_, List.getElem?_eq_getElem hltC⟩
                    obtain ⟨bC, oC, rC, rfl, hzC, _, hRC, hcC⟩ := hSP.clk.rowP hck
                    obtain ⟨cA, cn, ccap, hrow, _⟩ := hRC
                    have hkd : kindOf s n.toNat = ck.kind := by rw [kindOf, hck]; rfl
                    subst hrow
                    refine xk_guardT rfl rfl ?_; refine xk_field (off := 0) (by kernel_rfl) rfl (by decide) ?_
                    refine xk_guardT rfl rfl ?_; refine xk_ld rfl ?_
                    refine xk_guardT rfl rfl ?_; refine xk_move rfl (by decide) ?_
                    refine xk_guardT rfl rfl ?_; refine xk_at n.toNat (oC + n.toNat * 6) (el := 60) (sz := 6) (by kernel_rfl) (by kernel_rfl) rfl rfl (by omega) (by omega) (by omega) (by decide) ?_
                    refine xk_guardT rfl rfl ?_; refine xk_field (off := 0) (by kernel_rfl) rfl (by decide) ?_
                    refine xk_guardT rfl rfl ?_; refine xk_load (by kernel_rfl) rfl (Rd.ro (p := q1) (by simp) hzC (hcC 0 _ rfl)) (by decide) ?_
                    refine xk_guardT rfl rfl ?_; refine xk_neq rfl rfl (by decide) ?_
                    refine xk_guardT rfl rfl ?_; (first | refine xk_pickT rfl rfl (by decide) ?_ | refine xk_pickF rfl rfl (by decide) ?_)
                    refine xk_guardT rfl rfl ?_; refine xk_move rfl (by decide) ?_
                    (first | refine xk_split (t := 138) rfl (fun hg => ?_) (fun hg => ?_) | refine xk_splitB (t := 138) rfl (fun hg => ?_) (fun hg => ?_))
                    ·
                      refine xk_guardT rfl rfl ?_; refine xk_field (off := 0) (by kernel_rfl) rfl (by decide) ?_
                      refine xk_guardT rfl rfl ?_; refine xk_ld rfl ?_
                      refine xk_guardT rfl rfl ?_; refine xk_move rfl (by decide) ?_
                      refine xk_guardT rfl rfl ?_; refine xk_at n.toNat (oC + n.toNat * 6) (el := 60) (sz := 6) (by kernel_rfl) (by kernel_rfl) rfl rfl (by omega) (by omega) (by omega) (by decide) ?_
                      refine xk_guardT rfl rfl ?_; refine xk_field (off := 0) (by kernel_rfl) rfl (by decide) ?_
                      refine xk_guardT rfl rfl ?_; refine xk_load (by kernel_rfl) rfl (Rd.ro (p := q1) (by simp) hzC (hcC 0 _ rfl)) (by decide) ?_
                      refine xk_guardT rfl rfl ?_; refine xk_neq rfl rfl (by decide) ?_
                      refine xk_guardT rfl rfl ?_; (first | refine xk_pickT rfl rfl (by decide) ?_ | refine xk_pickF rfl rfl (by decide) ?_)
                      refine xk_guardT rfl rfl ?_; (first | refine xk_pickT rfl rfl (by decide) ?_ | refine xk_pickF rfl rfl (by decide) ?_)
                      (first | refine xk_pickT rfl rfl (by decide) ?_ | refine xk_pickF rfl rfl (by decide) ?_)
                      refine xk_assign rfl (by decide) ?_
                      refine XK.nilN ?_
                      exact XK.meetB (by repeat (first | exact trivial | refine ⟨rfl, ?_⟩)) (by first | (refine get_iff rfl ?_; omega) | (refine get_false rfl ?_; exact id) | (refine get_true rfl ?_; exact trivial) | (refine get_iff rfl ⟨fun hh => ?_, fun hh => ?_⟩ <;> first | omega | exact trivial | (simp_all [eqVs, eqV]; done) | (simp_all [eqVs, eqV]; omega)) | (refine get_bool rfl ?_; simp [eqVs, eqV]; done) | (refine get_bool rfl ?_; simp_all [eqVs, eqV]; done) | (exfalso; simp_all; done) | (exfalso; simp_all; omega) | (exfalso; simp_all [eqVs, eqV]; done))
                    ·
                      refine xk_guardF rfl rfl rfl (by decide) ?_
                      refine xk_guardF rfl rfl rfl (by decide) ?_
                      refine xk_guardF rfl rfl rfl (by decide) ?_
                      refine xk_guardF rfl rfl rfl (by decide) ?_
                      refine xk_guardF rfl rfl rfl (by decide) ?_
                      refine xk_guardF rfl rfl rfl (by decide) ?_
                      refine xk_guardF rfl rfl rfl (by decide) ?_
                      refine xk_guardT rfl rfl ?_; (first | refine xk_pickT rfl rfl (by decide) ?_ | refine xk_pickF rfl rfl (by decide) ?_)
                      refine xk_guardT rfl rfl ?_; (first | refine xk_pickT rfl rfl (by decide) ?_ | refine xk_pickF rfl rfl (by decide) ?_)
                      (first | refine xk_pickT rfl rfl (by decide) ?_ | refine xk_pickF rfl rfl (by decide) ?_)
                      refine xk_assign rfl (by decide) ?_
                      refine XK.nilN ?_
                      exact XK.meetB (by repeat (first | exact trivial | refine ⟨rfl, ?_⟩)) (by first | (refine get_iff rfl ?_; omega) | (refine get_false rfl ?_; exact id) | (refine get_true rfl ?_; exact trivial) | (refine get_iff rfl ⟨fun hh => ?_, fun hh => ?_⟩ <;> first | omega | exact trivial | (simp_all [eqVs, eqV]; done) | (simp_all [eqVs, eqV]; omega)) | (refine get_bool rfl ?_; simp [eqVs, eqV]; done) | (refine get_bool rfl ?_; simp_all [eqVs, eqV]; done) | (exfalso; simp_all; done) | (exfalso; simp_all; omega) | (exfalso; simp_all [eqVs, eqV]; done))
                  ·
                    refine xk_guardF rfl rfl rfl (by decide) ?_
                    refine xk_guardF rfl rfl rfl (by decide) ?_
                    refine xk_guardF rfl rfl rfl (by decide) ?_
                    refine xk_guardF rfl rfl rfl (by decide) ?_
                    refine xk_guardF rfl rfl rfl (by decide) ?_
                    refine xk_guardF rfl rfl rfl (by decide) ?_
                    refine xk_guardF rfl rfl rfl (by decide) ?_
                    refine xk_guardT rfl rfl ?_; (first | refine xk_pickT rfl rfl (by decide) ?_ | refine xk_pickF rfl rfl (by decide) ?_)
                    refine xk_guardT rfl rfl ?_; refine xk_move rfl (by decide) ?_
                    refine xk_guardF rfl rfl rfl (by decide) ?_
                    refine xk_guardF rfl rfl rfl (by decide) ?_
                    refine xk_guardF rfl rfl rfl (by decide) ?_
                    refine xk_guardF rfl rfl rfl (by decide) ?_
                    refine xk_guardF rfl rfl rfl (by decide) ?_
                    refine xk_guardF rfl rfl rfl (by decide) ?_
                    refine xk_guardF rfl rfl rfl (by decide) ?_
                    refine xk_guardT rfl rfl ?_; (first | refine xk_pickT rfl rfl (by decide) ?_ | refine xk_pickF rfl rfl (by decide) ?_)
                    refine xk_guardT rfl rfl ?_; (first | refine xk_pickT rfl rfl (by decide) ?_ | refine xk_pickF rfl rfl (by decide) ?_)
                    (first | refine xk_pickT rfl rfl (by decide) ?_ | refine xk_pickF rfl rfl (by decide) ?_)
                    refine xk_assign rfl (by decide) ?_
                    refine XK.nilN ?_
                    exact XK.meetB (by repeat (first | exact trivial | refine ⟨rfl, ?_⟩)) (by first | (refine get_iff rfl ?_; omega) | (refine get_false rfl ?_; exact id) | (refine get_true rfl ?_; exact trivial) | (refine get_iff rfl ⟨fun hh => ?_, fun hh => ?_⟩ <;> first | omega | exact trivial | (simp_all [eqVs, eqV]; done) | (simp_all [eqVs, eqV]; omega)) | (refine get_bool rfl ?_; simp [eqVs, eqV]; done) | (refine get_bool rfl ?_; simp_all [eqVs, eqV]; done) | (exfalso; simp_all; done) | (exfalso; simp_all; omega) | (exfalso; simp_all [eqVs, eqV]; done))
                ·
                  refine xk_guardF rfl rfl rfl (by decide) ?_
                  refine xk_guardF rfl rfl rfl (by decide) ?_
                  refine xk_guardT rfl rfl ?_; (first | refine xk_pickT rfl rfl (by decide) ?_ | refine xk_pickF rfl rfl (by decide) ?_)
                  refine xk_guardT rfl rfl ?_; refine xk_move rfl (by decide) ?_
                  refine xk_guardF rfl rfl rfl (by decide) ?_
                  refine xk_guardF rfl rfl rfl (by decide) ?_
                  refine xk_guardF rfl rfl rfl (by decide) ?_
                  refine xk_guardF rfl rfl rfl (by decide) ?_
                  refine xk_guardF rfl rfl rfl (by decide) ?_
                  refine xk_guardF rfl rfl rfl (by decide) ?_
                  refine xk_guardF rfl rfl rfl (by decide) ?_
                  refine xk_guardT rfl rfl ?_; (first | refine xk_pickT rfl rfl (by decide) ?_ | refine xk_pickF rfl rfl (by decide) ?_)
                  refine xk_guardT rfl rfl ?_; refine xk_move rfl (by decide) ?_
                  refine xk_guardF rfl rfl rfl (by decide) ?_
                  refine xk_guardF rfl rfl rfl (by decide) ?_
                  refine xk_guardF rfl rfl rfl (by decide) ?_
                  refine xk_guardF rfl rfl rfl (by decide) ?_
                  refine xk_guardF rfl rfl rfl (by decide) ?_
                  refine xk_guardF rfl rfl rfl (by decide) ?_
                  refine xk_guardF rfl rfl rfl (by decide) ?_
                  refine xk_guardT rfl rfl ?_; (first | refine xk_pickT rfl rfl (by decide) ?_ | refine xk_pickF rfl rfl (by decide) ?_)
                  refine xk_guardT rfl rfl ?_; (first | refine xk_pickT rfl rfl (by decide) ?_ | refine xk_pickF rfl rfl (by decide) ?_)
                  (first | refine xk_pickT rfl rfl (by decide) ?_ | refine xk_pickF rfl rfl (by decide) ?_)
                  refine xk_assign rfl (by decide) ?_
                  refine XK.nilN ?_
                  exact XK.meetB (by repeat (first | exact trivial | refine ⟨rfl, ?_⟩)) (by first | (refine get_iff rfl ?_; omega) | (refine get_false rfl ?_; exact id) | (refine get_true rfl ?_; exact trivial) | (refine get_iff rfl ⟨fun hh => ?_, fun hh => ?_⟩ <;> first | omega | exact trivial | (simp_all [eqVs, eqV]; done) | (simp_all [eqVs, eqV]; omega)) | (refine get_bool rfl ?_; simp [eqVs, eqV]; done) | (refine get_bool rfl ?_; simp_all [eqVs, eqV]; done) | (exfalso; simp_all; done) | (exfalso; simp_all; omega) | (exfalso; simp_all [eqVs, eqV]; done))
            ·
              refine xk_guardF rfl rfl rfl (by decide) ?_
              refine xk_guardF rfl rfl rfl (by decide) ?_
              refine xk_guardT rfl rfl ?_; (first | refine xk_pickT rfl rfl (by decide) ?_ | refine xk_pickF rfl rfl (by decide) ?_)
              refine xk_guardT rfl rfl ?_; refine xk_move rfl (by decide) ?_
              refine xk_guardT rfl rfl ?_; refine xk_move rfl (by decide) ?_
              refine xk_guardT rfl rfl ?_; refine xk_eql rfl rfl (by decide) ?_
              refine xk_guardT rfl rfl ?_; refine xk_move rfl (by decide) ?_
              (first | refine xk_split (t := 125) rfl (fun hg => ?_) (fun hg => ?_) | refine xk_splitB (t := 125) rfl (fun hg => ?_) (fun hg => ?_))
              ·
                refine xk_guardT rfl rfl ?_; refine xk_move rfl (by decide) ?_
                refine xk_guardT rfl rfl ?_; refine xk_eql rfl rfl (by decide) ?_
                refine xk_guardT rfl rfl ?_; (first | refine xk_pickT rfl rfl (by decide) ?_ | refine xk_pickF rfl rfl (by decide) ?_)
                refine xk_guardT rfl rfl ?_; refine xk_move rfl (by decide) ?_
                (first | refine xk_split (t := 129) rfl (fun hg => ?_) (fun hg => ?_) | refine xk_splitB (t := 129) rfl (fun hg => ?_) (fun hg => ?_))
                ·
                  have hltC : n.toNat < s.clocks.length := by
                    have hr9 : r = 1 := by omega
                    rcases hT with ⟨h9, _⟩ | ⟨_, rfl, _⟩ | ⟨h9, _⟩
                    · omega
                    · rw [show numF s 20 = s.clocks.length from rfl] at hr1n; omega
                    · omega
                  obtain ⟨ck, hck⟩ : ∃ d, s.clocks[n.toNat]? = some d := ⟨_, List.getElem?_eq_getElem hltC⟩
                  obtain ⟨bC, oC, rC, rfl, hzC, _, hRC, hcC⟩ := hSP.clk.rowP hck
                  obtain ⟨cA, cn, ccap, hrow, _⟩ := hRC
                  have hkd : kindOf s n.toNat = ck.kind := by rw [kindOf, hck]; rfl
                  subst hrow
                  refine xk_guardT rfl rfl ?_; refine xk_field (off := 0) (by kernel_rfl) rfl (by decide) ?_
                  refine xk_guardT rfl rfl ?_; refine xk_ld rfl ?_
                  refine xk_guardT rfl rfl ?_; refine xk_move rfl (by decide) ?_
                  refine xk_guardT rfl rfl ?_; refine xk_at n.toNat (oC + n.toNat * 6) (el := 60) (sz := 6) (by kernel_rfl) (by kernel_rfl) rfl rfl (by omega) (by omega) (by omega) (by decide) ?_
                  refine xk_guardT rfl rfl ?_; refine xk_field (off := 0) (by kernel_rfl) rfl (by decide) ?_
                  refine xk_guardT rfl rfl ?_; refine xk_load (by kernel_rfl) rfl (Rd.ro (p := q1) (by simp) hzC (hcC 0 _ rfl)) (by decide) ?_
                  refine xk_guardT rfl rfl ?_; refine xk_neq rfl rfl (by decide) ?_
                  refine xk_guardT rfl rfl ?_; (first | refine xk_pickT rfl rfl (by decide) ?_ | refine xk_pickF rfl rfl (by decide) ?_)
                  refine xk_guardT rfl rfl ?_; refine xk_move rfl (by decide) ?_
                  (first | refine xk_split (t := 138) rfl (fun hg => ?_) (fun hg => ?_) | refine xk_splitB (t := 138) rfl (fun hg => ?_) (fun hg => ?_))
                  ·
                    refine xk_guardT rfl rfl ?_; refine xk_field (off := 0) (by kernel_rfl) rfl (by decide) ?_
                    refine xk_guardT rfl rfl ?_; refine xk_ld rfl ?_
                    refine xk_guardT rfl rfl ?_; refine xk_move rfl (by decide) ?_
                    refine xk_guardT rfl rfl ?_; refine xk_at n.toNat (oC + n.toNat * 6) (el := 60) (sz := 6) (by kernel_rfl) (by kernel_rfl) rfl rfl (by omega) (by omega) (by omega) (by decide) ?_
                    refine xk_guardT rfl rfl ?_; refine xk_field (off := 0) (by kernel_rfl) rfl (by decide) ?_
                    refine xk_guardT rfl rfl ?_; refine xk_load (by kernel_rfl) rfl (Rd.ro (p := q1) (by simp) hzC (hcC 0 _ rfl)) (by decide) ?_
                    refine xk_guardT rfl rfl ?_; refine xk_neq rfl rfl (by decide) ?_
                    refine xk_guardT rfl rfl ?_; (first | refine xk_pickT rfl rfl (by decide) ?_ | refine xk_pickF rfl rfl (by decide) ?_)
                    refine xk_guardT rfl rfl ?_; (first | refine xk_pickT rfl rfl (by decide) ?_ | refine xk_pickF rfl rfl (by decide) ?_)
                    (first | refine xk_pickT rfl rfl (by decide) ?_ | refine xk_pickF rfl rfl (by decide) ?_)
                    refine xk_assign rfl (by decide) ?_
                    refine XK.nilN ?_
                    exact XK.meetB (by repeat (first | exact trivial | refine ⟨rfl, ?_⟩)) (by first | (refine get_iff rfl ?_; omega) | (refine get_false rfl ?_; exact id) | (refine get_true rfl ?_; exact trivial) | (refine get_iff rfl ⟨fun hh => ?_, fun hh => ?_⟩ <;> first | omega | exact trivial | (simp_all [eqVs, eqV]; done) | (simp_all [eqVs, eqV]; omega)) | (refine get_bool rfl ?_; simp [eqVs, eqV]; done) | (refine get_bool rfl ?_; simp_all [eqVs, eqV]; done) | (exfalso; simp_all; done) | (exfalso; simp_all; omega) | (exfalso; simp_all [eqVs, eqV]; done))
                  ·
                    refine xk_guardF rfl rfl rfl (by decide) ?_
                    refine xk_guardF rfl rfl rfl (by decide) ?_
                    refine xk_guardF rfl rfl rfl (by decide) ?_
                    refine xk_guardF rfl rfl rfl (by decide) ?_
                    refine xk_guardF rfl rfl rfl (by decide) ?_
                    refine xk_guardF rfl rfl rfl (by decide) ?_
                    refine xk_guardF rfl rfl rfl (by decide) ?_
                    refine xk_guardT rfl rfl ?_; (first | refine xk_pickT rfl rfl (by decide) ?_ | refine xk_pickF rfl rfl (by decide) ?_)
                    refine xk_guardT rfl rfl ?_; (first | refine xk_pickT rfl rfl (by decide) ?_ | refine xk_pickF rfl rfl (by decide) ?_)
                    (first | refine xk_pickT rfl rfl (by decide) ?_ | refine xk_pickF rfl rfl (by decide) ?_)
                    refine xk_assign rfl (by decide) ?_
                    refine XK.nilN ?_
                    exact XK.meetB (by repeat (first | exact trivial | refine ⟨rfl, ?_⟩)) (by first | (refine get_iff rfl ?_; omega) | (refine get_false rfl ?_; exact id) | (refine get_true rfl ?_; exact trivial) | (refine get_iff rfl ⟨fun hh => ?_, fun hh => ?_⟩ <;> first | omega | exact trivial | (simp_all [eqVs, eqV]; done) | (simp_all [eqVs, eqV]; omega)) | (refine get_bool rfl ?_; simp [eqVs, eqV]; done) | (refine get_bool rfl ?_; simp_all [eqVs, eqV]; done) | (exfalso; simp_all; done) | (exfalso; simp_all; omega) | (exfalso; simp_all [eqVs, eqV]; done))
                ·
                  refine xk_guardF rfl rfl rfl (by decide) ?_
                  refine xk_guardF rfl rfl rfl (by decide) ?_
                  refine xk_guardF rfl rfl rfl (by decide) ?_
                  refine xk_guardF rfl rfl rfl (by decide) ?_
                  refine xk_guardF rfl rfl rfl (by decide) ?_
                  refine xk_guardF rfl rfl rfl (by decide) ?_
                  refine xk_guardF rfl rfl rfl (by decide) ?_
                  refine xk_guardT rfl rfl ?_; (first | refine xk_pickT rfl rfl (by decide) ?_ | refine xk_pickF rfl rfl (by decide) ?_)
                  refine xk_guardT rfl rfl ?_; refine xk_move rfl (by decide) ?_
                  refine xk_guardF rfl rfl rfl (by decide) ?_
                  refine xk_guardF rfl rfl rfl (by decide) ?_
                  refine xk_guardF rfl rfl rfl (by decide) ?_
                  refine xk_guardF rfl rfl rfl (by decide) ?_
                  refine xk_guardF rfl rfl rfl (by decide) ?_
                  refine xk_guardF rfl rfl rfl (by decide) ?_
                  refine xk_guardF rfl rfl rfl (by decide) ?_
                  refine xk_guardT rfl rfl ?_; (first | refine xk_pickT rfl rfl (by decide) ?_ | refine xk_pickF rfl rfl (by decide) ?_)
                  refine xk_guardT rfl rfl ?_; (first | refine xk_pickT rfl rfl (by decide) ?_ | refine xk_pickF rfl rfl (by decide) ?_)
                  (first | refine xk_pickT rfl rfl (by decide) ?_ | refine xk_pickF rfl rfl (by decide) ?_)
                  refine xk_assign rfl (by decide) ?_
                  refine XK.nilN ?_
                  exact XK.meetB (by repeat (first | exact trivial | refine ⟨rfl, ?_⟩)) (by first | (refine get_iff rfl ?_; omega) | (refine get_false rfl ?_; exact id) | (refine get_true rfl ?_; exact trivial) | (refine get_iff rfl ⟨fun hh => ?_, fun hh => ?_⟩ <;> first | omega | exact trivial | (simp_all [eqVs, eqV]; done) | (simp_all [eqVs, eqV]; omega)) | (refine get_bool rfl ?_; simp [eqVs, eqV]; done) | (refine get_bool rfl ?_; simp_all [eqVs, eqV]; done) | (exfalso; simp_all; done) | (exfalso; simp_all; omega) | (exfalso; simp_all [eqVs, eqV]; done))
              ·
                refine xk_guardF rfl rfl rfl (by decide) ?_
                refine xk_guardF rfl rfl rfl (by decide) ?_
                refine xk_guardT rfl rfl ?_; (first | refine xk_pickT rfl rfl (by decide) ?_ | refine xk_pickF rfl rfl (by decide) ?_)
                refine xk_guardT rfl rfl ?_; refine xk_move rfl (by decide) ?_
                refine xk_guardF rfl rfl rfl (by decide) ?_
                refine xk_guardF rfl rfl rfl (by decide) ?_
                refine xk_guardF rfl rfl rfl (by decide) ?_
                refine xk_guardF rfl rfl rfl (by decide) ?_
                refine xk_guardF rfl rfl rfl (by decide) ?_
                refine xk_guardF rfl rfl rfl (by decide) ?_
                refine xk_guardF rfl rfl rfl (by decide) ?_
                refine xk_guardT rfl rfl ?_; (first | refine xk_pickT rfl rfl (by decide) ?_ | refine xk_pickF rfl rfl (by decide) ?_)
                refine xk_guardT rfl rfl ?_; refine xk_move rfl (by decide) ?_
                refine xk_guardF rfl rfl rfl (by decide) ?_
                refine xk_guardF rfl rfl rfl (by decide) ?_
                refine xk_guardF rfl rfl rfl (by decide) ?_
                refine xk_guardF rfl rfl rfl (by decide) ?_
                refine xk_guardF rfl rfl rfl (by decide) ?_
                refine xk_guardF rfl rfl rfl (by decide) ?_
                refine xk_guardF rfl rfl rfl (by decide) ?_
                refine xk_guardT rfl rfl ?_; (first | refine xk_pickT rfl rfl (by decide) ?_ | refine xk_pickF rfl rfl (by decide) ?_)
                refine xk_guardT rfl rfl ?_; (first | refine xk_pickT rfl rfl (by decide) ?_ | refine xk_pickF rfl rfl (by decide) ?_)
                (first | refine xk_pickT rfl rfl (by decide) ?_ | refine xk_pickF rfl rfl (by decide) ?_)
                refine xk_assign rfl (by decide) ?_
                refine XK.nilN ?_
                exact XK.meetB (by repeat (first | exact trivial | refine ⟨rfl, ?_⟩)) (by first | (refine get_iff rfl ?_; omega) | (refine get_false rfl ?_; exact id) | (refine get_true rfl ?_; exact trivial) | (refine get_iff rfl ⟨fun hh => ?_, fun hh => ?_⟩ <;> first | omega | exact trivial | (simp_all [eqVs, eqV]; done) | (simp_all [eqVs, eqV]; omega)) | (refine get_bool rfl ?_; simp [eqVs, eqV]; done) | (refine get_bool rfl ?_; simp_all [eqVs, eqV]; done) | (exfalso; simp_all; done) | (exfalso; simp_all; omega) | (exfalso; simp_all [eqVs, eqV]; done))
          ·
            refine xk_guardF rfl rfl rfl (by decide) ?_
            refine xk_guardF rfl rfl rfl (by decide) ?_
            refine xk_guardF rfl rfl rfl (by decide) ?_
            refine xk_guardF rfl rfl rfl (by decide) ?_
            refine xk_guardF rfl rfl rfl (by decide) ?_
            refine xk_guardF rfl rfl rfl (by decide) ?_
            refine xk_guardF rfl rfl rfl (by decide) ?_
            refine xk_guardT rfl rfl ?_; (first | refine xk_pickT rfl rfl (by decide) ?_ | refine xk_pickF rfl rfl (by decide) ?_)
            refine xk_guardT rfl rfl ?_; refine xk_move rfl (by decide) ?_
            refine xk_guardF rfl rfl rfl (by decide) ?_
            refine xk_guardF rfl rfl rfl (by decide) ?_
            refine xk_guardT rfl rfl ?_; (first | refine xk_pickT rfl rfl (by decide) ?_ | refine xk_pickF rfl rfl (by decide) ?_)
            refine xk_guardT rfl rfl ?_; refine xk_move rfl (by decide) ?_
            refine xk_guardT rfl rfl ?_; refine xk_move rfl (by decide) ?_
            refine xk_guardT rfl rfl ?_; refine xk_eql rfl rfl (by decide) ?_
            refine xk_guardT rfl rfl ?_; refine xk_move rfl (by decide) ?_
            (first | refine xk_split (t := 125) rfl (fun hg => ?_) (fun hg => ?_) | refine xk_splitB (t := 125) rfl (fun hg => ?_) (fun hg => ?_))
            ·
              refine xk_guardT rfl rfl ?_; refine xk_move rfl (by decide) ?_
              refine xk_guardT rfl rfl ?_; refine xk_eql rfl rfl (by decide) ?_
              refine xk_guardT rfl rfl ?_; (first | refine xk_pickT rfl rfl (by decide) ?_ | refine xk_pickF rfl rfl (by decide) ?_)
              refine xk_guardT rfl rfl ?_; refine xk_move rfl (by decide) ?_
              (first | refine xk_split (t := 129) rfl (fun hg => ?_) (fun hg => ?_) | refine xk_splitB (t := 129) rfl (fun hg => ?_) (fun hg => ?_))
              ·
                have hltC : n.toNat < s.clocks.length := by
                  have hr9 : r = 1 := by omega
                  rcases hT with ⟨h9, _⟩ | ⟨_, rfl, _⟩ | ⟨h9, _⟩
                  · omega
                  · rw [show numF s 20 = s.clocks.length from rfl] at hr1n; omega
                  · omega
                obtain ⟨ck, hck⟩ : ∃ d, s.clocks[n.toNat]? = some d := ⟨_, List.getElem?_eq_getElem hltC⟩
                obtain ⟨bC, oC, rC, rfl, hzC, _, hRC, hcC⟩ := hSP.clk.rowP hck
                obtain ⟨cA, cn, ccap, hrow, _⟩ := hRC
                have hkd : kindOf s n.toNat = ck.kind := by rw [kindOf, hck]; rfl
                subst hrow
                refine xk_guardT rfl rfl ?_; refine xk_field (off := 0) (by kernel_rfl) rfl (by decide) ?_
                refine xk_guardT rfl rfl ?_; refine xk_ld rfl ?_
                refine xk_guardT rfl rfl ?_; refine xk_move rfl (by decide) ?_
                refine xk_guardT rfl rfl ?_; refine xk_at n.toNat (oC + n.toNat * 6) (el := 60) (sz := 6) (by kernel_rfl) (by kernel_rfl) rfl rfl (by omega) (by omega) (by omega) (by decide) ?_
                refine xk_guardT rfl rfl ?_; refine xk_field (off := 0) (by kernel_rfl) rfl (by decide) ?_
                refine xk_guardT rfl rfl ?_; refine xk_load (by kernel_rfl) rfl (Rd.ro (p := q1) (by simp) hzC (hcC 0 _ rfl)) (by decide) ?_
                refine xk_guardT rfl rfl ?_; refine xk_neq rfl rfl (by decide) ?_
                refine xk_guardT rfl rfl ?_; (first | refine xk_pickT rfl rfl (by decide) ?_ | refine xk_pickF rfl rfl (by decide) ?_)
                refine xk_guardT rfl rfl ?_; refine xk_move rfl (by decide) ?_
                (first | refine xk_split (t := 138) rfl (fun hg => ?_) (fun hg => ?_) | refine xk_splitB (t := 138) rfl (fun hg => ?_) (fun hg => ?_))
                ·
                  refine xk_guardT rfl rfl ?_; refine xk_field (off := 0) (by kernel_rfl) rfl (by decide) ?_
                  refine xk_guardT rfl rfl ?_; refine xk_ld rfl ?_
                  refine xk_guardT rfl rfl ?_; refine xk_move rfl (by decide) ?_
                  refine xk_guardT rfl rfl ?_; refine xk_at n.toNat (oC + n.toNat * 6) (el := 60) (sz := 6) (by kernel_rfl) (by kernel_rfl) rfl rfl (by omega) (by omega) (by omega) (by decide) ?_
                  refine xk_guardT rfl rfl ?_; refine xk_field (off := 0) (by kernel_rfl) rfl (by decide) ?_
                  refine xk_guardT rfl rfl ?_; refine xk_load (by kernel_rfl) rfl (Rd.ro (p := q1) (by simp) hzC (hcC 0 _ rfl)) (by decide) ?_
                  refine xk_guardT rfl rfl ?_; refine xk_neq rfl rfl (by decide) ?_
                  refine xk_guardT rfl rfl ?_; (first | refine xk_pickT rfl rfl (by decide) ?_ | refine xk_pickF rfl rfl (by decide) ?_)
                  refine xk_guardT rfl rfl ?_; (first | refine xk_pickT rfl rfl (by decide) ?_ | refine xk_pickF rfl rfl (by decide) ?_)
                  (first | refine xk_pickT rfl rfl (by decide) ?_ | refine xk_pickF rfl rfl (by decide) ?_)
                  refine xk_assign rfl (by decide) ?_
                  refine XK.nilN ?_
                  exact XK.meetB (by repeat (first | exact trivial | refine ⟨rfl, ?_⟩)) (by first | (refine get_iff rfl ?_; omega) | (refine get_false rfl ?_; exact id) | (refine get_true rfl ?_; exact trivial) | (refine get_iff rfl ⟨fun hh => ?_, fun hh => ?_⟩ <;> first | omega | exact trivial | (simp_all [eqVs, eqV]; done) | (simp_all [eqVs, eqV]; omega)) | (refine get_bool rfl ?_; simp [eqVs, eqV]; done) | (refine get_bool rfl ?_; simp_all [eqVs, eqV]; done) | (exfalso; simp_all; done) | (exfalso; simp_all; omega) | (exfalso; simp_all [eqVs, eqV]; done))
                ·
                  refine xk_guardF rfl rfl rfl (by decide) ?_
                  refine xk_guardF rfl rfl rfl (by decide) ?_
                  refine xk_guardF rfl rfl rfl (by decide) ?_
                  refine xk_guardF rfl rfl rfl (by decide) ?_
                  refine xk_guardF rfl rfl rfl (by decide) ?_
                  refine xk_guardF rfl rfl rfl (by decide) ?_
                  refine xk_guardF rfl rfl rfl (by decide) ?_
                  refine xk_guardT rfl rfl ?_; (first | refine xk_pickT rfl rfl (by decide) ?_ | refine xk_pickF rfl rfl (by decide) ?_)
                  refine xk_guardT rfl rfl ?_; (first | refine xk_pickT rfl rfl (by decide) ?_ | refine xk_pickF rfl rfl (by decide) ?_)
                  (first | refine xk_pickT rfl rfl (by decide) ?_ | refine xk_pickF rfl rfl (by decide) ?_)
                  refine xk_assign rfl (by decide) ?_
                  refine XK.nilN ?_
                  exact XK.meetB (by repeat (first | exact trivial | refine ⟨rfl, ?_⟩)) (by first | (refine get_iff rfl ?_; omega) | (refine get_false rfl ?_; exact id) | (refine get_true rfl ?_; exact trivial) | (refine get_iff rfl ⟨fun hh => ?_, fun hh => ?_⟩ <;> first | omega | exact trivial | (simp_all [eqVs, eqV]; done) | (simp_all [eqVs, eqV]; omega)) | (refine get_bool rfl ?_; simp [eqVs, eqV]; done) | (refine get_bool rfl ?_; simp_all [eqVs, eqV]; done) | (exfalso; simp_all; done) | (exfalso; simp_all; omega) | (exfalso; simp_all [eqVs, eqV]; done))
              ·
                refine xk_guardF rfl rfl rfl (by decide) ?_
                refine xk_guardF rfl rfl rfl (by decide) ?_
                refine xk_guardF rfl rfl rfl (by decide) ?_
                refine xk_guardF rfl rfl rfl (by decide) ?_
                refine xk_guardF rfl rfl rfl (by decide) ?_
                refine xk_guardF rfl rfl rfl (by decide) ?_
                refine xk_guardF rfl rfl rfl (by decide) ?_
                refine xk_guardT rfl rfl ?_; (first | refine xk_pickT rfl rfl (by decide) ?_ | refine xk_pickF rfl rfl (by decide) ?_)
                refine xk_guardT rfl rfl ?_; refine xk_move rfl (by decide) ?_
                refine xk_guardF rfl rfl rfl (by decide) ?_
                refine xk_guardF rfl rfl rfl (by decide) ?_
                refine xk_guardF rfl rfl rfl (by decide) ?_
                refine xk_guardF rfl rfl rfl (by decide) ?_
                refine xk_guardF rfl rfl rfl (by decide) ?_
                refine xk_guardF rfl rfl rfl (by decide) ?_
                refine xk_guardF rfl rfl rfl (by decide) ?_
                refine xk_guardT rfl rfl ?_; (first | refine xk_pickT rfl rfl (by decide) ?_ | refine xk_pickF rfl rfl (by decide) ?_)
                refine xk_guardT rfl rfl ?_; (first | refine xk_pickT rfl rfl (by decide) ?_ | refine xk_pickF rfl rfl (by decide) ?_)
                (first | refine xk_pickT rfl rfl (by decide) ?_ | refine xk_pickF rfl rfl (by decide) ?_)
                refine xk_assign rfl (by decide) ?_
                refine XK.nilN ?_
                exact XK.meetB (by repeat (first | exact trivial | refine ⟨rfl, ?_⟩)) (by first | (refine get_iff rfl ?_; omega) | (refine get_false rfl ?_; exact id) | (refine get_true rfl ?_; exact trivial) | (refine get_iff rfl ⟨fun hh => ?_, fun hh => ?_⟩ <;> first | omega | exact trivial | (simp_all [eqVs, eqV]; done) | (simp_all [eqVs, eqV]; omega)) | (refine get_bool rfl ?_; simp [eqVs, eqV]; done) | (refine get_bool rfl ?_; simp_all [eqVs, eqV]; done) | (exfalso; simp_all; done) | (exfalso; simp_all; omega) | (exfalso; simp_all [eqVs, eqV]; done))
            ·
              refine xk_guardF rfl rfl rfl (by decide) ?_
              refine xk_guardF rfl rfl rfl (by decide) ?_
              refine xk_guardT rfl rfl ?_; (first | refine xk_pickT rfl rfl (by decide) ?_ | refine xk_pickF rfl rfl (by decide) ?_)
              refine xk_guardT rfl rfl ?_; refine xk_move rfl (by decide) ?_
              refine xk_guardF rfl rfl rfl (by decide) ?_
              refine xk_guardF rfl rfl rfl (by decide) ?_
              refine xk_guardF rfl rfl rfl (by decide) ?_
              refine xk_guardF rfl rfl rfl (by decide) ?_
              refine xk_guardF rfl rfl rfl (by decide) ?_
              refine xk_guardF rfl rfl rfl (by decide) ?_
              refine xk_guardF rfl rfl rfl (by decide) ?_
              refine xk_guardT rfl rfl ?_; (first | refine xk_pickT rfl rfl (by decide) ?_ | refine xk_pickF rfl rfl (by decide) ?_)
              refine xk_guardT rfl rfl ?_; refine xk_move rfl (by decide) ?_
              refine xk_guardF rfl rfl rfl (by decide) ?_
              refine xk_guardF rfl rfl rfl (by decide) ?_
              refine xk_guardF rfl rfl rfl (by decide) ?_
              refine xk_guardF rfl rfl rfl (by decide) ?_
              refine xk_guardF rfl rfl rfl (by decide) ?_
              refine xk_guardF rfl rfl rfl (by decide) ?_
              refine xk_guardF rfl rfl rfl (by decide) ?_
              refine xk_guardT rfl rfl ?_; (first | refine xk_pickT rfl rfl (by decide) ?_ | refine xk_pickF rfl rfl (by decide) ?_)
              refine xk_guardT rfl rfl ?_; (first | refine xk_pickT rfl rfl (by decide) ?_ | refine xk_pickF rfl rfl (by decide) ?_)
              (first | refine xk_pickT rfl rfl (by decide) ?_ | refine xk_pickF rfl rfl (by decide) ?_)
              refine xk_assign rfl (by decide) ?_
              refine XK.nilN ?_
              exact XK.meetB (by repeat (first | exact trivial | refine ⟨rfl, ?_⟩)) (by first | (refine get_iff rfl ?_; omega) | (refine get_false rfl ?_; exact id) | (refine get_true rfl ?_; exact trivial) | (refine get_iff rfl ⟨fun hh => ?_, fun hh => ?_⟩ <;> first | omega | exact trivial | (simp_all [eqVs, eqV]; done) | (simp_all [eqVs, eqV]; omega)) | (refine get_bool rfl ?_; simp [eqVs, eqV]; done) | (refine get_bool rfl ?_; simp_all [eqVs, eqV]; done) | (exfalso; simp_all; done) | (exfalso; simp_all; omega) | (exfalso; simp_all [eqVs, eqV]; done))
        ·
          refine xk_guardF rfl rfl rfl (by decide) ?_
          refine xk_guardF rfl rfl rfl (by decide) ?_
          refine xk_guardF rfl rfl rfl (by decide) ?_
          refine xk_guardU rfl rfl (by decide) ?_
          refine xk_guardU rfl rfl (by decide) ?_
          refine xk_guardU rfl rfl (by decide) ?_
          refine xk_guardU rfl rfl (by decide) ?_
          refine xk_guardU rfl rfl (by decide) ?_
          refine xk_guardU rfl rfl (by decide) ?_
          refine xk_guardU rfl rfl (by decide) ?_
          refine xk_guardF rfl rfl rfl (by decide) ?_
          refine xk_guardF rfl rfl rfl (by decide) ?_
          refine xk_guardU rfl rfl (by decide) ?_
          refine xk_guardU rfl rfl (by decide) ?_
          refine xk_guardF rfl rfl rfl (by decide) ?_
          refine xk_guardF rfl rfl rfl (by decide) ?_
          refine xk_guardU rfl rfl (by decide) ?_
          refine xk_guardU rfl rfl (by decide) ?_
          refine xk_guardU rfl rfl (by decide) ?_
          refine xk_guardU rfl rfl (by decide) ?_
          refine xk_guardU rfl rfl (by decide) ?_
          refine xk_guardU rfl rfl (by decide) ?_
          refine xk_guardU rfl rfl (by decide) ?_
          refine xk_guardU rfl rfl (by decide) ?_
          refine xk_guardU rfl rfl (by decide) ?_
          refine xk_guardU rfl rfl (by decide) ?_
          refine xk_guardU rfl rfl (by decide) ?_
          refine xk_guardU rfl rfl (by decide) ?_
          refine xk_guardU rfl rfl (by decide) ?_
          refine xk_guardU rfl rfl (by decide) ?_
          refine xk_guardU rfl rfl (by decide) ?_
          refine xk_guardU rfl rfl (by decide) ?_
          refine xk_guardU rfl rfl (by decide) ?_
          refine xk_guardU rfl rfl (by decide) ?_
          refine xk_guardU rfl rfl (by decide) ?_
          refine xk_guardU rfl rfl (by decide) ?_
          refine xk_guardU rfl rfl (by decide) ?_
          refine xk_guardU rfl rfl (by decide) ?_
          refine xk_guardU rfl rfl (by decide) ?_
          refine xk_guardU rfl rfl (by decide) ?_
          refine xk_guardF rfl rfl rfl (by decide) ?_
          (first | refine xk_pickT rfl rfl (by decide) ?_ | refine xk_pickF rfl rfl (by decide) ?_)
          refine xk_assign rfl (by decide) ?_
          refine XK.nilN ?_
          exact XK.meetB (by repeat (first | exact trivial | refine ⟨rfl, ?_⟩)) (by first | (refine get_iff rfl ?_; omega) | (refine get_false rfl ?_; exact id) | (refine get_true rfl ?_; exact trivial) | (refine get_iff rfl ⟨fun hh => ?_, fun hh => ?_⟩ <;> first | omega | exact trivial | (simp_all [eqVs, eqV]; done) | (simp_all [eqVs, eqV]; omega)) | (refine get_bool rfl ?_; simp [eqVs, eqV]; done) | (refine get_bool rfl ?_; simp_all [eqVs, eqV]; done) | (exfalso; simp_all; done) | (exfalso; simp_all; omega) | (exfalso; simp_all [eqVs, eqV]; done))
      refine XK.ret ?_
      refine XK.norm ?_
      exact XK.ret1 rfl rfl fun w1 st => ⟨by simp, st.below (by simp)⟩
    ·
      refine XK.skip ?_
      refine XK.norm ?_
      refine XK.seq ?_
      obtain ⟨hgood, he⟩ : goodB s p n ∧ (t1, kd, ac) = ((0 : Int), kn, n) := by
        rcases hD with hD | ⟨st, he, hne, _⟩
        · exact hD
        · simp only [Prod.mk.injEq] at he; exact absurd (he.1 ▸ hne) h16
      simp only [Prod.mk.injEq] at he
      obtain ⟨e1, e2, e3⟩ := he
      subst e1
      replace e2 := e2.symm
      replace e3 := e3.symm
      clear hD
      subst e2
      subst e3
      obtain ⟨f1, f2, f3, f4, f5, f6⟩ := twice_facts (a := a) (b := b) hm hT hr0n hr1n hgood (by omega) hb
      have hkn := (tw_on hT).2.2.1
      have hkf := (tw_on hT).2.2.2
      have hsmX := zeroW_sm hK
      have hsmyX := zeroW_sm hK
      refine XK.envS [(10, .pointer (some ⟨g1, 0, none⟩)), (11, .int .i64 (a : Int)), (20, .slice Ala 3 cla), (23, .pointer (some ⟨g9, 0, none⟩)), (14, .slice (some ⟨g4, 0, none⟩) 3 3), (15, .slice (some ⟨g5, 0, none⟩) 3 3), (16, .slice (some ⟨g6, 0, none⟩) 3 3), (18, .int .i64 (r : Int)), (19, .int .i64 n), (12, .pointer (some ⟨g2, 0, none⟩))] ?_

      refine XK.region ?_
      refine xk_ldN 6 rfl ?_
      refine xk_move rfl (by decide) ?_
      refine xk_ldN 2 rfl ?_
      refine xk_call [] (f := 12) (fi := []) (ca := []) (by kernel_rfl) rfl rfl (by decide) (by simp) (fun v w w' => StR (fresh w w') (doneX (zeroW s) a kn n) (doneY (zeroW s) a kn n) v) (fun w1 st => done_any qs X0 X1 X2 X3 X4 X5 Xk0 Xk1 Xk2 Xk3 Xk4 Xk5 (zeroW s) (zeroW s) a kn n w1 (st.le (by simp)) (by omega) hsmX hsmyX hS0.six.1 hS0.six.2.1 hS0.six.2.2.1 hS0.six.2.2.2.1 hS0.six.2.2.2.2.1 hS0.six.2.2.2.2.2) ?_
      rintro _ w1 qy hY hf _ _
      have hY := StR.le hY hf
      clear hf
      have hsmY := doneX_sm hsmX a kn n
      have hsmyY := doneY_sm hsmyX a kn n
      generalize heY : doneX (zeroW s) a kn n = x1 at *
      generalize hfY : doneY (zeroW s) a kn n = y1 at *
      obtain ⟨Y0, Yk0, Y1, Yk1, Y2, Yk2, Y3, Yk3, Y4, Yk4, Y5, Yk5, rfl, e1, e2, e3, e4, e5, e6⟩ := hY
      have hY : StR qy x1 y1 (.agg #[.slice Y0 x1.d.length Yk0, .slice Y1 x1.c.length Yk1, .slice Y2 x1.l.length Yk2, .slice Y3 y1.d.length Yk3, .slice Y4 y1.c.length Yk4, .slice Y5 y1.l.length Yk5]) := ⟨Y0, Yk0, Y1, Yk1, Y2, Yk2, Y3, Yk3, Y4, Yk4, Y5, Yk5, rfl, e1, e2, e3, e4, e5, e6⟩
      clear e1 e2 e3 e4 e5 e6
      refine xk_alloc (cs := [.slice none 0 0, .slice none 0 0, .slice none 0 0, .slice none 0 0, .slice none 0 0, .slice none 0 0]) (zeroB_of (by kernel_rfl)) (by decide) fun g10 => ?_
      (first | (refine xk_storeN 0 rfl rfl rfl (by kernel_rfl) (by simp [Value.cells, Value.oneCell']) (by simp [Value.cells]) ?_) | (refine xk_storeN 1 rfl rfl rfl (by kernel_rfl) (by simp [Value.cells, Value.oneCell']) (by simp [Value.cells]) ?_) | (refine xk_storeN 2 rfl rfl rfl (by kernel_rfl) (by simp [Value.cells, Value.oneCell']) (by simp [Value.cells]) ?_) | (refine xk_storeN 3 rfl rfl rfl (by kernel_rfl) (by simp [Value.cells, Value.oneCell']) (by simp [Value.cells]) ?_) | (refine xk_storeN 4 rfl rfl rfl (by kernel_rfl) (by simp [Value.cells, Value.oneCell']) (by simp [Value.cells]) ?_) | (refine xk_storeN 5 rfl rfl rfl (by kernel_rfl) (by simp [Value.cells, Value.oneCell']) (by simp [Value.cells]) ?_) | (refine xk_storeN 6 rfl rfl rfl (by kernel_rfl) (by simp [Value.cells, Value.oneCell']) (by simp [Value.cells]) ?_) | (refine xk_storeN 7 rfl rfl rfl (by kernel_rfl) (by simp [Value.cells, Value.oneCell']) (by simp [Value.cells]) ?_) | (refine xk_storeN 8 rfl rfl rfl (by kernel_rfl) (by simp [Value.cells, Value.oneCell']) (by simp [Value.cells]) ?_)); simp only [putN, Value.cells, List.set, List.take, List.drop, List.nil_append, List.append_nil, List.length_cons, List.length_nil, List.cons_append, Nat.reduceAdd]
      refine XK.nilN ?_
      refine XK.seq ?_

      refine XK.region ?_
      refine xk_ldN 4 rfl ?_
      refine xk_ldN 6 rfl ?_
      refine xk_move rfl (by decide) ?_
      refine xk_move rfl (by decide) ?_
      refine xk_callR (f := 10) (fi := []) (ca := []) (by kernel_rfl) rfl rfl (by decide) (v0 := actV (decF s x1 y1 [] a [(packZ m 0 p 0).1, n, on])) (fun w1 st => decide_any q1 qy s A1 A2 A3 A4 _ k1 _ k2 _ k3 _ k4 Y0 Y1 Y2 Y3 Y4 Y5 _ Yk0 _ Yk1 _ Yk2 _ Yk3 _ Yk4 _ Yk5 x1 y1 none 0 0 [] a Ala 3 cla [(packZ m 0 p 0).1, n, on] w1 hSP hK (st.le (by simp)) hY (st.le (by simp)) (SlS.nil _ _) rfl (by omega) (hla.le (st.le (by simp))) rfl (by omega) (u32_three _ _ _ _ hr0n (by omega) hon.1 (by omega))) ?_
      rw [f1]
      simp only [actV]
      refine xk_move rfl (by decide) ?_
      refine xk_extract rfl rfl (by decide) ?_
      refine xk_extract rfl rfl (by decide) ?_
      refine xk_alloc (cs := [.int .u8 0, .int .i64 0]) (zeroB_of (by kernel_rfl)) (by decide) fun g11 => ?_
      refine xk_assign rfl (by decide) ?_
      (first | (refine xk_storeN 0 rfl rfl rfl (by kernel_rfl) (by simp [Value.cells, Value.oneCell']) (by simp [Value.cells]) ?_) | (refine xk_storeN 1 rfl rfl rfl (by kernel_rfl) (by simp [Value.cells, Value.oneCell']) (by simp [Value.cells]) ?_) | (refine xk_storeN 2 rfl rfl rfl (by kernel_rfl) (by simp [Value.cells, Value.oneCell']) (by simp [Value.cells]) ?_) | (refine xk_storeN 3 rfl rfl rfl (by kernel_rfl) (by simp [Value.cells, Value.oneCell']) (by simp [Value.cells]) ?_) | (refine xk_storeN 4 rfl rfl rfl (by kernel_rfl) (by simp [Value.cells, Value.oneCell']) (by simp [Value.cells]) ?_) | (refine xk_storeN 5 rfl rfl rfl (by kernel_rfl) (by simp [Value.cells, Value.oneCell']) (by simp [Value.cells]) ?_) | (refine xk_storeN 6 rfl rfl rfl (by kernel_rfl) (by simp [Value.cells, Value.oneCell']) (by simp [Value.cells]) ?_) | (refine xk_storeN 7 rfl rfl rfl (by kernel_rfl) (by simp [Value.cells, Value.oneCell']) (by simp [Value.cells]) ?_) | (refine xk_storeN 8 rfl rfl rfl (by kernel_rfl) (by simp [Value.cells, Value.oneCell']) (by simp [Value.cells]) ?_)); simp only [putN, Value.cells, List.set, List.take, List.drop, List.nil_append, List.append_nil, List.length_cons, List.length_nil, List.cons_append, Nat.reduceAdd]
      refine XK.nilN ?_
      refine XK.seq ?_

      refine XK.region ?_
      refine xk_ldN 4 rfl ?_
      refine xk_ldN 6 rfl ?_
      refine xk_move rfl (by decide) ?_
      refine xk_sub (c := (b : Int)) rfl rfl (by rw [hb]; exact wrap_in (by omega)) (by decide) ?_
      refine xk_move rfl (by decide) ?_
      refine xk_callR (f := 10) (fi := []) (ca := []) (by kernel_rfl) rfl rfl (by decide) (v0 := actV (decF s x1 y1 [] b [(packZ m 0 p 0).1, n, on])) (fun w1 st => decide_any q1 qy s A1 A2 A3 A4 _ k1 _ k2 _ k3 _ k4 Y0 Y1 Y2 Y3 Y4 Y5 _ Yk0 _ Yk1 _ Yk2 _ Yk3 _ Yk4 _ Yk5 x1 y1 none 0 0 [] b Ala 3 cla [(packZ m 0 p 0).1, n, on] w1 hSP hK (st.le (by simp)) hY (st.le (by simp)) (SlS.nil _ _) rfl (by omega) (hla.le (st.le (by simp))) rfl (by omega) (u32_three _ _ _ _ hr0n (by omega) hon.1 (by omega))) ?_
      rw [f2]
      simp only [actV]
      refine xk_move rfl (by decide) ?_
      refine xk_extract rfl rfl (by decide) ?_
      refine xk_extract rfl rfl (by decide) ?_
      refine xk_alloc (cs := [.int .u8 0, .int .i64 0]) (zeroB_of (by kernel_rfl)) (by decide) fun g12 => ?_
      refine xk_assign rfl (by decide) ?_
      (first | (refine xk_storeN 0 rfl rfl rfl (by kernel_rfl) (by simp [Value.cells, Value.oneCell']) (by simp [Value.cells]) ?_) | (refine xk_storeN 1 rfl rfl rfl (by kernel_rfl) (by simp [Value.cells, Value.oneCell']) (by simp [Value.cells]) ?_) | (refine xk_storeN 2 rfl rfl rfl (by kernel_rfl) (by simp [Value.cells, Value.oneCell']) (by simp [Value.cells]) ?_) | (refine xk_storeN 3 rfl rfl rfl (by kernel_rfl) (by simp [Value.cells, Value.oneCell']) (by simp [Value.cells]) ?_) | (refine xk_storeN 4 rfl rfl rfl (by kernel_rfl) (by simp [Value.cells, Value.oneCell']) (by simp [Value.cells]) ?_) | (refine xk_storeN 5 rfl rfl rfl (by kernel_rfl) (by simp [Value.cells, Value.oneCell']) (by simp [Value.cells]) ?_) | (refine xk_storeN 6 rfl rfl rfl (by kernel_rfl) (by simp [Value.cells, Value.oneCell']) (by simp [Value.cells]) ?_) | (refine xk_storeN 7 rfl rfl rfl (by kernel_rfl) (by simp [Value.cells, Value.oneCell']) (by simp [Value.cells]) ?_) | (refine xk_storeN 8 rfl rfl rfl (by kernel_rfl) (by simp [Value.cells, Value.oneCell']) (by simp [Value.cells]) ?_)); simp only [putN, Value.cells, List.set, List.take, List.drop, List.nil_append, List.append_nil, List.length_cons, List.length_nil, List.cons_append, Nat.reduceAdd]
      refine XK.nilN ?_
      refine XK.seq ?_
      refine XK.envS [(10, .pointer (some ⟨g1, 0, none⟩)), (11, .int .i64 (a : Int)), (20, .slice Ala 3 cla), (23, .pointer (some ⟨g9, 0, none⟩)), (14, .slice (some ⟨g4, 0, none⟩) 3 3), (15, .slice (some ⟨g5, 0, none⟩) 3 3), (16, .slice (some ⟨g6, 0, none⟩) 3 3), (18, .int .i64 (r : Int)), (19, .int .i64 n), (24, .pointer (some ⟨g10, 0, none⟩)), (25, .int .i32 0), (26, .pointer (some ⟨g11, 0, none⟩)), (27, .int .i32 0), (28, .pointer (some ⟨g12, 0, none⟩))] ?_
      refine XK.weak [0, 1, 2, 3, 4, 5, 6, 8] rfl (by decide) (fun _ h => h) ?_

      refine XK.draw 22 (by kernel_rfl) (by kernel_rfl) ?_
      refine XA.dA 0 rfl rfl rfl (does_move rfl) ?_
      refine XA.dA 1 rfl rfl rfl (does_move rfl) ?_
      refine XA.dA 2 rfl rfl rfl (does_at r r (el := 3) (sz := 1) (by kernel_rfl) (by kernel_rfl) rfl rfl (by omega) (by omega) (by omega)) ?_
      refine XA.dA 3 rfl rfl rfl (does_load (by kernel_rfl) rfl (Rd.blk 4 rfl cm)) ?_
      refine XA.dA 4 rfl rfl rfl (does_move rfl) ?_
      refine XA.dA 5 rfl rfl rfl (does_move rfl) ?_
      refine XA.dA 6 rfl rfl rfl (does_at r r (el := 3) (sz := 1) (by kernel_rfl) (by kernel_rfl) rfl rfl (by omega) (by omega) (by omega)) ?_
      refine XA.dA 7 rfl rfl rfl (does_load (by kernel_rfl) rfl (Rd.blk 5 rfl cp)) ?_
      refine XA.dA 8 rfl rfl rfl (does_buildS (zs := [.int .i64 0, .int .i64 0, .int .i64 0, .int .i64 0]) (L := [(0, 1), (1, 1), (2, 1), (3, 1)]) (zeroB_of (by kernel_rfl)) (by kernel_rfl) rfl (by simp [fillL, setN, Value.cells]; rfl)) ?_
      refine XA.dA 9 rfl rfl rfl (does_move rfl) ?_
      refine XA.dA 10 rfl rfl rfl (does_conv (ds := .int .i64) (by kernel_rfl) (by kernel_rfl) rfl (wrap_u32 (by omega))) ?_
      refine XA.dA 11 rfl rfl rfl (does_move rfl) ?_
      refine XA.dA 12 rfl rfl rfl (does_move rfl) ?_
      refine XA.dA 13 rfl rfl rfl (does_at r r (el := 3) (sz := 1) (by kernel_rfl) (by kernel_rfl) rfl rfl (by omega) (by omega) (by omega)) ?_
      refine XA.dA 14 rfl rfl rfl (does_load (by kernel_rfl) rfl (Rd.blk 6 rfl coff)) ?_
      refine XA.dA 15 rfl rfl rfl (does_conv (ds := .int .i64) (by kernel_rfl) (by kernel_rfl) rfl (wrap_u32 (by omega))) ?_
      refine XA.next 16 rfl (by kernel_rfl) ?_
      refine xk_slice (el := 54) (sz := 1) (zs := [.int .u32 0]) (by kernel_rfl) (zeroB_of (by kernel_rfl)) (by kernel_rfl) rfl (by decide) (by decide) rfl (by simp [fillL, setN, Value.cells, List.range_succ, List.set]; rfl) (by decide) fun g13 => ?_
      refine XA.bk ?_
      refine XA.next 17 rfl (by kernel_rfl) ?_
      refine xk_call [] (f := 13) (fi := []) (ca := []) (by kernel_rfl) rfl rfl (by decide) (by simp) (CmdOk ((packZ m 0 p 0).1 :: [n, off])) (fun w1 st => command_any m 0 p 0 (some ⟨g13, 0, none⟩) 2 2 [n, off] w1 (st.slS (i := 0) rfl rfl) rfl (by omega) hpk) ?_
      rintro _ w1 qcb ⟨Alb, clb, rfl, hlb⟩ hf _ _
      have hlb := hlb.le hf
      clear hf
      refine XA.bk ?_
      refine XA.dA 18 rfl rfl rfl (does_move rfl) ?_
      refine XA.dA 19 rfl rfl rfl (does_extract rfl rfl) ?_
      refine XA.dA 20 rfl rfl rfl (does_extract rfl rfl) ?_
      refine XA.dA 21 rfl rfl rfl (does_assign rfl) ?_
      refine XA.next 22 rfl (by kernel_rfl) ?_
      refine xk_assign rfl (by decide) ?_
      refine XA.bt ?_
      refine XA.done (by kernel_rfl) ?_
      refine XK.norm ?_
      refine XK.seq ?_
      refine XK.envS [(10, .pointer (some ⟨g1, 0, none⟩)), (11, .int .i64 (a : Int)), (20, .slice Ala 3 cla), (23, .pointer (some ⟨g9, 0, none⟩)), (18, .int .i64 (r : Int)), (19, .int .i64 n), (24, .pointer (some ⟨g10, 0, none⟩)), (25, .int .i32 0), (26, .pointer (some ⟨g11, 0, none⟩)), (27, .int .i32 0), (28, .pointer (some ⟨g12, 0, none⟩)), (29, .slice Alb 3 clb)] ?_
      refine XK.weak [1, 2, 3, 4, 8] rfl (by decide) (fun _ h => h) ?_

      refine XK.region ?_
      refine xk_ldN 4 rfl ?_
      refine xk_ldN 6 rfl ?_
      refine xk_move rfl (by decide) ?_
      refine xk_move rfl (by decide) ?_
      refine xk_callR (f := 10) (fi := []) (ca := []) (by kernel_rfl) rfl rfl (by decide) (v0 := actV (decF s x1 y1 [] a [(packZ m 0 p 0).1, n, off])) (fun w1 st => decide_any q1 qy s A1 A2 A3 A4 _ k1 _ k2 _ k3 _ k4 Y0 Y1 Y2 Y3 Y4 Y5 _ Yk0 _ Yk1 _ Yk2 _ Yk3 _ Yk4 _ Yk5 x1 y1 none 0 0 [] a Alb 3 clb [(packZ m 0 p 0).1, n, off] w1 hSP hK (st.le (by simp)) hY (st.le (by simp)) (SlS.nil _ _) rfl (by omega) (hlb.le (st.le (by simp))) rfl (by omega) (u32_three _ _ _ _ hr0n (by omega) hoff.1 (by omega))) ?_
      rw [f3]
      simp only [actV]
      refine xk_move rfl (by decide) ?_
      refine xk_extract rfl rfl (by decide) ?_
      refine xk_extract rfl rfl (by decide) ?_
      refine xk_alloc (cs := [.int .u8 0, .int .i64 0]) (zeroB_of (by kernel_rfl)) (by decide) fun g14 => ?_
      refine xk_assign rfl (by decide) ?_
      (first | (refine xk_storeN 0 rfl rfl rfl (by kernel_rfl) (by simp [Value.cells, Value.oneCell']) (by simp [Value.cells]) ?_) | (refine xk_storeN 1 rfl rfl rfl (by kernel_rfl) (by simp [Value.cells, Value.oneCell']) (by simp [Value.cells]) ?_) | (refine xk_storeN 2 rfl rfl rfl (by kernel_rfl) (by simp [Value.cells, Value.oneCell']) (by simp [Value.cells]) ?_) | (refine xk_storeN 3 rfl rfl rfl (by kernel_rfl) (by simp [Value.cells, Value.oneCell']) (by simp [Value.cells]) ?_) | (refine xk_storeN 4 rfl rfl rfl (by kernel_rfl) (by simp [Value.cells, Value.oneCell']) (by simp [Value.cells]) ?_) | (refine xk_storeN 5 rfl rfl rfl (by kernel_rfl) (by simp [Value.cells, Value.oneCell']) (by simp [Value.cells]) ?_) | (refine xk_storeN 6 rfl rfl rfl (by kernel_rfl) (by simp [Value.cells, Value.oneCell']) (by simp [Value.cells]) ?_) | (refine xk_storeN 7 rfl rfl rfl (by kernel_rfl) (by simp [Value.cells, Value.oneCell']) (by simp [Value.cells]) ?_) | (refine xk_storeN 8 rfl rfl rfl (by kernel_rfl) (by simp [Value.cells, Value.oneCell']) (by simp [Value.cells]) ?_)); simp only [putN, Value.cells, List.set, List.take, List.drop, List.nil_append, List.append_nil, List.length_cons, List.length_nil, List.cons_append, Nat.reduceAdd]
      refine XK.nilN ?_
      refine XK.seq ?_

      refine XK.region ?_
      refine xk_ldN 4 rfl ?_
      refine xk_ldN 6 rfl ?_
      refine xk_move rfl (by decide) ?_
      refine xk_sub (c := (b : Int)) rfl rfl (by rw [hb]; exact wrap_in (by omega)) (by decide) ?_
      refine xk_move rfl (by decide) ?_
      refine xk_callR (f := 10) (fi := []) (ca := []) (by kernel_rfl) rfl rfl (by decide) (v0 := actV (decF s x1 y1 [] b [(packZ m 0 p 0).1, n, off])) (fun w1 st => decide_any q1 qy s A1 A2 A3 A4 _ k1 _ k2 _ k3 _ k4 Y0 Y1 Y2 Y3 Y4 Y5 _ Yk0 _ Yk1 _ Yk2 _ Yk3 _ Yk4 _ Yk5 x1 y1 none 0 0 [] b Alb 3 clb [(packZ m 0 p 0).1, n, off] w1 hSP hK (st.le (by simp)) hY (st.le (by simp)) (SlS.nil _ _) rfl (by omega) (hlb.le (st.le (by simp))) rfl (by omega) (u32_three _ _ _ _ hr0n (by omega) hoff.1 (by omega))) ?_
      rw [f4]
      simp only [actV]
      refine xk_move rfl (by decide) ?_
      refine xk_extract rfl rfl (by decide) ?_
      refine xk_extract rfl rfl (by decide) ?_
      refine xk_alloc (cs := [.int .u8 0, .int .i64 0]) (zeroB_of (by kernel_rfl)) (by decide) fun g15 => ?_
      refine xk_assign rfl (by decide) ?_
      (first | (refine xk_storeN 0 rfl rfl rfl (by kernel_rfl) (by simp [Value.cells, Value.oneCell']) (by simp [Value.cells]) ?_) | (refine xk_storeN 1 rfl rfl rfl (by kernel_rfl) (by simp [Value.cells, Value.oneCell']) (by simp [Value.cells]) ?_) | (refine xk_storeN 2 rfl rfl rfl (by kernel_rfl) (by simp [Value.cells, Value.oneCell']) (by simp [Value.cells]) ?_) | (refine xk_storeN 3 rfl rfl rfl (by kernel_rfl) (by simp [Value.cells, Value.oneCell']) (by simp [Value.cells]) ?_) | (refine xk_storeN 4 rfl rfl rfl (by kernel_rfl) (by simp [Value.cells, Value.oneCell']) (by simp [Value.cells]) ?_) | (refine xk_storeN 5 rfl rfl rfl (by kernel_rfl) (by simp [Value.cells, Value.oneCell']) (by simp [Value.cells]) ?_) | (refine xk_storeN 6 rfl rfl rfl (by kernel_rfl) (by simp [Value.cells, Value.oneCell']) (by simp [Value.cells]) ?_) | (refine xk_storeN 7 rfl rfl rfl (by kernel_rfl) (by simp [Value.cells, Value.oneCell']) (by simp [Value.cells]) ?_) | (refine xk_storeN 8 rfl rfl rfl (by kernel_rfl) (by simp [Value.cells, Value.oneCell']) (by simp [Value.cells]) ?_)); simp only [putN, Value.cells, List.set, List.take, List.drop, List.nil_append, List.append_nil, List.length_cons, List.length_nil, List.cons_append, Nat.reduceAdd]
      refine XK.nilN ?_
      refine XK.seq ?_
      refine XK.cutB 254 (False) ?_ ?_
      · skip

        refine XK.region ?_
        refine xk_field (off := 0) (by kernel_rfl) rfl (by decide) ?_
        refine xk_ld rfl ?_
        refine xk_eql rfl rfl (by decide) ?_
        refine xk_move rfl (by decide) ?_
        (first | refine xk_split (t := 211) rfl (fun hg => ?_) (fun hg => ?_) | refine xk_splitB (t := 211) rfl (fun hg => ?_) (fun hg => ?_))
        ·
          refine xk_guardF rfl rfl rfl (by decide) ?_
          refine xk_guardF rfl rfl rfl (by decide) ?_
          refine xk_guardF rfl rfl rfl (by decide) ?_
          refine xk_guardF rfl rfl rfl (by decide) ?_
          (first | refine xk_pickT rfl rfl (by decide) ?_ | refine xk_pickF rfl rfl (by decide) ?_)
          refine xk_move rfl (by decide) ?_
          refine xk_guardF rfl rfl rfl (by decide) ?_
          refine xk_guardF rfl rfl rfl (by decide) ?_
          (first | refine xk_pickT rfl rfl (by decide) ?_ | refine xk_pickF rfl rfl (by decide) ?_)
          refine xk_move rfl (by decide) ?_
          refine xk_guardF rfl rfl rfl (by decide) ?_
          refine xk_guardF rfl rfl rfl (by decide) ?_
          refine xk_guardF rfl rfl rfl (by decide) ?_
          (first | refine xk_pickT rfl rfl (by decide) ?_ | refine xk_pickF rfl rfl (by decide) ?_)
          refine xk_move rfl (by decide) ?_
          refine xk_guardF rfl rfl rfl (by decide) ?_
          refine xk_guardF rfl rfl rfl (by decide) ?_
          (first | refine xk_pickT rfl rfl (by decide) ?_ | refine xk_pickF rfl rfl (by decide) ?_)
          refine xk_move rfl (by decide) ?_
          refine xk_guardF rfl rfl rfl (by decide) ?_
          refine xk_guardF rfl rfl rfl (by decide) ?_
          refine xk_guardF rfl rfl rfl (by decide) ?_
          (first | refine xk_pickT rfl rfl (by decide) ?_ | refine xk_pickF rfl rfl (by decide) ?_)
          refine xk_move rfl (by decide) ?_
          refine xk_guardF rfl rfl rfl (by decide) ?_
          refine xk_guardF rfl rfl rfl (by decide) ?_
          (first | refine xk_pickT rfl rfl (by decide) ?_ | refine xk_pickF rfl rfl (by decide) ?_)
          refine xk_move rfl (by decide) ?_
          refine xk_guardF rfl rfl rfl (by decide) ?_
          refine xk_guardF rfl rfl rfl (by decide) ?_
          refine xk_guardF rfl rfl rfl (by decide) ?_
          (first | refine xk_pickT rfl rfl (by decide) ?_ | refine xk_pickF rfl rfl (by decide) ?_)
          refine xk_move rfl (by decide) ?_
          refine xk_guardF rfl rfl rfl (by decide) ?_
          refine xk_guardF rfl rfl rfl (by decide) ?_
          refine xk_guardF rfl rfl rfl (by decide) ?_
          refine xk_guardF rfl rfl rfl (by decide) ?_
          (first | refine xk_pickT rfl rfl (by decide) ?_ | refine xk_pickF rfl rfl (by decide) ?_)
          refine xk_move rfl (by decide) ?_
          refine xk_guardF rfl rfl rfl (by decide) ?_
          refine xk_guardF rfl rfl rfl (by decide) ?_
          refine xk_guardF rfl rfl rfl (by decide) ?_
          (first | refine xk_pickT rfl rfl (by decide) ?_ | refine xk_pickF rfl rfl (by decide) ?_)
          refine XK.nilN ?_
          exact XK.meetB (by repeat (first | exact trivial | refine ⟨rfl, ?_⟩)) (by first | (refine get_iff rfl ?_; omega) | (refine get_false rfl ?_; exact id) | (refine get_true rfl ?_; exact trivial) | (refine get_iff rfl ⟨fun hh => ?_, fun hh => ?_⟩ <;> first | omega | exact trivial | (simp_all [eqVs, eqV]; done) | (simp_all [eqVs, eqV]; omega)) | (refine get_bool rfl ?_; simp [eqVs, eqV]; done) | (refine get_bool rfl ?_; simp_all [eqVs, eqV]; done) | (exfalso; simp_all; done) | (exfalso; simp_all; omega) | (exfalso; simp_all [eqVs, eqV]; done))
        ·
          refine xk_guardT rfl rfl ?_; refine xk_field (off := 1) (by kernel_rfl) rfl (by decide) ?_
          refine xk_guardT rfl rfl ?_; refine xk_ld rfl ?_
          refine xk_guardT rfl rfl ?_; refine xk_move rfl (by decide) ?_
          refine xk_guardT rfl rfl ?_; refine xk_neq rfl rfl (by decide) ?_
          (first | refine xk_pickT rfl rfl (by decide) ?_ | refine xk_pickF rfl rfl (by decide) ?_)
          refine xk_move rfl (by decide) ?_
          (first | refine xk_split (t := 217) rfl (fun hg => ?_) (fun hg => ?_) | refine xk_splitB (t := 217) rfl (fun hg => ?_) (fun hg => ?_))
          ·
            refine xk_guardF rfl rfl rfl (by decide) ?_
            refine xk_guardF rfl rfl rfl (by decide) ?_
            (first | refine xk_pickT rfl rfl (by decide) ?_ | refine xk_pickF rfl rfl (by decide) ?_)
            refine xk_move rfl (by decide) ?_
            refine xk_guardF rfl rfl rfl (by decide) ?_
            refine xk_guardF rfl rfl rfl (by decide) ?_
            refine xk_guardF rfl rfl rfl (by decide) ?_
            (first | refine xk_pickT rfl rfl (by decide) ?_ | refine xk_pickF rfl rfl (by decide) ?_)
            refine xk_move rfl (by decide) ?_
            refine xk_guardF rfl rfl rfl (by decide) ?_
            refine xk_guardF rfl rfl rfl (by decide) ?_
            (first | refine xk_pickT rfl rfl (by decide) ?_ | refine xk_pickF rfl rfl (by decide) ?_)
            refine xk_move rfl (by decide) ?_
            refine xk_guardF rfl rfl rfl (by decide) ?_
            refine xk_guardF rfl rfl rfl (by decide) ?_
            refine xk_guardF rfl rfl rfl (by decide) ?_
            (first | refine xk_pickT rfl rfl (by decide) ?_ | refine xk_pickF rfl rfl (by decide) ?_)
            refine xk_move rfl (by decide) ?_
            refine xk_guardF rfl rfl rfl (by decide) ?_
            refine xk_guardF rfl rfl rfl (by decide) ?_
            (first | refine xk_pickT rfl rfl (by decide) ?_ | refine xk_pickF rfl rfl (by decide) ?_)
            refine xk_move rfl (by decide) ?_
            refine xk_guardF rfl rfl rfl (by decide) ?_
            refine xk_guardF rfl rfl rfl (by decide) ?_
            refine xk_guardF rfl rfl rfl (by decide) ?_
            (first | refine xk_pickT rfl rfl (by decide) ?_ | refine xk_pickF rfl rfl (by decide) ?_)
            refine xk_move rfl (by decide) ?_
            refine xk_guardF rfl rfl rfl (by decide) ?_
            refine xk_guardF rfl rfl rfl (by decide) ?_
            refine xk_guardF rfl rfl rfl (by decide) ?_
            refine xk_guardF rfl rfl rfl (by decide) ?_
            (first | refine xk_pickT rfl rfl (by decide) ?_ | refine xk_pickF rfl rfl (by decide) ?_)
            refine xk_move rfl (by decide) ?_
            refine xk_guardF rfl rfl rfl (by decide) ?_
            refine xk_guardF rfl rfl rfl (by decide) ?_
            refine xk_guardF rfl rfl rfl (by decide) ?_
            (first | refine xk_pickT rfl rfl (by decide) ?_ | refine xk_pickF rfl rfl (by decide) ?_)
            refine XK.nilN ?_
            exact XK.meetB (by repeat (first | exact trivial | refine ⟨rfl, ?_⟩)) (by first | (refine get_iff rfl ?_; omega) | (refine get_false rfl ?_; exact id) | (refine get_true rfl ?_; exact trivial) | (refine get_iff rfl ⟨fun hh => ?_, fun hh => ?_⟩ <;> first | omega | exact trivial | (simp_all [eqVs, eqV]; done) | (simp_all [eqVs, eqV]; omega)) | (refine get_bool rfl ?_; simp [eqVs, eqV]; done) | (refine get_bool rfl ?_; simp_all [eqVs, eqV]; done) | (exfalso; simp_all; done) | (exfalso; simp_all; omega) | (exfalso; simp_all [eqVs, eqV]; done))
          ·
            refine xk_guardT rfl rfl ?_; refine xk_move rfl (by decide) ?_
            refine xk_guardT rfl rfl ?_; refine xk_neq rfl rfl (by decide) ?_
            (first | refine xk_pickT rfl rfl (by decide) ?_ | refine xk_pickF rfl rfl (by decide) ?_)
            refine xk_move rfl (by decide) ?_
            (first | refine xk_split (t := 221) rfl (fun hg => ?_) (fun hg => ?_) | refine xk_splitB (t := 221) rfl (fun hg => ?_) (fun hg => ?_))
            ·
              refine xk_guardF rfl rfl rfl (by decide) ?_
              refine xk_guardF rfl rfl rfl (by decide) ?_
              refine xk_guardF rfl rfl rfl (by decide) ?_
              (first | refine xk_pickT rfl rfl (by decide) ?_ | refine xk_pickF rfl rfl (by decide) ?_)
              refine xk_move rfl (by decide) ?_
              refine xk_guardF rfl rfl rfl (by decide) ?_
              refine xk_guardF rfl rfl rfl (by decide) ?_
              (first | refine xk_pickT rfl rfl (by decide) ?_ | refine xk_pickF rfl rfl (by decide) ?_)
              refine xk_move rfl (by decide) ?_
              refine xk_guardF rfl rfl rfl (by decide) ?_
              refine xk_guardF rfl rfl rfl (by decide) ?_
              refine xk_guardF rfl rfl rfl (by decide) ?_
              (first | refine xk_pickT rfl rfl (by decide) ?_ | refine xk_pickF rfl rfl (by decide) ?_)
              refine xk_move rfl (by decide) ?_
              refine xk_guardF rfl rfl rfl (by decide) ?_
              refine xk_guardF rfl rfl rfl (by decide) ?_
              (first | refine xk_pickT rfl rfl (by decide) ?_ | refine xk_pickF rfl rfl (by decide) ?_)
              refine xk_move rfl (by decide) ?_
              refine xk_guardF rfl rfl rfl (by decide) ?_
              refine xk_guardF rfl rfl rfl (by decide) ?_
              refine xk_guardF rfl rfl rfl (by decide) ?_
              (first | refine xk_pickT rfl rfl (by decide) ?_ | refine xk_pickF rfl rfl (by decide) ?_)
              refine xk_move rfl (by decide) ?_
              refine xk_guardF rfl rfl rfl (by decide) ?_
              refine xk_guardF rfl rfl rfl (by decide) ?_
              refine xk_guardF rfl rfl rfl (by decide) ?_
              refine xk_guardF rfl rfl rfl (by decide) ?_
              (first | refine xk_pickT rfl rfl (by decide) ?_ | refine xk_pickF rfl rfl (by decide) ?_)
              refine xk_move rfl (by decide) ?_
              refine xk_guardF rfl rfl rfl (by decide) ?_
              refine xk_guardF rfl rfl rfl (by decide) ?_
              refine xk_guardF rfl rfl rfl (by decide) ?_
              (first | refine xk_pickT rfl rfl (by decide) ?_ | refine xk_pickF rfl rfl (by decide) ?_)
              refine XK.nilN ?_
              exact XK.meetB (by repeat (first | exact trivial | refine ⟨rfl, ?_⟩)) (by first | (refine get_iff rfl ?_; omega) | (refine get_false rfl ?_; exact id) | (refine get_true rfl ?_; exact trivial) | (refine get_iff rfl ⟨fun hh => ?_, fun hh => ?_⟩ <;> first | omega | exact trivial | (simp_all [eqVs, eqV]; done) | (simp_all [eqVs, eqV]; omega)) | (refine get_bool rfl ?_; simp [eqVs, eqV]; done) | (refine get_bool rfl ?_; simp_all [eqVs, eqV]; done) | (exfalso; simp_all; done) | (exfalso; simp_all; omega) | (exfalso; simp_all [eqVs, eqV]; done))
            ·
              refine xk_guardT rfl rfl ?_; refine xk_field (off := 0) (by kernel_rfl) rfl (by decide) ?_
              refine xk_guardT rfl rfl ?_; refine xk_ld rfl ?_
              refine xk_guardT rfl rfl ?_; refine xk_neq rfl rfl (by decide) ?_
              (first | refine xk_pickT rfl rfl (by decide) ?_ | refine xk_pickF rfl rfl (by decide) ?_)
              refine xk_move rfl (by decide) ?_
              (first | refine xk_split (t := 226) rfl (fun hg => ?_) (fun hg => ?_) | refine xk_splitB (t := 226) rfl (fun hg => ?_) (fun hg => ?_))
              ·
                refine xk_guardF rfl rfl rfl (by decide) ?_
                refine xk_guardF rfl rfl rfl (by decide) ?_
                (first | refine xk_pickT rfl rfl (by decide) ?_ | refine xk_pickF rfl rfl (by decide) ?_)
                refine xk_move rfl (by decide) ?_
                refine xk_guardF rfl rfl rfl (by decide) ?_
                refine xk_guardF rfl rfl rfl (by decide) ?_
                refine xk_guardF rfl rfl rfl (by decide) ?_
                (first | refine xk_pickT rfl rfl (by decide) ?_ | refine xk_pickF rfl rfl (by decide) ?_)
                refine xk_move rfl (by decide) ?_
                refine xk_guardF rfl rfl rfl (by decide) ?_
                refine xk_guardF rfl rfl rfl (by decide) ?_
                (first | refine xk_pickT rfl rfl (by decide) ?_ | refine xk_pickF rfl rfl (by decide) ?_)
                refine xk_move rfl (by decide) ?_
                refine xk_guardF rfl rfl rfl (by decide) ?_
                refine xk_guardF rfl rfl rfl (by decide) ?_
                refine xk_guardF rfl rfl rfl (by decide) ?_
                (first | refine xk_pickT rfl rfl (by decide) ?_ | refine xk_pickF rfl rfl (by decide) ?_)
                refine xk_move rfl (by decide) ?_
                refine xk_guardF rfl rfl rfl (by decide) ?_
                refine xk_guardF rfl rfl rfl (by decide) ?_
                refine xk_guardF rfl rfl rfl (by decide) ?_
                refine xk_guardF rfl rfl rfl (by decide) ?_
                (first | refine xk_pickT rfl rfl (by decide) ?_ | refine xk_pickF rfl rfl (by decide) ?_)
                refine xk_move rfl (by decide) ?_
                refine xk_guardF rfl rfl rfl (by decide) ?_
                refine xk_guardF rfl rfl rfl (by decide) ?_
                refine xk_guardF rfl rfl rfl (by decide) ?_
                (first | refine xk_pickT rfl rfl (by decide) ?_ | refine xk_pickF rfl rfl (by decide) ?_)
                refine XK.nilN ?_
                exact XK.meetB (by repeat (first | exact trivial | refine ⟨rfl, ?_⟩)) (by first | (refine get_iff rfl ?_; omega) | (refine get_false rfl ?_; exact id) | (refine get_true rfl ?_; exact trivial) | (refine get_iff rfl ⟨fun hh => ?_, fun hh => ?_⟩ <;> first | omega | exact trivial | (simp_all [eqVs, eqV]; done) | (simp_all [eqVs, eqV]; omega)) | (refine get_bool rfl ?_; simp [eqVs, eqV]; done) | (refine get_bool rfl ?_; simp_all [eqVs, eqV]; done) | (exfalso; simp_all; done) | (exfalso; simp_all; omega) | (exfalso; simp_all [eqVs, eqV]; done))
              ·
                refine xk_guardT rfl rfl ?_; refine xk_move rfl (by decide) ?_
                refine xk_guardT rfl rfl ?_; refine xk_neq rfl rfl (by decide) ?_
                (first | refine xk_pickT rfl rfl (by decide) ?_ | refine xk_pickF rfl rfl (by decide) ?_)
                refine xk_move rfl (by decide) ?_
                (first | refine xk_split (t := 230) rfl (fun hg => ?_) (fun hg => ?_) | refine xk_splitB (t := 230) rfl (fun hg => ?_) (fun hg => ?_))
                ·
                  refine xk_guardF rfl rfl rfl (by decide) ?_
                  refine xk_guardF rfl rfl rfl (by decide) ?_
                  refine xk_guardF rfl rfl rfl (by decide) ?_
                  (first | refine xk_pickT rfl rfl (by decide) ?_ | refine xk_pickF rfl rfl (by decide) ?_)
                  refine xk_move rfl (by decide) ?_
                  refine xk_guardF rfl rfl rfl (by decide) ?_
                  refine xk_guardF rfl rfl rfl (by decide) ?_
                  (first | refine xk_pickT rfl rfl (by decide) ?_ | refine xk_pickF rfl rfl (by decide) ?_)
                  refine xk_move rfl (by decide) ?_
                  refine xk_guardF rfl rfl rfl (by decide) ?_
                  refine xk_guardF rfl rfl rfl (by decide) ?_
                  refine xk_guardF rfl rfl rfl (by decide) ?_
                  (first | refine xk_pickT rfl rfl (by decide) ?_ | refine xk_pickF rfl rfl (by decide) ?_)
                  refine xk_move rfl (by decide) ?_
                  refine xk_guardF rfl rfl rfl (by decide) ?_
                  refine xk_guardF rfl rfl rfl (by decide) ?_
                  refine xk_guardF rfl rfl rfl (by decide) ?_
                  refine xk_guardF rfl rfl rfl (by decide) ?_
                  (first | refine xk_pickT rfl rfl (by decide) ?_ | refine xk_pickF rfl rfl (by decide) ?_)
                  refine xk_move rfl (by decide) ?_
                  refine xk_guardF rfl rfl rfl (by decide) ?_
                  refine xk_guardF rfl rfl rfl (by decide) ?_
                  refine xk_guardF rfl rfl rfl (by decide) ?_
                  (first | refine xk_pickT rfl rfl (by decide) ?_ | refine xk_pickF rfl rfl (by decide) ?_)
                  refine XK.nilN ?_
                  exact XK.meetB (by repeat (first | exact trivial | refine ⟨rfl, ?_⟩)) (by first | (refine get_iff rfl ?_; omega) | (refine get_false rfl ?_; exact id) | (refine get_true rfl ?_; exact trivial) | (refine get_iff rfl ⟨fun hh => ?_, fun hh => ?_⟩ <;> first | omega | exact trivial | (simp_all [eqVs, eqV]; done) | (simp_all [eqVs, eqV]; omega)) | (refine get_bool rfl ?_; simp [eqVs, eqV]; done) | (refine get_bool rfl ?_; simp_all [eqVs, eqV]; done) | (exfalso; simp_all; done) | (exfalso; simp_all; omega) | (exfalso; simp_all [eqVs, eqV]; done))
                ·
                  refine xk_guardT rfl rfl ?_; refine xk_ldN 2 rfl ?_
                  refine xk_guardT rfl rfl ?_; refine xk_ldN 2 rfl ?_
                  refine xk_guardT rfl rfl ?_; refine xk_neqS (xs := [.int .u8 kn, .int .i64 n]) (ys := [.int .u8 kn, .int .i64 n]) (by kernel_rfl) rfl rfl (by decide) ?_
                  (first | refine xk_pickT rfl rfl (by decide) ?_ | refine xk_pickF rfl rfl (by decide) ?_)
                  refine xk_move rfl (by decide) ?_
                  (first | refine xk_split (t := 235) rfl (fun hg => ?_) (fun hg => ?_) | refine xk_splitB (t := 235) rfl (fun hg => ?_) (fun hg => ?_))
                  ·
                    refine xk_guardF rfl rfl rfl (by decide) ?_
                    refine xk_guardF rfl rfl rfl (by decide) ?_
                    (first | refine xk_pickT rfl rfl (by decide) ?_ | refine xk_pickF rfl rfl (by decide) ?_)
                    refine xk_move rfl (by decide) ?_
                    refine xk_guardF rfl rfl rfl (by decide) ?_
                    refine xk_guardF rfl rfl rfl (by decide) ?_
                    refine xk_guardF rfl rfl rfl (by decide) ?_
                    (first | refine xk_pickT rfl rfl (by decide) ?_ | refine xk_pickF rfl rfl (by decide) ?_)
                    refine xk_move rfl (by decide) ?_
                    refine xk_guardF rfl rfl rfl (by decide) ?_
                    refine xk_guardF rfl rfl rfl (by decide) ?_
                    refine xk_guardF rfl rfl rfl (by decide) ?_
                    refine xk_guardF rfl rfl rfl (by decide) ?_
                    (first | refine xk_pickT rfl rfl (by decide) ?_ | refine xk_pickF rfl rfl (by decide) ?_)
                    refine xk_move rfl (by decide) ?_
                    refine xk_guardF rfl rfl rfl (by decide) ?_
                    refine xk_guardF rfl rfl rfl (by decide) ?_
                    refine xk_guardF rfl rfl rfl (by decide) ?_
                    (first | refine xk_pickT rfl rfl (by decide) ?_ | refine xk_pickF rfl rfl (by decide) ?_)
                    refine XK.nilN ?_
                    exact XK.meetB (by repeat (first | exact trivial | refine ⟨rfl, ?_⟩)) (by first | (refine get_iff rfl ?_; omega) | (refine get_false rfl ?_; exact id) | (refine get_true rfl ?_; exact trivial) | (refine get_iff rfl ⟨fun hh => ?_, fun hh => ?_⟩ <;> first | omega | exact trivial | (simp_all [eqVs, eqV]; done) | (simp_all [eqVs, eqV]; omega)) | (refine get_bool rfl ?_; simp [eqVs, eqV]; done) | (refine get_bool rfl ?_; simp_all [eqVs, eqV]; done) | (exfalso; simp_all; done) | (exfalso; simp_all; omega) | (exfalso; simp_all [eqVs, eqV]; done))
                  ·
                    refine xk_guardT rfl rfl ?_; refine xk_move rfl (by decide) ?_
                    refine xk_guardT rfl rfl ?_; refine xk_neq rfl rfl (by decide) ?_
                    (first | refine xk_pickT rfl rfl (by decide) ?_ | refine xk_pickF rfl rfl (by decide) ?_)
                    refine xk_move rfl (by decide) ?_
                    (first | refine xk_split (t := 239) rfl (fun hg => ?_) (fun hg => ?_) | refine xk_splitB (t := 239) rfl (fun hg => ?_) (fun hg => ?_))
                    ·
                      refine xk_guardF rfl rfl rfl (by decide) ?_
                      refine xk_guardF rfl rfl rfl (by decide) ?_
                      refine xk_guardF rfl rfl rfl (by decide) ?_
                      (first | refine xk_pickT rfl rfl (by decide) ?_ | refine xk_pickF rfl rfl (by decide) ?_)
                      refine xk_move rfl (by decide) ?_
                      refine xk_guardF rfl rfl rfl (by decide) ?_
                      refine xk_guardF rfl rfl rfl (by decide) ?_
                      refine xk_guardF rfl rfl rfl (by decide) ?_
                      refine xk_guardF rfl rfl rfl (by decide) ?_
                      (first | refine xk_pickT rfl rfl (by decide) ?_ | refine xk_pickF rfl rfl (by decide) ?_)
                      refine xk_move rfl (by decide) ?_
                      refine xk_guardF rfl rfl rfl (by decide) ?_
                      refine xk_guardF rfl rfl rfl (by decide) ?_
                      refine xk_guardF rfl rfl rfl (by decide) ?_
                      (first | refine xk_pickT rfl rfl (by decide) ?_ | refine xk_pickF rfl rfl (by decide) ?_)
                      refine XK.nilN ?_
                      exact XK.meetB (by repeat (first | exact trivial | refine ⟨rfl, ?_⟩)) (by first | (refine get_iff rfl ?_; omega) | (refine get_false rfl ?_; exact id) | (refine get_true rfl ?_; exact trivial) | (refine get_iff rfl ⟨fun hh => ?_, fun hh => ?_⟩ <;> first | omega | exact trivial | (simp_all [eqVs, eqV]; done) | (simp_all [eqVs, eqV]; omega)) | (refine get_bool rfl ?_; simp [eqVs, eqV]; done) | (refine get_bool rfl ?_; simp_all [eqVs, eqV]; done) | (exfalso; simp_all; done) | (exfalso; simp_all; omega) | (exfalso; simp_all [eqVs, eqV]; done))
                    ·
                      refine xk_guardT rfl rfl ?_; refine xk_field (off := 0) (by kernel_rfl) rfl (by decide) ?_
                      refine xk_guardT rfl rfl ?_; refine xk_ld rfl ?_
                      refine xk_guardT rfl rfl ?_; refine xk_eql rfl rfl (by decide) ?_
                      (first | refine xk_pickT rfl rfl (by decide) ?_ | refine xk_pickF rfl rfl (by decide) ?_)
                      refine xk_move rfl (by decide) ?_
                      (first | refine xk_split (t := 244) rfl (fun hg => ?_) (fun hg => ?_) | refine xk_splitB (t := 244) rfl (fun hg => ?_) (fun hg => ?_))
                      ·
                        refine xk_guardF rfl rfl rfl (by decide) ?_
                        refine xk_guardF rfl rfl rfl (by decide) ?_
                        refine xk_guardF rfl rfl rfl (by decide) ?_
                        refine xk_guardF rfl rfl rfl (by decide) ?_
                        (first | refine xk_pickT rfl rfl (by decide) ?_ | refine xk_pickF rfl rfl (by decide) ?_)
                        refine xk_move rfl (by decide) ?_
                        refine xk_guardF rfl rfl rfl (by decide) ?_
                        refine xk_guardF rfl rfl rfl (by decide) ?_
                        refine xk_guardF rfl rfl rfl (by decide) ?_
                        (first | refine xk_pickT rfl rfl (by decide) ?_ | refine xk_pickF rfl rfl (by decide) ?_)
                        refine XK.nilN ?_
                        exact XK.meetB (by repeat (first | exact trivial | refine ⟨rfl, ?_⟩)) (by first | (refine get_iff rfl ?_; omega) | (refine get_false rfl ?_; exact id) | (refine get_true rfl ?_; exact trivial) | (refine get_iff rfl ⟨fun hh => ?_, fun hh => ?_⟩ <;> first | omega | exact trivial | (simp_all [eqVs, eqV]; done) | (simp_all [eqVs, eqV]; omega)) | (refine get_bool rfl ?_; simp [eqVs, eqV]; done) | (refine get_bool rfl ?_; simp_all [eqVs, eqV]; done) | (exfalso; simp_all; done) | (exfalso; simp_all; omega) | (exfalso; simp_all [eqVs, eqV]; done))
                      ·
                        refine xk_guardT rfl rfl ?_; refine xk_field (off := 1) (by kernel_rfl) rfl (by decide) ?_
                        refine xk_guardT rfl rfl ?_; refine xk_ld rfl ?_
                        refine xk_guardT rfl rfl ?_; refine xk_move rfl (by decide) ?_
                        refine xk_guardT rfl rfl ?_; refine xk_neq rfl rfl (by decide) ?_
                        (first | refine xk_pickT rfl rfl (by decide) ?_ | refine xk_pickF rfl rfl (by decide) ?_)
                        refine xk_move rfl (by decide) ?_
                        (first | refine xk_split (t := 250) rfl (fun hg => ?_) (fun hg => ?_) | refine xk_splitB (t := 250) rfl (fun hg => ?_) (fun hg => ?_))
                        ·
                          refine xk_guardF rfl rfl rfl (by decide) ?_
                          refine xk_guardF rfl rfl rfl (by decide) ?_
                          refine xk_guardF rfl rfl rfl (by decide) ?_
                          (first | refine xk_pickT rfl rfl (by decide) ?_ | refine xk_pickF rfl rfl (by decide) ?_)
                          refine XK.nilN ?_
                          exact XK.meetB (by repeat (first | exact trivial | refine ⟨rfl, ?_⟩)) (by first | (refine get_iff rfl ?_; omega) | (refine get_false rfl ?_; exact id) | (refine get_true rfl ?_; exact trivial) | (refine get_iff rfl ⟨fun hh => ?_, fun hh => ?_⟩ <;> first | omega | exact trivial | (simp_all [eqVs, eqV]; done) | (simp_all [eqVs, eqV]; omega)) | (refine get_bool rfl ?_; simp [eqVs, eqV]; done) | (refine get_bool rfl ?_; simp_all [eqVs, eqV]; done) | (exfalso; simp_all; done) | (exfalso; simp_all; omega) | (exfalso; simp_all [eqVs, eqV]; done))
                        ·
                          refine xk_guardT rfl rfl ?_; refine xk_field (off := 0) (by kernel_rfl) rfl (by decide) ?_
                          refine xk_guardT rfl rfl ?_; refine xk_ld rfl ?_
                          refine xk_guardT rfl rfl ?_; refine xk_neq rfl rfl (by decide) ?_
                          (first | refine xk_pickT rfl rfl (by decide) ?_ | refine xk_pickF rfl rfl (by decide) ?_)
                          refine XK.nilN ?_
                          exact XK.meetB (by repeat (first | exact trivial | refine ⟨rfl, ?_⟩)) (by first | (refine get_iff rfl ?_; omega) | (refine get_false rfl ?_; exact id) | (refine get_true rfl ?_; exact trivial) | (refine get_iff rfl ⟨fun hh => ?_, fun hh => ?_⟩ <;> first | omega | exact trivial | (simp_all [eqVs, eqV]; done) | (simp_all [eqVs, eqV]; omega)) | (refine get_bool rfl ?_; simp [eqVs, eqV]; done) | (refine get_bool rfl ?_; simp_all [eqVs, eqV]; done) | (exfalso; simp_all; done) | (exfalso; simp_all; omega) | (exfalso; simp_all [eqVs, eqV]; done))
      refine XK.cond rfl (fun h => by simp at h) (fun _ => ?_)

      ·
        refine XK.skip ?_
        refine XK.norm ?_
        refine XK.seq ?_
        refine XK.envS [(10, .pointer (some ⟨g1, 0, none⟩)), (11, .int .i64 (a : Int)), (20, .slice Ala 3 cla), (23, .pointer (some ⟨g9, 0, none⟩)), (24, .pointer (some ⟨g10, 0, none⟩)), (28, .pointer (some ⟨g12, 0, none⟩)), (29, .slice Alb 3 clb), (32, .pointer (some ⟨g14, 0, none⟩))] ?_
        refine XK.weak [1, 2, 4, 5, 6] rfl (by decide) (fun _ h => h) ?_

        refine XK.region ?_
        refine xk_ldN 6 rfl ?_
        refine xk_move rfl (by decide) ?_
        refine xk_sub (c := (b : Int)) rfl rfl (by rw [hb]; exact wrap_in (by omega)) (by decide) ?_
        refine xk_ldN 2 rfl ?_
        refine xk_call [] (f := 12) (fi := []) (ca := []) (by kernel_rfl) rfl rfl (by decide) (by simp) (fun v w w' => StR (fresh w w') (doneX x1 b kn n) (doneY y1 b kn n) v) (fun w1 st => done_any qy Y0 Y1 Y2 Y3 Y4 Y5 Yk0 Yk1 Yk2 Yk3 Yk4 Yk5 x1 y1 b kn n w1 (st.le (by simp)) (by omega) hsmY hsmyY hY.six.1 hY.six.2.1 hY.six.2.2.1 hY.six.2.2.2.1 hY.six.2.2.2.2.1 hY.six.2.2.2.2.2) ?_
        rintro _ w1 qb hB hf _ _
        have hB := StR.le hB hf
        clear hf
        have hsmB := doneX_sm hsmY b kn n
        have hsmyB := doneY_sm hsmyY b kn n
        generalize heB : doneX x1 b kn n = x2 at *
        generalize hfB : doneY y1 b kn n = y2 at *
        obtain ⟨B0, Bk0, B1, Bk1, B2, Bk2, B3, Bk3, B4, Bk4, B5, Bk5, rfl, e1, e2, e3, e4, e5, e6⟩ := hB
        have hB : StR qb x2 y2 (.agg #[.slice B0 x2.d.length Bk0, .slice B1 x2.c.length Bk1, .slice B2 x2.l.length Bk2, .slice B3 y2.d.length Bk3, .slice B4 y2.c.length Bk4, .slice B5 y2.l.length Bk5]) := ⟨B0, Bk0, B1, Bk1, B2, Bk2, B3, Bk3, B4, Bk4, B5, Bk5, rfl, e1, e2, e3, e4, e5, e6⟩
        clear e1 e2 e3 e4 e5 e6
        refine xk_alloc (cs := [.slice none 0 0, .slice none 0 0, .slice none 0 0, .slice none 0 0, .slice none 0 0, .slice none 0 0]) (zeroB_of (by kernel_rfl)) (by decide) fun g16 => ?_
        (first | (refine xk_storeN 0 rfl rfl rfl (by kernel_rfl) (by simp [Value.cells, Value.oneCell']) (by simp [Value.cells]) ?_) | (refine xk_storeN 1 rfl rfl rfl (by kernel_rfl) (by simp [Value.cells, Value.oneCell']) (by simp [Value.cells]) ?_) | (refine xk_storeN 2 rfl rfl rfl (by kernel_rfl) (by simp [Value.cells, Value.oneCell']) (by simp [Value.cells]) ?_) | (refine xk_storeN 3 rfl rfl rfl (by kernel_rfl) (by simp [Value.cells, Value.oneCell']) (by simp [Value.cells]) ?_) | (refine xk_storeN 4 rfl rfl rfl (by kernel_rfl) (by simp [Value.cells, Value.oneCell']) (by simp [Value.cells]) ?_) | (refine xk_storeN 5 rfl rfl rfl (by kernel_rfl) (by simp [Value.cells, Value.oneCell']) (by simp [Value.cells]) ?_) | (refine xk_storeN 6 rfl rfl rfl (by kernel_rfl) (by simp [Value.cells, Value.oneCell']) (by simp [Value.cells]) ?_) | (refine xk_storeN 7 rfl rfl rfl (by kernel_rfl) (by simp [Value.cells, Value.oneCell']) (by simp [Value.cells]) ?_) | (refine xk_storeN 8 rfl rfl rfl (by kernel_rfl) (by simp [Value.cells, Value.oneCell']) (by simp [Value.cells]) ?_)); simp only [putN, Value.cells, List.set, List.take, List.drop, List.nil_append, List.append_nil, List.length_cons, List.length_nil, List.cons_append, Nat.reduceAdd]
        refine XK.nilN ?_
        refine XK.seq ?_

        refine XK.region ?_
        refine xk_ldN 4 rfl ?_
        refine xk_ldN 6 rfl ?_
        refine xk_move rfl (by decide) ?_
        refine xk_move rfl (by decide) ?_
        refine xk_callR (f := 10) (fi := []) (ca := []) (by kernel_rfl) rfl rfl (by decide) (v0 := actV (decF s x2 y2 [] a [(packZ m 0 p 0).1, n, off])) (fun w1 st => decide_any q1 qb s A1 A2 A3 A4 _ k1 _ k2 _ k3 _ k4 B0 B1 B2 B3 B4 B5 _ Bk0 _ Bk1 _ Bk2 _ Bk3 _ Bk4 _ Bk5 x2 y2 none 0 0 [] a Alb 3 clb [(packZ m 0 p 0).1, n, off] w1 hSP hK (st.le (by simp)) hB (st.le (by simp)) (SlS.nil _ _) rfl (by omega) (hlb.le (st.le (by simp))) rfl (by omega) (u32_three _ _ _ _ hr0n (by omega) hoff.1 (by omega))) ?_
        rw [f5]
        simp only [actV]
        refine xk_move rfl (by decide) ?_
        refine xk_extract rfl rfl (by decide) ?_
        refine xk_extract rfl rfl (by decide) ?_
        refine xk_alloc (cs := [.int .u8 0, .int .i64 0]) (zeroB_of (by kernel_rfl)) (by decide) fun g17 => ?_
        refine xk_assign rfl (by decide) ?_
        (first | (refine xk_storeN 0 rfl rfl rfl (by kernel_rfl) (by simp [Value.cells, Value.oneCell']) (by simp [Value.cells]) ?_) | (refine xk_storeN 1 rfl rfl rfl (by kernel_rfl) (by simp [Value.cells, Value.oneCell']) (by simp [Value.cells]) ?_) | (refine xk_storeN 2 rfl rfl rfl (by kernel_rfl) (by simp [Value.cells, Value.oneCell']) (by simp [Value.cells]) ?_) | (refine xk_storeN 3 rfl rfl rfl (by kernel_rfl) (by simp [Value.cells, Value.oneCell']) (by simp [Value.cells]) ?_) | (refine xk_storeN 4 rfl rfl rfl (by kernel_rfl) (by simp [Value.cells, Value.oneCell']) (by simp [Value.cells]) ?_) | (refine xk_storeN 5 rfl rfl rfl (by kernel_rfl) (by simp [Value.cells, Value.oneCell']) (by simp [Value.cells]) ?_) | (refine xk_storeN 6 rfl rfl rfl (by kernel_rfl) (by simp [Value.cells, Value.oneCell']) (by simp [Value.cells]) ?_) | (refine xk_storeN 7 rfl rfl rfl (by kernel_rfl) (by simp [Value.cells, Value.oneCell']) (by simp [Value.cells]) ?_) | (refine xk_storeN 8 rfl rfl rfl (by kernel_rfl) (by simp [Value.cells, Value.oneCell']) (by simp [Value.cells]) ?_)); simp only [putN, Value.cells, List.set, List.take, List.drop, List.nil_append, List.append_nil, List.length_cons, List.length_nil, List.cons_append, Nat.reduceAdd]
        refine XK.nilN ?_
        refine XK.seq ?_

        refine XK.region ?_
        refine xk_ldN 6 rfl ?_
        refine xk_move rfl (by decide) ?_
        refine xk_ldN 2 rfl ?_
        refine xk_call [] (f := 12) (fi := []) (ca := []) (by kernel_rfl) rfl rfl (by decide) (by simp) (fun v w w' => StR (fresh w w') (doneX x1 a kf n) (doneY y1 a kf n) v) (fun w1 st => done_any qy Y0 Y1 Y2 Y3 Y4 Y5 Yk0 Yk1 Yk2 Yk3 Yk4 Yk5 x1 y1 a kf n w1 (st.le (by simp)) (by omega) hsmY hsmyY hY.six.1 hY.six.2.1 hY.six.2.2.1 hY.six.2.2.2.1 hY.six.2.2.2.2.1 hY.six.2.2.2.2.2) ?_
        rintro _ w1 qz hZ hf _ _
        have hZ := StR.le hZ hf
        clear hf
        have hsmZ := doneX_sm hsmY a kf n
        have hsmyZ := doneY_sm hsmyY a kf n
        generalize heZ : doneX x1 a kf n = x3 at *
        generalize hfZ : doneY y1 a kf n = y3 at *
        obtain ⟨Z0, Zk0, Z1, Zk1, Z2, Zk2, Z3, Zk3, Z4, Zk4, Z5, Zk5, rfl, e1, e2, e3, e4, e5, e6⟩ := hZ
        have hZ : StR qz x3 y3 (.agg #[.slice Z0 x3.d.length Zk0, .slice Z1 x3.c.length Zk1, .slice Z2 x3.l.length Zk2, .slice Z3 y3.d.length Zk3, .slice Z4 y3.c.length Zk4, .slice Z5 y3.l.length Zk5]) := ⟨Z0, Zk0, Z1, Zk1, Z2, Zk2, Z3, Zk3, Z4, Zk4, Z5, Zk5, rfl, e1, e2, e3, e4, e5, e6⟩
        clear e1 e2 e3 e4 e5 e6
        refine xk_alloc (cs := [.slice none 0 0, .slice none 0 0, .slice none 0 0, .slice none 0 0, .slice none 0 0, .slice none 0 0]) (zeroB_of (by kernel_rfl)) (by decide) fun g18 => ?_
        (first | (refine xk_storeN 0 rfl rfl rfl (by kernel_rfl) (by simp [Value.cells, Value.oneCell']) (by simp [Value.cells]) ?_) | (refine xk_storeN 1 rfl rfl rfl (by kernel_rfl) (by simp [Value.cells, Value.oneCell']) (by simp [Value.cells]) ?_) | (refine xk_storeN 2 rfl rfl rfl (by kernel_rfl) (by simp [Value.cells, Value.oneCell']) (by simp [Value.cells]) ?_) | (refine xk_storeN 3 rfl rfl rfl (by kernel_rfl) (by simp [Value.cells, Value.oneCell']) (by simp [Value.cells]) ?_) | (refine xk_storeN 4 rfl rfl rfl (by kernel_rfl) (by simp [Value.cells, Value.oneCell']) (by simp [Value.cells]) ?_) | (refine xk_storeN 5 rfl rfl rfl (by kernel_rfl) (by simp [Value.cells, Value.oneCell']) (by simp [Value.cells]) ?_) | (refine xk_storeN 6 rfl rfl rfl (by kernel_rfl) (by simp [Value.cells, Value.oneCell']) (by simp [Value.cells]) ?_) | (refine xk_storeN 7 rfl rfl rfl (by kernel_rfl) (by simp [Value.cells, Value.oneCell']) (by simp [Value.cells]) ?_) | (refine xk_storeN 8 rfl rfl rfl (by kernel_rfl) (by simp [Value.cells, Value.oneCell']) (by simp [Value.cells]) ?_)); simp only [putN, Value.cells, List.set, List.take, List.drop, List.nil_append, List.append_nil, List.length_cons, List.length_nil, List.cons_append, Nat.reduceAdd]
        refine XK.nilN ?_
        refine XK.seq ?_

        refine XK.region ?_
        refine xk_ldN 4 rfl ?_
        refine xk_ldN 6 rfl ?_
        refine xk_move rfl (by decide) ?_
        refine xk_move rfl (by decide) ?_
        refine xk_callR (f := 10) (fi := []) (ca := []) (by kernel_rfl) rfl rfl (by decide) (v0 := actV (decF s x3 y3 [] a [(packZ m 0 p 0).1, n, on])) (fun w1 st => decide_any q1 qz s A1 A2 A3 A4 _ k1 _ k2 _ k3 _ k4 Z0 Z1 Z2 Z3 Z4 Z5 _ Zk0 _ Zk1 _ Zk2 _ Zk3 _ Zk4 _ Zk5 x3 y3 none 0 0 [] a Ala 3 cla [(packZ m 0 p 0).1, n, on] w1 hSP hK (st.le (by simp)) hZ (st.le (by simp)) (SlS.nil _ _) rfl (by omega) (hla.le (st.le (by simp))) rfl (by omega) (u32_three _ _ _ _ hr0n (by omega) hon.1 (by omega))) ?_
        rw [f6]
        simp only [actV]
        refine xk_move rfl (by decide) ?_
        refine xk_extract rfl rfl (by decide) ?_
        refine xk_extract rfl rfl (by decide) ?_
        refine xk_alloc (cs := [.int .u8 0, .int .i64 0]) (zeroB_of (by kernel_rfl)) (by decide) fun g19 => ?_
        refine xk_assign rfl (by decide) ?_
        (first | (refine xk_storeN 0 rfl rfl rfl (by kernel_rfl) (by simp [Value.cells, Value.oneCell']) (by simp [Value.cells]) ?_) | (refine xk_storeN 1 rfl rfl rfl (by kernel_rfl) (by simp [Value.cells, Value.oneCell']) (by simp [Value.cells]) ?_) | (refine xk_storeN 2 rfl rfl rfl (by kernel_rfl) (by simp [Value.cells, Value.oneCell']) (by simp [Value.cells]) ?_) | (refine xk_storeN 3 rfl rfl rfl (by kernel_rfl) (by simp [Value.cells, Value.oneCell']) (by simp [Value.cells]) ?_) | (refine xk_storeN 4 rfl rfl rfl (by kernel_rfl) (by simp [Value.cells, Value.oneCell']) (by simp [Value.cells]) ?_) | (refine xk_storeN 5 rfl rfl rfl (by kernel_rfl) (by simp [Value.cells, Value.oneCell']) (by simp [Value.cells]) ?_) | (refine xk_storeN 6 rfl rfl rfl (by kernel_rfl) (by simp [Value.cells, Value.oneCell']) (by simp [Value.cells]) ?_) | (refine xk_storeN 7 rfl rfl rfl (by kernel_rfl) (by simp [Value.cells, Value.oneCell']) (by simp [Value.cells]) ?_) | (refine xk_storeN 8 rfl rfl rfl (by kernel_rfl) (by simp [Value.cells, Value.oneCell']) (by simp [Value.cells]) ?_)); simp only [putN, Value.cells, List.set, List.take, List.drop, List.nil_append, List.append_nil, List.length_cons, List.length_nil, List.cons_append, Nat.reduceAdd]
        refine XK.nilN ?_
        refine XK.envS [(40, .pointer (some ⟨g19, 0, none⟩)), (39, .int .i32 0), (37, .pointer (some ⟨g17, 0, none⟩)), (36, .int .i32 (-3)), (23, .pointer (some ⟨g9, 0, none⟩))] ?_
        refine XK.cutB 8 (True) ?_ ?_
        · skip

          refine XK.region ?_
          refine xk_move rfl (by decide) ?_
          refine xk_eql rfl rfl (by decide) ?_
          refine xk_move rfl (by decide) ?_
          (first | refine xk_split (t := 282) rfl (fun hg => ?_) (fun hg => ?_) | refine xk_splitB (t := 282) rfl (fun hg => ?_) (fun hg => ?_))
          ·
            refine xk_guardT rfl rfl ?_; refine xk_field (off := 0) (by kernel_rfl) rfl (by decide) ?_
            refine xk_guardT rfl rfl ?_; refine xk_ld rfl ?_
            refine xk_guardT rfl rfl ?_; refine xk_eql rfl rfl (by decide) ?_
            (first | refine xk_pickT rfl rfl (by decide) ?_ | refine xk_pickF rfl rfl (by decide) ?_)
            refine xk_move rfl (by decide) ?_
            (first | refine xk_split (t := 287) rfl (fun hg => ?_) (fun hg => ?_) | refine xk_splitB (t := 287) rfl (fun hg => ?_) (fun hg => ?_))
            ·
              refine xk_guardT rfl rfl ?_; refine xk_move rfl (by decide) ?_
              refine xk_guardT rfl rfl ?_; refine xk_eql rfl rfl (by decide) ?_
              (first | refine xk_pickT rfl rfl (by decide) ?_ | refine xk_pickF rfl rfl (by decide) ?_)
              refine xk_move rfl (by decide) ?_
              (first | refine xk_split (t := 291) rfl (fun hg => ?_) (fun hg => ?_) | refine xk_splitB (t := 291) rfl (fun hg => ?_) (fun hg => ?_))
              ·
                refine xk_guardT rfl rfl ?_; refine xk_ldN 2 rfl ?_
                refine xk_guardT rfl rfl ?_; refine xk_ldN 2 rfl ?_
                refine xk_guardT rfl rfl ?_; refine xk_eqlS (xs := [.int .u8 kn, .int .i64 n]) (ys := [.int .u8 kn, .int .i64 n]) (by kernel_rfl) rfl rfl (by decide) ?_
                (first | refine xk_pickT rfl rfl (by decide) ?_ | refine xk_pickF rfl rfl (by decide) ?_)
                refine xk_assign rfl (by decide) ?_
                refine XK.nilN ?_
                exact XK.meetB (by repeat (first | exact trivial | refine ⟨rfl, ?_⟩)) (by first | (refine get_iff rfl ?_; omega) | (refine get_false rfl ?_; exact id) | (refine get_true rfl ?_; exact trivial) | (refine get_iff rfl ⟨fun hh => ?_, fun hh => ?_⟩ <;> first | omega | exact trivial | (simp_all [eqVs, eqV]; done) | (simp_all [eqVs, eqV]; omega)) | (refine get_bool rfl ?_; simp [eqVs, eqV]; done) | (refine get_bool rfl ?_; simp_all [eqVs, eqV]; done) | (exfalso; simp_all; done) | (exfalso; simp_all; omega) | (exfalso; simp_all [eqVs, eqV]; done))
              ·
                refine xk_guardF rfl rfl rfl (by decide) ?_
                refine xk_guardF rfl rfl rfl (by decide) ?_
                refine xk_guardF rfl rfl rfl (by decide) ?_
                (first | refine xk_pickT rfl rfl (by decide) ?_ | refine xk_pickF rfl rfl (by decide) ?_)
                refine xk_assign rfl (by decide) ?_
                refine XK.nilN ?_
                exact XK.meetB (by repeat (first | exact trivial | refine ⟨rfl, ?_⟩)) (by first | (refine get_iff rfl ?_; omega) | (refine get_false rfl ?_; exact id) | (refine get_true rfl ?_; exact trivial) | (refine get_iff rfl ⟨fun hh => ?_, fun hh => ?_⟩ <;> first | omega | exact trivial | (simp_all [eqVs, eqV]; done) | (simp_all [eqVs, eqV]; omega)) | (refine get_bool rfl ?_; simp [eqVs, eqV]; done) | (refine get_bool rfl ?_; simp_all [eqVs, eqV]; done) | (exfalso; simp_all; done) | (exfalso; simp_all; omega) | (exfalso; simp_all [eqVs, eqV]; done))
            ·
              refine xk_guardF rfl rfl rfl (by decide) ?_
              refine xk_guardF rfl rfl rfl (by decide) ?_
              (first | refine xk_pickT rfl rfl (by decide) ?_ | refine xk_pickF rfl rfl (by decide) ?_)
              refine xk_move rfl (by decide) ?_
              refine xk_guardF rfl rfl rfl (by decide) ?_
              refine xk_guardF rfl rfl rfl (by decide) ?_
              refine xk_guardF rfl rfl rfl (by decide) ?_
              (first | refine xk_pickT rfl rfl (by decide) ?_ | refine xk_pickF rfl rfl (by decide) ?_)
              refine xk_assign rfl (by decide) ?_
              refine XK.nilN ?_
              exact XK.meetB (by repeat (first | exact trivial | refine ⟨rfl, ?_⟩)) (by first | (refine get_iff rfl ?_; omega) | (refine get_false rfl ?_; exact id) | (refine get_true rfl ?_; exact trivial) | (refine get_iff rfl ⟨fun hh => ?_, fun hh => ?_⟩ <;> first | omega | exact trivial | (simp_all [eqVs, eqV]; done) | (simp_all [eqVs, eqV]; omega)) | (refine get_bool rfl ?_; simp [eqVs, eqV]; done) | (refine get_bool rfl ?_; simp_all [eqVs, eqV]; done) | (exfalso; simp_all; done) | (exfalso; simp_all; omega) | (exfalso; simp_all [eqVs, eqV]; done))
          ·
            refine xk_guardF rfl rfl rfl (by decide) ?_
            refine xk_guardF rfl rfl rfl (by decide) ?_
            refine xk_guardF rfl rfl rfl (by decide) ?_
            (first | refine xk_pickT rfl rfl (by decide) ?_ | refine xk_pickF rfl rfl (by decide) ?_)
            refine xk_move rfl (by decide) ?_
            refine xk_guardF rfl rfl rfl (by decide) ?_
            refine xk_guardF rfl rfl rfl (by decide) ?_
            (first | refine xk_pickT rfl rfl (by decide) ?_ | refine xk_pickF rfl rfl (by decide) ?_)
            refine xk_move rfl (by decide) ?_
            refine xk_guardF rfl rfl rfl (by decide) ?_
            refine xk_guardF rfl rfl rfl (by decide) ?_
            refine xk_guardF rfl rfl rfl (by decide) ?_
            (first | refine xk_pickT rfl rfl (by decide) ?_ | refine xk_pickF rfl rfl (by decide) ?_)
            refine xk_assign rfl (by decide) ?_
            refine XK.nilN ?_
            exact XK.meetB (by repeat (first | exact trivial | refine ⟨rfl, ?_⟩)) (by first | (refine get_iff rfl ?_; omega) | (refine get_false rfl ?_; exact id) | (refine get_true rfl ?_; exact trivial) | (refine get_iff rfl ⟨fun hh => ?_, fun hh => ?_⟩ <;> first | omega | exact trivial | (simp_all [eqVs, eqV]; done) | (simp_all [eqVs, eqV]; omega)) | (refine get_bool rfl ?_; simp [eqVs, eqV]; done) | (refine get_bool rfl ?_; simp_all [eqVs, eqV]; done) | (exfalso; simp_all; done) | (exfalso; simp_all; omega) | (exfalso; simp_all [eqVs, eqV]; done))
        refine XK.ret ?_
        refine XK.norm ?_
        exact XK.ret1 rfl rfl fun w1 st => ⟨by simp, st.below (by simp)⟩

end Go.Proofs.Ytbcfbafpeidifaa
