/- plan.Steps. -/
import Derived.Test.YtbgibbbggajgaaaPlan4
import Derived.Test.YtbgibbbggajgaaaEx
import Derived.Test.YtbgibbbggajgaaaMade
namespace Go.Proofs.Ytbgibbbggajgaaa
set_option linter.all false
open Go.RowKit
attribute [local irreducible] KC KI KQ
def OrdV (g : List (List Int)) (v : Value) (w w' : World) : Prop := ∃ A m c, v = .tuple #[.slice A m c, .int .i64 (orderE g).1] ∧ m = (orderE g).2.length ∧ SlS (fresh w w') 1 A m (intCells (natI (orderE g).2))
theorem OrdOk.ordV {w w' : World} {g : List (List Int)} {y : Ending} (h : OrdOk w (orderE g).2 (orderE g).1 y w') : (∃ v, y = .returned v ∧ OrdV g v w w') ∧ Below w.heap.size w w' := by
  obtain ⟨⟨A, m, c, hy, hm, hs⟩, hb⟩ := h
  exact ⟨⟨_, hy, A, m, c, rfl, hm, hs⟩, hb⟩

theorem lines_set {k n : Nat} (h : k < n) : (intCells ((natI (List.range k)) ++ List.replicate (n - k) 0)).set k (.int .i64 (k : Int)) = intCells ((natI (List.range (k + 1))) ++ List.replicate (n - (k + 1)) 0) := by
  rw [intCells_set, List.set_append_right _ _ (by simp [natI])]
  rw [show k - (natI (List.range k)).length = 0 by simp [natI], show n - k = (n - (k + 1)) + 1 by omega, List.replicate_succ, List.set_cons_zero, List.range_succ, natI_snoc, List.append_assoc]; rfl
theorem allL_len (s : Soc) (dl cl ll : List Nat) (fd fc fl td tc tl : List Bool) : (allL s dl cl ll fd fc fl td tc tl).length ≤ 2 * (dl.length + cl.length + ll.length) := by
  have h := fun (a : List Nat) (x y : List Bool) => List.length_filter_le (turnB x y) a
  have h1 := h dl fd td; have h2 := h cl fc tc; have h3 := h ll fl tl; have h4 := h ll tl fl; have h5 := h cl.reverse tc fc; have h6 := h dl.reverse td fd
  rw [List.length_reverse] at h5 h6
  simp only [allL, stepL, moreL, List.length_append, List.length_map]
  omega
set_option maxHeartbeats 1000000 in
theorem steps_S (s : Soc) (A1 A2 A3 A4 Fd Fc Fl Td Tc Tl : Option Addr) (n1 k1 n2 k2 n3 k3 n4 k4 fdn fdk fcn fck fln flk tdn tdk tcn tck tln tlk : Nat) (fd fc fl td tc tl : List Bool) (w : World) (hW : SocW w s A1 n1 A2 n2 A3 n3 A4 n4) (hchk : checkS s = 0) (hD3 : (orderE (domsG s)).2.length ≤ 1000000) (hC3 : (orderE (clocksG s)).2.length ≤ 1000000) (hDb : ∀ i ∈ (orderE (domsG s)).2, i < n2) (hCb : ∀ i ∈ (orderE (clocksG s)).2, i < 1000000)
    (hfd : SlS (all w) 1 Fd fdn (boolCells fd)) (hfdn : fdn = fd.length) (htd : SlS (all w) 1 Td tdn (boolCells td)) (htdn : tdn = td.length) (hfc : SlS (all w) 1 Fc fcn (boolCells fc)) (hfcn : fcn = fc.length) (htc : SlS (all w) 1 Tc tcn (boolCells tc)) (htcn : tcn = tc.length) (hfl : SlS (all w) 1 Fl fln (boolCells fl)) (hfln : fln = fl.length) (htl : SlS (all w) 1 Tl tln (boolCells tl)) (htln : tln = tl.length) :
    Calls Try.prog 19 #[.agg #[.slice A1 n1 k1, .slice A2 n2 k2, .slice A3 n3 k3, .slice A4 n4 k4], .agg #[.slice Fd fdn fdk, .slice Fc fcn fck, .slice Fl fln flk], .agg #[.slice Td tdn tdk, .slice Tc tcn tck, .slice Tl tln tlk]] w (fun y w' => (∃ A c, y = .returned (.slice A (allL s (orderE (domsG s)).2 (orderE (clocksG s)).2 (List.range n3) fd fc fl td tc tl).length c) ∧ SlS (fresh w w') 4 A (allL s (orderE (domsG s)).2 (orderE (clocksG s)).2 (List.range n3) fd fc fl td tc tl).length ((allL s (orderE (domsG s)).2 (orderE (clocksG s)).2 (List.range n3) fd fc fl td tc tl).flatMap Stp.cells)) ∧ Below w.heap.size w w') := by
  have hn1 := hW.len1
  have hn2 := hW.len2
  have hn3 := hW.len3
  have hsm := hW.small
  unfold Soc.small at hsm
  obtain ⟨hs1, hs2, hs3, hs4, hs5, hs6⟩ := hsm
  refine XC.enter (vs := [.agg #[.slice A1 n1 k1, .slice A2 n2 k2, .slice A3 n3 k3, .slice A4 n4 k4], .agg #[.slice Fd fdn fdk, .slice Fc fcn fck, .slice Fl fln flk], .agg #[.slice Td tdn tdk, .slice Tc tcn tck, .slice Tl tln tlk]]) Try.func19 rfl Try.ntmps19 (by simp) (St.start w) ?_
  dsimp only [List.cons_append, List.nil_append]
  refine XC.seq ?_

  refine XC.regionW (by kernel_rfl) ?_
  refine xk_box rfl (by decide) fun g1 => ?_
  refine xk_box rfl (by decide) fun g2 => ?_
  refine xk_box rfl (by decide) fun g3 => ?_
  refine xk_assign rfl (by decide) ?_
  refine XC.endW ?_
  (repeat (first | refine XC.thenN ?_ | refine XC.thenE ?_ | refine XC.thenR ?_ | refine XC.inN ?_ | refine XC.inE ?_ | refine XC.inR ?_ | refine XC.inF rfl ?_))
  refine XC.seq ?_
  refine XC.seq ?_

  refine XC.regionW (by kernel_rfl) ?_
  refine xk_loadN 4 (by kernel_rfl) rfl (by first | assumption | exact RdN.whole 0 rfl | exact RdN.whole 1 rfl | exact RdN.whole 2 rfl | exact RdN.whole 3 rfl | exact RdN.whole 4 rfl | exact RdN.whole 5 rfl | exact RdN.whole 6 rfl | exact RdN.whole 7 rfl | exact RdN.whole 8 rfl | exact RdN.roc (by simp) (by assumption)) rfl (by decide) ?_
  refine xk_callR (f := 43) (fi := []) (ca := []) (by kernel_rfl) rfl rfl (by decide) (fun w1 st => checkS_any s A1 A2 A3 A4 n1 k1 n2 k2 n3 k3 n4 k4 w1 (hW.le (st.started (by simp)))) ?_
  refine xk_neq rfl rfl (by decide) ?_
  refine XC.endW ?_
  (repeat (first | refine XC.thenN ?_ | refine XC.thenE ?_ | refine XC.thenR ?_ | refine XC.inN ?_ | refine XC.inE ?_ | refine XC.inR ?_ | refine XC.inF rfl ?_))
  refine XC.if_ rfl (fun h => ?_) (fun h => ?_)
  ·
    refine XC.seq ?_

    refine XC.regionW (by kernel_rfl) ?_
    refine xk_assign rfl (by decide) ?_
    refine XC.endW ?_
    (repeat (first | refine XC.thenN ?_ | refine XC.thenE ?_ | refine XC.thenR ?_ | refine XC.inN ?_ | refine XC.inE ?_ | refine XC.inR ?_ | refine XC.inF rfl ?_))
    refine XC.ret ?_
    (repeat (first | refine XC.thenN ?_ | refine XC.thenE ?_ | refine XC.thenR ?_ | refine XC.inN ?_ | refine XC.inE ?_ | refine XC.inR ?_ | refine XC.inF rfl ?_))
    exact absurd hchk h
  ·
    refine XC.skip ?_
    (repeat (first | refine XC.thenN ?_ | refine XC.thenE ?_ | refine XC.thenR ?_ | refine XC.inN ?_ | refine XC.inE ?_ | refine XC.inR ?_ | refine XC.inF rfl ?_))
    refine XC.seq ?_

    refine XC.regionW (by kernel_rfl) ?_
    refine xk_loadN 4 (by kernel_rfl) rfl (by first | assumption | exact RdN.whole 0 rfl | exact RdN.whole 1 rfl | exact RdN.whole 2 rfl | exact RdN.whole 3 rfl | exact RdN.whole 4 rfl | exact RdN.whole 5 rfl | exact RdN.whole 6 rfl | exact RdN.whole 7 rfl | exact RdN.whole 8 rfl | exact RdN.roc (by simp) (by assumption)) rfl (by decide) ?_
    refine xk_call [(all w)] (f := 45) (fi := []) (ca := []) (by kernel_rfl) rfl rfl (by decide) (by simp) (GrOk (domsG s)) (fun w1 st => doms_any s A1 A2 A3 A4 n1 k1 n2 k2 n3 k3 n4 k4 w1 (hW.le (st.started (by simp)))) ?_
    rintro _ w1 qda ⟨Ag, cg, rfl, hgr⟩ hf Lq _
    have hgr := hgr.le hf
    have Lqda := Lq (all w) (by simp)
    clear hf Lq
    refine xk_call [qda] (f := 44) (fi := []) (ca := []) (by kernel_rfl) rfl rfl (by decide) (by simp) (OrdV (domsG s)) (fun w1 st => (order_any Ag _ cg (domsG s) w1 (hgr.le (st.le (by simp))) rfl (by simp [domsG]; omega) (fun l hl => by
        simp only [domsG, List.mem_map] at hl
        obtain ⟨x, _, rfl⟩ := hl
        split <;> simp)).mono fun y w2 h => h.ordV) ?_
    rintro _ w1 qd ⟨AD, mD, cD, rfl, hmD, hsD⟩ hf Lq _
    have hsD := hsD.le hf
    have Lqd := Lq qda (by simp)
    clear hf Lq hgr
    refine xk_move rfl (by decide) ?_
    refine xk_extract rfl rfl (by decide) ?_
    refine xk_extract rfl rfl (by decide) ?_
    refine xk_assign rfl (by decide) ?_
    refine xk_assign rfl (by decide) ?_
    refine XC.endW ?_
    (repeat (first | refine XC.thenN ?_ | refine XC.thenE ?_ | refine XC.thenR ?_ | refine XC.inN ?_ | refine XC.inE ?_ | refine XC.inR ?_ | refine XC.inF rfl ?_))
    refine XC.seq ?_

    refine XC.regionW (by kernel_rfl) ?_
    refine xk_loadN 4 (by kernel_rfl) rfl (by first | assumption | exact RdN.whole 0 rfl | exact RdN.whole 1 rfl | exact RdN.whole 2 rfl | exact RdN.whole 3 rfl | exact RdN.whole 4 rfl | exact RdN.whole 5 rfl | exact RdN.whole 6 rfl | exact RdN.whole 7 rfl | exact RdN.whole 8 rfl | exact RdN.roc (by simp) (by assumption)) rfl (by decide) ?_
    refine xk_call [qd] (f := 46) (fi := []) (ca := []) (by kernel_rfl) rfl rfl (by decide) (by simp) (GrOk (clocksG s)) (fun w1 st => clocks_any s A1 A2 A3 A4 n1 k1 n2 k2 n3 k3 n4 k4 w1 (hW.le (st.started (by simp)))) ?_
    rintro _ w1 qca ⟨Ag, cg, rfl, hgr⟩ hf Lq _
    have hgr := hgr.le hf
    have Lqca := Lq qd (by simp)
    clear hf Lq
    refine xk_call [qca] (f := 44) (fi := []) (ca := []) (by kernel_rfl) rfl rfl (by decide) (by simp) (OrdV (clocksG s)) (fun w1 st => (order_any Ag _ cg (clocksG s) w1 (hgr.le (st.le (by simp))) rfl (by simp [clocksG]; omega) (fun l hl => by
        simp only [clocksG, List.mem_map] at hl
        obtain ⟨x, hx, rfl⟩ := hl
        have := hs5 x hx; omega)).mono fun y w2 h => h.ordV) ?_
    rintro _ w1 qc ⟨AC, mC, cC, rfl, hmC, hsC⟩ hf Lq _
    have hsC := hsC.le hf
    have Lqc := Lq qca (by simp)
    clear hf Lq hgr
    refine xk_move rfl (by decide) ?_
    refine xk_extract rfl rfl (by decide) ?_
    refine xk_extract rfl rfl (by decide) ?_
    refine xk_assign rfl (by decide) ?_
    refine xk_assign rfl (by decide) ?_
    refine XC.endW ?_
    (repeat (first | refine XC.thenN ?_ | refine XC.thenE ?_ | refine XC.thenR ?_ | refine XC.inN ?_ | refine XC.inE ?_ | refine XC.inR ?_ | refine XC.inF rfl ?_))
    refine XC.seq ?_

    refine XC.regionW (by kernel_rfl) ?_
    refine xk_field (off := 2) (by kernel_rfl) rfl (by decide) ?_
    refine xk_load (by kernel_rfl) rfl (by first | assumption | exact Rd.blk 0 rfl rfl | exact Rd.blk 1 rfl rfl | exact Rd.blk 2 rfl rfl | exact Rd.blk 3 rfl rfl | exact Rd.blk 4 rfl rfl | exact Rd.blk 5 rfl rfl | exact Rd.blk 6 rfl rfl | exact Rd.blk 7 rfl rfl | exact Rd.blk 8 rfl rfl | exact Rd.roc (by simp) (by assumption) | (apply Rd.rocN (by simp); assumption; rfl)) (by decide) ?_
    refine xk_len (el := 102) (by kernel_rfl) rfl (by decide) ?_
    refine xk_makeT 8 (el := 3) (z := .int .i64 0) (by kernel_rfl) (by kernel_rfl) rfl rfl rfl (by omega) (by omega) (by decide) fun g4 => ?_
    refine xk_assign rfl (by decide) ?_
    refine XC.endW ?_
    (repeat (first | refine XC.thenN ?_ | refine XC.thenE ?_ | refine XC.thenR ?_ | refine XC.inN ?_ | refine XC.inE ?_ | refine XC.inR ?_ | refine XC.inF rfl ?_))
    refine XC.seq ?_
    refine XC.seq ?_

    refine XC.regionW (by kernel_rfl) ?_
    refine xk_move rfl (by decide) ?_
    refine xk_len (el := 3) (by kernel_rfl) rfl (by decide) ?_
    refine xk_move rfl (by decide) ?_
    refine XC.endW ?_
    (repeat (first | refine XC.thenN ?_ | refine XC.thenE ?_ | refine XC.thenR ?_ | refine XC.inN ?_ | refine XC.inE ?_ | refine XC.inR ?_ | refine XC.inF rfl ?_))
    refine XK.env [(36, .int .i64 0), (35, .int .i64 n3), (11, .slice (some ⟨g4, 0, none⟩) n3 n3), (9, .slice AC mC cC), (7, .slice AD mD cD), (5, .pointer (some ⟨g3, 0, none⟩)), (4, .pointer (some ⟨g2, 0, none⟩)), (3, .pointer (some ⟨g1, 0, none⟩))] ⟨rfl, rfl, rfl, rfl, rfl, rfl, rfl, rfl, trivial⟩ ?_
    refine XK.weak (R' := [qc, all w]) [0, 1, 2, 3, 4] rfl (by decide) (by simp) ?_
    refine XC.block ?_
    refine XC.loop (fun m L e R H => ∃ k : Nat, k ≤ n3 ∧ m = n3 - k ∧ L = [] ∧ e = [(36, .int .i64 k), (35, .int .i64 n3), (11, .slice (some ⟨g4, 0, none⟩) n3 n3), (9, .slice AC mC cC), (7, .slice AD mD cD), (5, .pointer (some ⟨g3, 0, none⟩)), (4, .pointer (some ⟨g2, 0, none⟩)), (3, .pointer (some ⟨g1, 0, none⟩))] ∧ R = [qc, all w] ∧ H = [HP.blk g4 3 (intCells ((natI (List.range k)) ++ List.replicate (n3 - k) 0)), HP.blk g3 56 [.slice Td tdn tdk, .slice Tc tcn tck, .slice Tl tln tlk], HP.blk g2 56 [.slice Fd fdn fdk, .slice Fc fcn fck, .slice Fl fln flk], HP.blk g1 50 [.slice A1 n1 k1, .slice A2 n2 k2, .slice A3 n3 k3, .slice A4 n4 k4], HP.marks []]) n3 ⟨0, by omega, rfl, rfl, rfl, rfl, by simp [intCells, natI, Value.cells]⟩ fun m L e R H hI => ?_
    obtain ⟨k, hk, rfl, rfl, rfl, rfl, rfl⟩ := hI
    refine XC.seq ?_

    refine XC.regionW (by kernel_rfl) ?_
    refine xk_lss rfl rfl (by decide) ?_
    refine XC.endW ?_
    (repeat (first | refine XC.thenN ?_ | refine XC.thenE ?_ | refine XC.thenR ?_ | refine XC.inN ?_ | refine XC.inE ?_ | refine XC.inR ?_ | refine XC.inF rfl ?_))
    refine XC.seq ?_
    refine XC.if_ rfl (fun h => ?_) (fun h => ?_)
    ·
      refine XC.skip ?_
      (repeat (first | refine XC.thenN ?_ | refine XC.thenE ?_ | refine XC.thenR ?_ | refine XC.inN ?_ | refine XC.inE ?_ | refine XC.inR ?_ | refine XC.inF rfl ?_))
      refine XC.seq ?_
      refine XC.block ?_
      refine XC.seq ?_

      refine XC.regionW (by kernel_rfl) ?_
      refine xk_move rfl (by decide) ?_
      refine xk_assign rfl (by decide) ?_
      refine XC.endW ?_
      (repeat (first | refine XC.thenN ?_ | refine XC.thenE ?_ | refine XC.thenR ?_ | refine XC.inN ?_ | refine XC.inE ?_ | refine XC.inR ?_ | refine XC.inF rfl ?_))

      refine XC.regionW (by kernel_rfl) ?_
      refine xk_move rfl (by decide) ?_
      refine xk_move rfl (by decide) ?_
      refine xk_move rfl (by decide) ?_
      refine xk_at (k) (k) (el := 3) (sz := 1) (by kernel_rfl) (by kernel_rfl) rfl rfl (by omega) (by omega) (by omega) (by decide) ?_
      refine xk_store 0 rfl (by kernel_rfl) rfl rfl rfl (by simp [intCells, natI]; omega) ?_
      dsimp only [List.set]
      rw [lines_set (by omega)]
      refine XC.endW ?_
      (repeat (first | refine XC.thenN ?_ | refine XC.thenE ?_ | refine XC.thenR ?_ | refine XC.inN ?_ | refine XC.inE ?_ | refine XC.inR ?_ | refine XC.inF rfl ?_))

      refine XC.regionW (by kernel_rfl) ?_
      refine xk_add rfl rfl (wrap_in (by omega)) (by decide) ?_
      refine xk_move rfl (by decide) ?_
      refine XC.endW ?_
      (repeat (first | refine XC.thenN ?_ | refine XC.thenE ?_ | refine XC.thenR ?_ | refine XC.inN ?_ | refine XC.inE ?_ | refine XC.inR ?_ | refine XC.inF rfl ?_))
      exact XK.env [(36, .int .i64 (k + 1)), (35, .int .i64 n3), (11, .slice (some ⟨g4, 0, none⟩) n3 n3), (9, .slice AC mC cC), (7, .slice AD mD cD), (5, .pointer (some ⟨g3, 0, none⟩)), (4, .pointer (some ⟨g2, 0, none⟩)), (3, .pointer (some ⟨g1, 0, none⟩))] ⟨rfl, rfl, rfl, rfl, rfl, rfl, rfl, rfl, trivial⟩ (XC.round (n3 - (k + 1)) (by omega) ⟨k + 1, by omega, rfl, rfl, rfl, rfl, rfl⟩)
    ·
      refine XC.exit ?_
      (repeat (first | refine XC.thenN ?_ | refine XC.thenE ?_ | refine XC.thenR ?_ | refine XC.inN ?_ | refine XC.inE ?_ | refine XC.inR ?_ | refine XC.inF rfl ?_))
      refine XC.seq ?_

      refine XC.regionW (by kernel_rfl) ?_
      refine xk_alloc (cs := [.slice none 0 0]) (zeroB_of (by kernel_rfl)) (by decide) fun g5 => ?_
      refine XC.endW ?_
      (repeat (first | refine XC.thenN ?_ | refine XC.thenE ?_ | refine XC.thenR ?_ | refine XC.inN ?_ | refine XC.inE ?_ | refine XC.inR ?_ | refine XC.inF rfl ?_))
      refine XC.seq ?_
      refine XC.seq ?_
      refine XK.still [qc] [1] [0, 2, 3, 4, 5] (by simp) rfl (by decide) (by decide) fun q5 hq5 L5 _ => ?_
      have L5 := L5 qc (by simp)
      have hk3 : k = n3 := by omega
      have hlines := SlS.of_blk (n := n3) (sz := 1) (c := n3) (hq5 1 _ (by simp) rfl).choose_spec.1 (hq5 1 _ (by simp) rfl).choose_spec.2 (by simp [intCells, natI]; omega)
      rw [hk3, Nat.sub_self, List.replicate_zero, List.append_nil] at hlines
      have L0 : (all w).Le q5 := (((Lqda.trans' Lqd).trans' Lqca).trans' Lqc).trans' L5
      refine XK.weak (R' := [q5, all w]) [0, 1, 2, 3, 4] rfl (by decide) (by simp) ?_

      refine XC.regionW (by kernel_rfl) ?_
      refine xk_loadN 4 (by kernel_rfl) rfl (by first | assumption | exact RdN.whole 0 rfl | exact RdN.whole 1 rfl | exact RdN.whole 2 rfl | exact RdN.whole 3 rfl | exact RdN.whole 4 rfl | exact RdN.whole 5 rfl | exact RdN.whole 6 rfl | exact RdN.whole 7 rfl | exact RdN.whole 8 rfl | exact RdN.roc (by simp) (by assumption)) rfl (by decide) ?_
      refine xk_move rfl (by decide) ?_
      refine xk_move rfl (by decide) ?_
      refine xk_move rfl (by decide) ?_
      refine xk_loadN 3 (by kernel_rfl) rfl (by first | assumption | exact RdN.whole 0 rfl | exact RdN.whole 1 rfl | exact RdN.whole 2 rfl | exact RdN.whole 3 rfl | exact RdN.whole 4 rfl | exact RdN.whole 5 rfl | exact RdN.whole 6 rfl | exact RdN.whole 7 rfl | exact RdN.whole 8 rfl | exact RdN.roc (by simp) (by assumption)) rfl (by decide) ?_
      refine xk_loadN 3 (by kernel_rfl) rfl (by first | assumption | exact RdN.whole 0 rfl | exact RdN.whole 1 rfl | exact RdN.whole 2 rfl | exact RdN.whole 3 rfl | exact RdN.whole 4 rfl | exact RdN.whole 5 rfl | exact RdN.whole 6 rfl | exact RdN.whole 7 rfl | exact RdN.whole 8 rfl | exact RdN.roc (by simp) (by assumption)) rfl (by decide) ?_
      refine xk_call [q5] (f := 47) (fi := []) (ca := []) (by kernel_rfl) rfl rfl (by decide) (by simp) (AllOk q5 (allL s (orderE (domsG s)).2 (orderE (clocksG s)).2 (List.range n3) fd fc fl td tc tl)) (fun w1 st => all_any q5 s A1 A2 A3 A4 AD AC (some ⟨g4, 0, none⟩) Fd Fc Fl Td Tc Tl n1 k1 n2 k2 n3 k3 n4 k4 mD cD mC cC n3 n3 fdn fdk fcn fck fln flk tdn tdk tcn tck tln tlk (orderE (domsG s)).2 (orderE (clocksG s)).2 (List.range n3) fd fc fl td tc tl w1 (st.le (by simp)) (hW.dom.mono (slq_le L0) (fun _ _ h => h)) (by omega) (hsD.le ((Lqca.trans' Lqc).trans' L5)) hmD (by omega) hDb (hsC.le L5) hmC (by omega) hCb hlines (by simp) (by omega) (fun i hi => by have := List.mem_range.1 hi; omega) (hfd.le L0) hfdn (htd.le L0) htdn (hfc.le L0) hfcn (htc.le L0) htcn (hfl.le L0) hfln (htl.le L0) htln) ?_
      rintro _ w1 q6 ⟨g6, rfl, hall⟩ hf L6 _
      have hit := hall q6 (L6 q5 (by simp)) hf
      refine XC.endW ?_
      (repeat (first | refine XC.thenN ?_ | refine XC.thenE ?_ | refine XC.thenR ?_ | refine XC.inN ?_ | refine XC.inE ?_ | refine XC.inR ?_ | refine XC.inF rfl ?_))
      refine XC.block ?_
      refine XK.nilrow 59 4 ?_
      refine XK.pair ?_
      generalize hSL : allL s (orderE (domsG s)).2 (orderE (clocksG s)).2 (List.range n3) fd fc fl td tc tl = SL at hit
      refine XK.toEx 0 (f := fun v => HP.many [HP.own 59 4 v 0 ((SL.take 0).flatMap Stp.cells), HP.blk g5 52 [v]]) (.slice none 0 0) rfl ?_
      dsimp only [List.set]
      refine XK.weak (R' := [q6, all w]) [0, 4] rfl (by decide) (by simp) ?_
      refine XK.env [(50, .func (.func 99) #[] #[.pointer (some ⟨g6, 0, none⟩)]), (13, .pointer (some ⟨g5, 0, none⟩))] ⟨rfl, rfl, trivial⟩ ?_
      refine XC.range (gf := 99) (lb := [.pointer (some ⟨g6, 0, none⟩)]) (encs := stEnc SL) (p := q6) rfl (by kernel_rfl) hit (by simp) (fun vs hvs => ?_) (by decide) (fun k => [(HP.ex fun v => HP.many [HP.own 59 4 v k ((SL.take k).flatMap Stp.cells), HP.blk g5 52 [v]])]) (fun _ => [HP.ex fun (_ : Empty) => HP.emp])
        (fun k vs e1 H1 => ∃ (g7 : Nat) (s : Stp), vs = [stV s] ∧ e1 = [(14, .pointer (some ⟨g7, 0, none⟩)), (13, .pointer (some ⟨g5, 0, none⟩))] ∧ H1 = [HP.blk g7 59 s.cells, (HP.ex fun v => HP.many [HP.own 59 4 v k ((SL.take k).flatMap Stp.cells), HP.blk g5 52 [v]])]) rfl ?_ ?_ ?_ ?_
      · simp only [stEnc, List.mem_map] at hvs
        obtain ⟨s, _, rfl⟩ := hvs
        rfl
      · intro l2 k vs W1 q X hvs hsm
        obtain ⟨s, rfl⟩ : ∃ s, vs = [stV s] := by
          simp only [stEnc, List.getElem?_map, Option.map_eq_some_iff] at hvs
          obtain ⟨s, _, e⟩ := hvs
          exact ⟨s, e.symm⟩
        dsimp only [List.cons_append, List.nil_append]
        refine XC.regionW (by kernel_rfl) ?_
        refine xk_alloc (cs := [.int .i64 0, .int .i64 0, .int .u32 0, .int .u32 0]) (zeroB_of (by kernel_rfl)) (by decide) fun g7 => ?_
        refine xk_storeN 0 rfl rfl rfl (by kernel_rfl) (by simp [stV, Stp.cells, Value.cells, Value.oneCell']) (by simp [stV, Stp.cells, Value.cells]) ?_
        rw [show putN [Value.int .i64 0, .int .i64 0, .int .u32 0, .int .u32 0] 0 (stV s).cells.toList = s.cells by simp [putN, stV, Stp.cells, Value.cells]]
        dsimp only [List.set]
        refine XC.endW ?_
        refine XK.env [(14, .pointer (some ⟨g7, 0, none⟩)), (13, .pointer (some ⟨g5, 0, none⟩))] ⟨rfl, rfl, trivial⟩ ?_
        exact XC.assigned (H1 := [HP.blk g7 59 s.cells, (HP.ex fun v => HP.many [HP.own 59 4 v k ((SL.take k).flatMap Stp.cells), HP.blk g5 52 [v]])]) ⟨g7, s, rfl, rfl, rfl⟩
      · rintro l2 k vs W1 q X _ _ hvs hsm ⟨g7, s, rfl, rfl, rfl⟩
        have hsk : SL[k]? = some s := by
          simp only [stEnc, List.getElem?_map, Option.map_eq_some_iff] at hvs
          obtain ⟨s', h, e⟩ := hvs
          have : s' = s := by
            cases s; cases s'
            simp [stV, Stp.cells] at e
            simp [e]
          exact this ▸ h
        have hkl := (List.getElem?_eq_some_iff.1 hsk).1
        have hSLl : SL.length ≤ 6000000 := by rw [← hSL]; refine Nat.le_trans (allL_len _ _ _ _ _ _ _ _ _ _) ?_; simp only [List.length_range]; omega
        have htk : ((SL.take (k + 1)).flatMap Stp.cells) = ((SL.take k).flatMap Stp.cells) ++ s.cells := by
          rw [List.take_add_one, hsk]; simp
        dsimp only [List.cons_append, List.nil_append]
        refine XC.block ?_
        refine XK.openEx 1 rfl fun v => ?_
        dsimp only [List.set]
        refine XK.take 1 0 rfl rfl ?_
        dsimp only [List.set]
        refine XK.take 2 1 rfl rfl ?_
        dsimp only [List.set]
        refine XC.regionW (by kernel_rfl) ?_
        refine xk_load (by kernel_rfl) rfl (Rd.blk 0 rfl rfl) (by decide) ?_
        refine xk_loadN 4 (by kernel_rfl) rfl (RdN.whole 2 rfl) rfl (by decide) ?_
        refine xk_slice (cs := s.cells) (el := 59) (sz := 4) (zs := [.int .i64 0, .int .i64 0, .int .u32 0, .int .u32 0]) (by kernel_rfl) (zeroB_of (by kernel_rfl)) (by kernel_rfl) rfl (by decide) (by decide) rfl (by simp [fillL, setN, Value.cells, List.range_succ, List.set, Stp.cells]) (by decide) fun g8 => ?_
        refine xk_appendT 2 4 24 1 (n' := k + 1) (el := 59) (by kernel_rfl) (by kernel_rfl) (by decide) rfl rfl rfl (sl_blk 0 rfl rfl) (by simp [Stp.cells, Value.oneCell']) rfl (by omega) (by omega) (by decide) fun A' k' => ?_
        dsimp only [List.set]
        refine xk_store 1 rfl (by kernel_rfl) rfl rfl rfl (by simp) ?_
        dsimp only [List.set]
        refine XC.endW ?_
        refine XK.weak [2, 1, 4, 5] rfl (by decide) (fun _ hp => hp) ?_
        refine XK.give 1 0 rfl rfl ?_
        dsimp only [List.set]
        refine XK.give 0 1 rfl rfl ?_
        dsimp only [List.set]
        refine XK.toEx 0 (f := fun v => HP.many [HP.own 59 4 v (k + 1) ((SL.take (k + 1)).flatMap Stp.cells), HP.blk g5 52 [v]]) (.slice A' (k + 1) k') (by rw [htk]; rfl) ?_
        dsimp only [List.set]
        (repeat (first | refine XC.thenN ?_ | refine XC.thenE ?_ | refine XC.thenR ?_ | refine XC.inN ?_ | refine XC.inE ?_ | refine XC.inR ?_ | refine XC.inF rfl ?_))
        exact XC.bodyN
      rotate_left
      · intro D k hk
        exact XK.openEx 0 rfl fun a => a.elim
      intro D
      dsimp only [List.cons_append, List.nil_append]
      refine XK.openEx 0 rfl fun v => ?_
      dsimp only [List.set]
      refine XK.take 0 0 rfl rfl ?_
      dsimp only [List.set]
      refine XK.take 1 1 rfl rfl ?_
      dsimp only [List.set]
      (repeat (first | refine XC.thenN ?_ | refine XC.thenE ?_ | refine XC.thenR ?_ | refine XC.inN ?_ | refine XC.inE ?_ | refine XC.inR ?_ | refine XC.inF rfl ?_))
      refine XC.seq ?_

      refine XC.regionW (by kernel_rfl) ?_
      refine xk_load (by kernel_rfl) rfl (Rd.blk 0 rfl rfl) (by decide) ?_
      refine xk_assign rfl (by decide) ?_
      refine XC.endW ?_
      (repeat (first | refine XC.thenN ?_ | refine XC.thenE ?_ | refine XC.thenR ?_ | refine XC.inN ?_ | refine XC.inE ?_ | refine XC.inR ?_ | refine XC.inF rfl ?_))
      refine XC.ret ?_
      (repeat (first | refine XC.thenN ?_ | refine XC.thenE ?_ | refine XC.thenR ?_ | refine XC.inN ?_ | refine XC.inE ?_ | refine XC.inR ?_ | refine XC.inF rfl ?_))
      refine XK.still [] [1] [3] (by simp) rfl (by decide) (by decide) fun qf hqf _ hfr => ?_
      obtain ⟨Ff, sf, zf⟩ := hqf 1 _ (by simp) rfl
      obtain ⟨Av, cv, rfl, hsv⟩ := SlS.of_own (Y := qf.Z) sf zf
      refine XC.ret1 (Hs := []) rfl rfl fun w1 st => ⟨⟨Av, cv, by simp [stEnc], ?_⟩, st.below (by simp)⟩
      have hlen : (stEnc SL).length = SL.length := by simp [stEnc]
      rw [hlen, List.take_length] at hsv
      exact SlS.le hsv (st.fresh_le (by simp) (hfr (by simp) (by simp)))
end Go.Proofs.Ytbgibbbggajgaaa