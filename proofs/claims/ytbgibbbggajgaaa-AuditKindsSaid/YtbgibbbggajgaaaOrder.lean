/- graph.Order: all nodes, again and again the least that can be had. -/
import Derived.Test.YtbgibbbggajgaaaHang
import Derived.Test.YtbgibbbggajgaaaGraphO
import Derived.Test.YtbgibbbggajgaaaMore
namespace Go.Proofs.Ytbgibbbggajgaaa
set_option linter.all false
open Go.RowKit
theorem natI_len (M : List Nat) : (natI M).length = M.length := by simp [natI]
theorem waits_set (W us : List Int) (j : Nat) (u x : Int) (hj : us[j]? = some u) (hx : (decBy W (us.take j))[u.toNat]? = some x) : (intCells (decBy W (us.take j))).set u.toNat (.int .i64 (x - 1)) = intCells (decBy W (us.take (j + 1))) := by
  rw [intCells_set, decBy_next hj, hx]; rfl
theorem orderE_bad {g : List (List Int)} (h : numbersG g ≠ 0) : orderE g = (numbersG g, []) := by unfold orderE; rw [if_pos h]
theorem orderE_none {g : List (List Int)} (h0 : numbersG g = 0) (h : orderG g g.length [] = none) : orderE g = (5, []) := by unfold orderE; rw [if_neg (by simp [h0]), h]
theorem orderE_some {g : List (List Int)} {M : List Nat} (h0 : numbersG g = 0) (h : orderG g g.length [] = some M) : orderE g = (0, M) := by unfold orderE; rw [if_neg (by simp [h0]), h]
theorem numbersG_zero {g : List (List Int)} (h : numbersG g = 0) : g.length ≤ 100 ∧ InG g := by
  unfold numbersG at h
  split at h
  · cases h
  · split at h
    · cases h
    · rename_i h1 h2; exact ⟨by omega, InG.of (by simpa using h2)⟩
/-- a row with an error number -/
def OrdOk (w : World) (M : List Nat) (err : Int) (y : Ending) (w' : World) : Prop := (∃ A m c, y = .returned (.tuple #[.slice A m c, .int .i64 err]) ∧ m = M.length ∧ SlS (fresh w w') 1 A m (intCells (natI M))) ∧ Below w.heap.size w w'
theorem OrdOk.nil {w w' : World} {err : Int} (h : Below w.heap.size w w') : OrdOk w [] err (.returned (.tuple #[.slice none 0 0, .int .i64 err])) w' := ⟨⟨none, 0, 0, rfl, rfl, SlS.nil _ 1⟩, h⟩

theorem order_any (A : Option Addr) (n c : Nat) (g : List (List Int)) (w : World) (hg : GrS (all w) A n g) (hn : n = g.length) (hn2 : (n : Int) ≤ 9223372036854775806) (hlen : ∀ l ∈ g, (l.length : Int) ≤ 9223372036854775806) :
    Calls Try.prog 44 #[.slice A n c] w (OrdOk w (orderE g).2 (orderE g).1) := by
  refine XK.enter (vs := [.slice A n c]) Try.func44 rfl Try.ntmps44 (by simp) ?_
  refine XK.seq ?_

  refine XK.region ?_
  refine xk_assign rfl (by decide) ?_
  refine xk_assign rfl (by decide) ?_
  refine XK.nil ?_
  (repeat (first | refine XK.thenN ?_ | refine XK.thenE ?_ | refine XK.thenR ?_ | refine XK.inN ?_ | refine XK.inE ?_ | refine XK.inR ?_ | refine XK.inF rfl ?_))
  refine XK.seq ?_
  refine XK.seq ?_

  refine XK.region ?_
  refine xk_move rfl (by decide) ?_
  refine xk_callR (f := 88) (fi := []) (ca := []) (by kernel_rfl) rfl rfl (by decide) (fun w1 st => numbersG_any A n c g w1 (hg.le (all_le (st.started (by simp)))) hn hn2 hlen) ?_
  refine xk_assign rfl (by decide) ?_
  refine XK.nil ?_
  (repeat (first | refine XK.thenN ?_ | refine XK.thenE ?_ | refine XK.thenR ?_ | refine XK.inN ?_ | refine XK.inE ?_ | refine XK.inR ?_ | refine XK.inF rfl ?_))
  refine XK.seq ?_

  refine XK.region ?_
  refine xk_move rfl (by decide) ?_
  refine xk_neq rfl rfl (by decide) ?_
  refine XK.nil ?_
  (repeat (first | refine XK.thenN ?_ | refine XK.thenE ?_ | refine XK.thenR ?_ | refine XK.inN ?_ | refine XK.inE ?_ | refine XK.inR ?_ | refine XK.inF rfl ?_))
  refine XK.if_ rfl (fun h => ?_) (fun h => ?_)
  ·
    refine XK.seq ?_

    refine XK.region ?_
    refine xk_move rfl (by decide) ?_
    refine xk_assign rfl (by decide) ?_
    refine xk_assign rfl (by decide) ?_
    refine XK.nil ?_
    (repeat (first | refine XK.thenN ?_ | refine XK.thenE ?_ | refine XK.thenR ?_ | refine XK.inN ?_ | refine XK.inE ?_ | refine XK.inR ?_ | refine XK.inF rfl ?_))
    refine XK.ret ?_
    (repeat (first | refine XK.thenN ?_ | refine XK.thenE ?_ | refine XK.thenR ?_ | refine XK.inN ?_ | refine XK.inE ?_ | refine XK.inR ?_ | refine XK.inF rfl ?_))
    exact XK.ret2 rfl rfl rfl fun w1 st => by
      rw [orderE_bad h]
      exact OrdOk.nil (st.below (by simp))
  ·
    have h0 : numbersG g = 0 := Classical.byContradiction h
    obtain ⟨hn100, hin⟩ := numbersG_zero h0
    refine XK.skip ?_
    (repeat (first | refine XK.thenN ?_ | refine XK.thenE ?_ | refine XK.thenR ?_ | refine XK.inN ?_ | refine XK.inE ?_ | refine XK.inR ?_ | refine XK.inF rfl ?_))
    refine XK.seq ?_

    refine XK.region ?_
    refine xk_move rfl (by decide) ?_
    refine xk_callN (f := 89) (fi := []) (ca := []) (by kernel_rfl) rfl rfl (by decide) (HangOk g n) (fun w1 st => hang_any A n c g w1 (hg.le (all_le (st.started (by simp)))) hn (by omega) hin hlen) ?_
    rintro _ _ q ⟨gW, gU, rfl, rfl, hq⟩ hfq
    refine xk_move rfl (by decide) ?_
    refine xk_extract rfl rfl (by decide) ?_
    refine xk_extract rfl rfl (by decide) ?_
    refine xk_assign rfl (by decide) ?_
    refine xk_assign rfl (by decide) ?_
    refine XK.nil ?_
    (repeat (first | refine XK.thenN ?_ | refine XK.thenE ?_ | refine XK.thenR ?_ | refine XK.inN ?_ | refine XK.inE ?_ | refine XK.inR ?_ | refine XK.inF rfl ?_))
    refine XK.seq ?_

    refine XK.region ?_
    refine xk_makeMap (by decide) fun r => ?_
    refine xk_assign rfl (by decide) ?_
    refine XK.nil ?_
    (repeat (first | refine XK.thenN ?_ | refine XK.thenE ?_ | refine XK.thenR ?_ | refine XK.inN ?_ | refine XK.inE ?_ | refine XK.inR ?_ | refine XK.inF rfl ?_))
    refine XK.seq ?_

    refine XK.region ?_
    refine xk_assign rfl (by decide) ?_
    refine XK.nil ?_
    (repeat (first | refine XK.thenN ?_ | refine XK.thenE ?_ | refine XK.thenR ?_ | refine XK.inN ?_ | refine XK.inE ?_ | refine XK.inR ?_ | refine XK.inF rfl ?_))
    refine XK.seq ?_
    refine XK.nilrow 3 1 ?_
    refine XK.env [(8, .slice none 0 0), (7, .map (some r)), (6, .slice (some ⟨gU, 0, none⟩) n n), (5, .slice (some ⟨gW, 0, none⟩) n n), (0, .slice A n c)] ⟨rfl, rfl, rfl, rfl, rfl, trivial⟩ ?_
    refine XK.block ?_
    refine XK.loop (fun m e R H => ∃ (M : List Nat) (A' : Option Addr) (c' : Nat), M.length ≤ n ∧ m = n - M.length ∧ orderG g (n - M.length) M = orderG g g.length [] ∧ e = [(8, .slice A' M.length c'), (7, .map (some r)), (6, .slice (some ⟨gU, 0, none⟩) n n), (5, .slice (some ⟨gW, 0, none⟩) n n), (0, .slice A n c)] ∧ R = [q, all w] ∧ H = [HP.own 3 1 (.slice A' M.length c') M.length (intCells (natI M)), HP.map r (setL (natI M)), HP.blk gW 3 (intCells (waitsG g M))]) n ⟨[], none, 0, by simp, rfl, by rw [hn]; rfl, rfl, rfl, by rw [hn, waits_start hin]; rfl⟩ fun m e R H hI => ?_
    obtain ⟨M, A', c', hM, rfl, hord, rfl, rfl, rfl⟩ := hI
    refine XK.seq ?_
    refine XK.seq ?_

    refine XK.region ?_
    refine xk_move rfl (by decide) ?_
    refine xk_len (el := 3) (by kernel_rfl) rfl (by decide) ?_
    refine xk_move rfl (by decide) ?_
    refine xk_len (el := 41) (by kernel_rfl) rfl (by decide) ?_
    refine xk_lss rfl rfl (by decide) ?_
    refine XK.nil ?_
    (repeat (first | refine XK.thenN ?_ | refine XK.thenE ?_ | refine XK.thenR ?_ | refine XK.inN ?_ | refine XK.inE ?_ | refine XK.inR ?_ | refine XK.inF rfl ?_))
    refine XK.if_ rfl (fun h => ?_) (fun h => ?_)
    ·
      refine XK.skip ?_
      (repeat (first | refine XK.thenN ?_ | refine XK.thenE ?_ | refine XK.thenR ?_ | refine XK.inN ?_ | refine XK.inE ?_ | refine XK.inR ?_ | refine XK.inF rfl ?_))
      refine XK.block ?_
      refine XK.seq ?_

      refine XK.region ?_
      refine xk_assign rfl (by decide) ?_
      refine XK.nil ?_
      (repeat (first | refine XK.thenN ?_ | refine XK.thenE ?_ | refine XK.thenR ?_ | refine XK.inN ?_ | refine XK.inE ?_ | refine XK.inR ?_ | refine XK.inF rfl ?_))
      refine XK.cut (fun e R H => ∃ v : Nat, v ≤ n ∧ (∀ j, j < v → okN g M j = false) ∧ (v < n → okN g M v = true) ∧ e = [(9, .int .i64 v), (8, .slice A' M.length c'), (7, .map (some r)), (6, .slice (some ⟨gU, 0, none⟩) n n), (5, .slice (some ⟨gW, 0, none⟩) n n), (0, .slice A n c)] ∧ R = [q, all w] ∧ H = [HP.own 3 1 (.slice A' M.length c') M.length (intCells (natI M)), HP.map r (setL (natI M)), HP.blk gW 3 (intCells (waitsG g M))]) ?_ ?_
      ·
        refine XK.env [(9, .int .i64 0), (8, .slice A' M.length c'), (7, .map (some r)), (6, .slice (some ⟨gU, 0, none⟩) n n), (5, .slice (some ⟨gW, 0, none⟩) n n), (0, .slice A n c)] ⟨rfl, rfl, rfl, rfl, rfl, rfl, trivial⟩ ?_
        refine XK.block ?_
        refine XK.loop (fun m e R H => ∃ v : Nat, v ≤ n ∧ m = n - v ∧ (∀ j, j < v → okN g M j = false) ∧ e = [(9, .int .i64 v), (8, .slice A' M.length c'), (7, .map (some r)), (6, .slice (some ⟨gU, 0, none⟩) n n), (5, .slice (some ⟨gW, 0, none⟩) n n), (0, .slice A n c)] ∧ R = [q, all w] ∧ H = [HP.own 3 1 (.slice A' M.length c') M.length (intCells (natI M)), HP.map r (setL (natI M)), HP.blk gW 3 (intCells (waitsG g M))]) n ⟨0, by omega, rfl, fun j h => absurd h (by omega), rfl, rfl, rfl⟩ fun m e R H hI => ?_
        obtain ⟨v, hv, rfl, hno, rfl, rfl, rfl⟩ := hI
        refine XK.seq ?_
        refine XK.seq ?_

        refine XK.region ?_
        refine xk_move rfl (by decide) ?_
        refine xk_move rfl (by decide) ?_
        refine xk_len (el := 41) (by kernel_rfl) rfl (by decide) ?_
        refine xk_lss rfl rfl (by decide) ?_
        refine xk_move rfl (by decide) ?_
        refine xk_split (t := 32) rfl (fun hlt => ?_) (fun hlt => ?_)
        ·
          refine xk_guardT rfl rfl ?_; refine xk_move rfl (by decide) ?_
          refine xk_guardT rfl rfl ?_; refine xk_move rfl (by decide) ?_
          refine xk_guardT rfl rfl ?_; refine xk_callR (f := 90) (fi := []) (ca := []) (by kernel_rfl) rfl rfl (by decide) (fun w1 st => (natI_has M v) ▸ marks_has r v (natI M) w1 (st.map (i := 1) rfl)) ?_
          refine xk_guardT rfl rfl ?_; refine xk_move rfl (by decide) ?_
          refine xk_splitB (t := 36) rfl (fun hc => ?_) (fun hc => ?_)
          ·
            refine xk_guardF rfl rfl rfl (by decide) ?_
            refine xk_guardF rfl rfl rfl (by decide) ?_
            refine xk_guardF rfl rfl rfl (by decide) ?_
            refine xk_guardF rfl rfl rfl (by decide) ?_
            refine xk_guardF rfl rfl rfl (by decide) ?_
            refine xk_guardT rfl rfl ?_; (first | refine xk_pickT rfl rfl (by decide) ?_ | refine xk_pickF rfl rfl (by decide) ?_)
            (first | refine xk_pickT rfl rfl (by decide) ?_ | refine xk_pickF rfl rfl (by decide) ?_)
            refine XK.nil ?_
            (repeat (first | refine XK.thenN ?_ | refine XK.thenE ?_ | refine XK.thenR ?_ | refine XK.inN ?_ | refine XK.inE ?_ | refine XK.inR ?_ | refine XK.inF rfl ?_))
            refine XK.cond rfl (fun _ => ?_) (fun h => by cases h)
            refine XK.skip ?_
            (repeat (first | refine XK.thenN ?_ | refine XK.thenE ?_ | refine XK.thenR ?_ | refine XK.inN ?_ | refine XK.inE ?_ | refine XK.inR ?_ | refine XK.inF rfl ?_))
            refine XK.block ?_

            refine XK.region ?_
            refine xk_move rfl (by decide) ?_
            refine xk_add rfl rfl (wrap_in (by omega)) (by decide) ?_
            refine xk_assign rfl (by decide) ?_
            refine XK.nil ?_
            (repeat (first | refine XK.thenN ?_ | refine XK.thenE ?_ | refine XK.thenR ?_ | refine XK.inN ?_ | refine XK.inE ?_ | refine XK.inR ?_ | refine XK.inF rfl ?_))
            exact XK.env [(9, .int .i64 (v + 1)), (8, .slice A' M.length c'), (7, .map (some r)), (6, .slice (some ⟨gU, 0, none⟩) n n), (5, .slice (some ⟨gW, 0, none⟩) n n), (0, .slice A n c)] ⟨rfl, rfl, rfl, rfl, rfl, rfl, trivial⟩ (XK.round (n - (v + 1)) (by omega) ⟨v + 1, by omega, rfl, all_snoc hno (okN_met hc), rfl, rfl, rfl⟩)
          ·
            refine xk_guardT rfl rfl ?_; refine xk_move rfl (by decide) ?_
            refine xk_guardT rfl rfl ?_; refine xk_move rfl (by decide) ?_
            have hvn : v < g.length := by omega
            refine xk_guardT rfl rfl ?_; refine xk_at (v) (v) (el := 3) (sz := 1) (by kernel_rfl) (by kernel_rfl) rfl rfl (by omega) (by omega) (by omega) (by decide) ?_
            refine xk_guardT rfl rfl ?_; refine xk_load (by kernel_rfl) rfl (Rd.blk 2 rfl (intCells_at (waitsG_get hvn))) (by decide) ?_
            refine xk_guardT rfl rfl ?_; refine xk_gtr rfl rfl (by decide) ?_
            refine xk_guardT rfl rfl ?_; (first | refine xk_pickT rfl rfl (by decide) ?_ | refine xk_pickF rfl rfl (by decide) ?_)
            (first | refine xk_pickT rfl rfl (by decide) ?_ | refine xk_pickF rfl rfl (by decide) ?_)
            refine XK.nil ?_
            (repeat (first | refine XK.thenN ?_ | refine XK.thenE ?_ | refine XK.thenR ?_ | refine XK.inN ?_ | refine XK.inE ?_ | refine XK.inR ?_ | refine XK.inF rfl ?_))
            refine XK.if_ rfl (fun h => ?_) (fun h => ?_)
            ·
              refine XK.skip ?_
              (repeat (first | refine XK.thenN ?_ | refine XK.thenE ?_ | refine XK.thenR ?_ | refine XK.inN ?_ | refine XK.inE ?_ | refine XK.inR ?_ | refine XK.inF rfl ?_))
              refine XK.block ?_

              refine XK.region ?_
              refine xk_move rfl (by decide) ?_
              refine xk_add rfl rfl (wrap_in (by omega)) (by decide) ?_
              refine xk_assign rfl (by decide) ?_
              refine XK.nil ?_
              (repeat (first | refine XK.thenN ?_ | refine XK.thenE ?_ | refine XK.thenR ?_ | refine XK.inN ?_ | refine XK.inE ?_ | refine XK.inR ?_ | refine XK.inF rfl ?_))
              exact XK.env [(9, .int .i64 (v + 1)), (8, .slice A' M.length c'), (7, .map (some r)), (6, .slice (some ⟨gU, 0, none⟩) n n), (5, .slice (some ⟨gW, 0, none⟩) n n), (0, .slice A n c)] ⟨rfl, rfl, rfl, rfl, rfl, rfl, trivial⟩ (XK.round (n - (v + 1)) (by omega) ⟨v + 1, by omega, rfl, all_snoc hno (okN_waits h), rfl, rfl, rfl⟩)
            ·
              refine XK.exit ?_
              (repeat (first | refine XK.thenN ?_ | refine XK.thenE ?_ | refine XK.thenR ?_ | refine XK.inN ?_ | refine XK.inE ?_ | refine XK.inR ?_ | refine XK.inF rfl ?_))
              exact XK.env [(9, .int .i64 v), (8, .slice A' M.length c'), (7, .map (some r)), (6, .slice (some ⟨gU, 0, none⟩) n n), (5, .slice (some ⟨gW, 0, none⟩) n n), (0, .slice A n c)] ⟨rfl, rfl, rfl, rfl, rfl, rfl, trivial⟩ (XK.meet ⟨v, hv, hno, fun _ => okN_free hc h, rfl, rfl, rfl⟩)
        ·
          refine xk_guardF rfl rfl rfl (by decide) ?_
          refine xk_guardF rfl rfl rfl (by decide) ?_
          refine xk_guardF rfl rfl rfl (by decide) ?_
          refine xk_guardF rfl rfl rfl (by decide) ?_
          refine xk_guardU rfl rfl (by decide) ?_
          refine xk_guardU rfl rfl (by decide) ?_
          refine xk_guardU rfl rfl (by decide) ?_
          refine xk_guardU rfl rfl (by decide) ?_
          refine xk_guardU rfl rfl (by decide) ?_
          refine xk_guardF rfl rfl rfl (by decide) ?_
          (first | refine xk_pickT rfl rfl (by decide) ?_ | refine xk_pickF rfl rfl (by decide) ?_)
          refine XK.nil ?_
          (repeat (first | refine XK.thenN ?_ | refine XK.thenE ?_ | refine XK.thenR ?_ | refine XK.inN ?_ | refine XK.inE ?_ | refine XK.inR ?_ | refine XK.inF rfl ?_))
          refine XK.cond rfl (fun h => by cases h) (fun _ => ?_)
          refine XK.exit ?_
          (repeat (first | refine XK.thenN ?_ | refine XK.thenE ?_ | refine XK.thenR ?_ | refine XK.inN ?_ | refine XK.inE ?_ | refine XK.inR ?_ | refine XK.inF rfl ?_))
          exact XK.env [(9, .int .i64 v), (8, .slice A' M.length c'), (7, .map (some r)), (6, .slice (some ⟨gU, 0, none⟩) n n), (5, .slice (some ⟨gW, 0, none⟩) n n), (0, .slice A n c)] ⟨rfl, rfl, rfl, rfl, rfl, rfl, trivial⟩ (XK.meet ⟨v, hv, hno, fun h => absurd h (by omega), rfl, rfl, rfl⟩)
      rintro _ _ _ ⟨v, hv, hno, hok, rfl, rfl, rfl⟩
      refine XK.seq ?_
      refine XK.seq ?_

      refine XK.region ?_
      refine xk_move rfl (by decide) ?_
      refine xk_move rfl (by decide) ?_
      refine xk_len (el := 41) (by kernel_rfl) rfl (by decide) ?_
      refine xk_eql rfl rfl (by decide) ?_
      refine XK.nil ?_
      (repeat (first | refine XK.thenN ?_ | refine XK.thenE ?_ | refine XK.thenR ?_ | refine XK.inN ?_ | refine XK.inE ?_ | refine XK.inR ?_ | refine XK.inF rfl ?_))
      refine XK.if_ rfl (fun h => ?_) (fun h => ?_)
      ·
        refine XK.seq ?_

        refine XK.region ?_
        refine xk_assign rfl (by decide) ?_
        refine xk_assign rfl (by decide) ?_
        refine XK.nil ?_
        (repeat (first | refine XK.thenN ?_ | refine XK.thenE ?_ | refine XK.thenR ?_ | refine XK.inN ?_ | refine XK.inE ?_ | refine XK.inR ?_ | refine XK.inF rfl ?_))
        refine XK.ret ?_
        (repeat (first | refine XK.thenN ?_ | refine XK.thenE ?_ | refine XK.thenR ?_ | refine XK.inN ?_ | refine XK.inE ?_ | refine XK.inR ?_ | refine XK.inF rfl ?_))
        exact XK.ret2 rfl rfl rfl fun w1 st => by
          have hnone : orderG g g.length [] = none := by
            rw [← hord, show n - M.length = (n - M.length - 1) + 1 by omega]
            exact orderG_stop (nextG_none fun j hj => hno j (by omega))
          rw [orderE_none h0 hnone]
          exact OrdOk.nil (st.below (by simp))
      ·
        have hvn : v < n := by omega
        have hv1 := hok hvn
        have hMv : M.contains v = false := by
          cases hb : M.contains v with
          | false => rfl
          | true => rw [okN_met hb] at hv1; cases hv1
        have hnx := nextG_some (by omega : v < g.length) hno hv1
        have hU := users_row hin (by omega : v < g.length)
        rw [← hn] at hU
        obtain ⟨b1, o1, B1, d1, hA1, hz1, hcl1, hs1⟩ := hq.rowP hU
        cases hA1
        have hul := usersG_len g v
        refine XK.skip ?_
        (repeat (first | refine XK.thenN ?_ | refine XK.thenE ?_ | refine XK.thenR ?_ | refine XK.inN ?_ | refine XK.inE ?_ | refine XK.inR ?_ | refine XK.inF rfl ?_))
        refine XK.seq ?_

        refine XK.region ?_
        refine xk_move rfl (by decide) ?_
        refine xk_move rfl (by decide) ?_
        refine xk_callM (f := 91) (fi := []) (ca := []) 1 (HP.map r (setL (if (natI M).contains (v : Int) then natI M else natI M ++ [(v : Int)]))) (by kernel_rfl) rfl rfl rfl ⟨by decide, rfl⟩ (fun w1 F st hp hF => marks_add r v (natI M) w1 F hp hF) ?_
        dsimp only [List.set]
        rw [if_neg (by rw [natI_has, hMv]; decide), ← natI_snoc]
        refine XK.nil ?_
        (repeat (first | refine XK.thenN ?_ | refine XK.thenE ?_ | refine XK.thenR ?_ | refine XK.inN ?_ | refine XK.inE ?_ | refine XK.inR ?_ | refine XK.inF rfl ?_))
        refine XK.seq ?_

        refine XK.region ?_
        refine xk_move rfl (by decide) ?_
        refine xk_move rfl (by decide) ?_
        refine xk_slice (el := 3) (sz := 1) (zs := [.int .i64 0]) (by kernel_rfl) (zeroB_of (by kernel_rfl)) (by kernel_rfl) rfl (by decide) (by decide) rfl (by simp [fillL, setN, Value.cells, List.range_succ, List.set]; rfl) (by decide) fun g1 => ?_
        refine xk_appendT 1 1 8 1 (n' := (M ++ [v]).length) (el := 3) (by kernel_rfl) (by kernel_rfl) (by decide) rfl rfl rfl (sl_blk 0 rfl rfl) (by simp [Value.oneCell']) (by simp) (by simp; omega) (by simp; omega) (by decide) fun A2 c2 => ?_
        dsimp only [List.set]
        rw [intCells_snoc, ← natI_snoc]
        refine xk_assign rfl (by decide) ?_
        refine XK.nil ?_
        (repeat (first | refine XK.thenN ?_ | refine XK.thenE ?_ | refine XK.thenR ?_ | refine XK.inN ?_ | refine XK.inE ?_ | refine XK.inR ?_ | refine XK.inF rfl ?_))
        refine XK.seq ?_

        refine XK.region ?_
        refine xk_move rfl (by decide) ?_
        refine xk_move rfl (by decide) ?_
        refine xk_at (v) (v) (el := 41) (sz := 1) (by kernel_rfl) (by kernel_rfl) rfl rfl (by omega) (by omega) (by omega) (by decide) ?_
        refine xk_load (by kernel_rfl) rfl (Rd.ro (p := q) (by simp) hz1 (by simpa using hcl1)) (by decide) ?_
        refine xk_len (el := 3) (by kernel_rfl) rfl (by decide) ?_
        refine xk_move rfl (by decide) ?_
        refine XK.nil ?_
        (repeat (first | refine XK.thenN ?_ | refine XK.thenE ?_ | refine XK.thenR ?_ | refine XK.inN ?_ | refine XK.inE ?_ | refine XK.inR ?_ | refine XK.inF rfl ?_))
        refine XK.weak [1, 2, 3] rfl (by decide) (fun _ hp => hp) ?_
        refine XK.env [(62, .int .i64 0), (61, .int .i64 (usersG g v).length), (60, .slice B1 (usersG g v).length d1), (8, .slice A2 (M ++ [v]).length c2), (7, .map (some r)), (6, .slice (some ⟨gU, 0, none⟩) n n), (5, .slice (some ⟨gW, 0, none⟩) n n), (0, .slice A n c)] ⟨rfl, rfl, rfl, rfl, rfl, rfl, rfl, rfl, trivial⟩ ?_
        refine XK.block ?_
        refine XK.loop (fun m e R H => ∃ j : Nat, j ≤ (usersG g v).length ∧ m = (usersG g v).length - j ∧ e = [(62, .int .i64 j), (61, .int .i64 (usersG g v).length), (60, .slice B1 (usersG g v).length d1), (8, .slice A2 (M ++ [v]).length c2), (7, .map (some r)), (6, .slice (some ⟨gU, 0, none⟩) n n), (5, .slice (some ⟨gW, 0, none⟩) n n), (0, .slice A n c)] ∧ R = [q, all w] ∧ H = [HP.own 3 1 (.slice A2 (M ++ [v]).length c2) (M ++ [v]).length (intCells (natI (M ++ [v]))), HP.map r (setL (natI (M ++ [v]))), HP.blk gW 3 (intCells (decBy (waitsG g M) ((usersG g v).take j)))]) (usersG g v).length ⟨0, by omega, rfl, rfl, rfl, rfl⟩ fun m e R H hI => ?_
        obtain ⟨j, hj, rfl, rfl, rfl, rfl⟩ := hI
        refine XK.seq ?_

        refine XK.region ?_
        refine xk_lss rfl rfl (by decide) ?_
        refine XK.nil ?_
        (repeat (first | refine XK.thenN ?_ | refine XK.thenE ?_ | refine XK.thenR ?_ | refine XK.inN ?_ | refine XK.inE ?_ | refine XK.inR ?_ | refine XK.inF rfl ?_))
        refine XK.seq ?_
        refine XK.if_ rfl (fun h => ?_) (fun h => ?_)
        ·
          refine XK.skip ?_
          (repeat (first | refine XK.thenN ?_ | refine XK.thenE ?_ | refine XK.thenR ?_ | refine XK.inN ?_ | refine XK.inE ?_ | refine XK.inR ?_ | refine XK.inF rfl ?_))
          refine XK.seq ?_
          refine XK.block ?_
          refine XK.seq ?_
          have hjl : j < (usersG g v).length := by omega
          obtain ⟨b2, off2, rfl, hz2, hc2⟩ := hs1.2 (by omega)
          obtain ⟨u, hu⟩ : ∃ u, (usersG g v)[j]? = some u := ⟨_, List.getElem?_eq_getElem hjl⟩
          have c3 := hc2 j _ (intCells_at hu)
          obtain ⟨hu0, hun⟩ := usersG_mem (List.mem_of_getElem? hu)
          have hug : u.toNat < g.length := by omega
          have hx := decBy_get ((usersG g v).take j) (waitsG g M) u.toNat (fun y hy => (usersG_mem (List.mem_of_mem_take hy)).1) (by rw [waitsG_len]; exact hug)
          rw [waitsG_get hug] at hx
          have hcnt : ((usersG g v).take j).count ((u.toNat : Nat) : Int) ≤ j := Nat.le_trans List.count_le_length (by simp; omega)
          obtain ⟨x, hxe⟩ : ∃ x : Int, x = (some (waitN g M u.toNat : Int)).getD 0 - (((usersG g v).take j).count ((u.toNat : Nat) : Int) : Int) := ⟨_, rfl⟩
          rw [← hxe] at hx
          have hwl := waitN_le g M u.toNat
          have hgl : ((g[u.toNat]?.getD []).length : Int) ≤ 9223372036854775806 := by
            rw [List.getElem?_eq_getElem hug]; exact hlen _ (List.getElem_mem _)
          simp only [Option.getD_some] at hxe

          refine XK.region ?_
          refine xk_at (j) (off2 + j) (el := 3) (sz := 1) (by kernel_rfl) (by kernel_rfl) rfl rfl (by omega) (by omega) (by omega) (by decide) ?_
          refine xk_load (by kernel_rfl) rfl (Rd.ro (p := q) (by simp) hz2 c3) (by decide) ?_
          refine xk_assign rfl (by decide) ?_
          refine XK.nil ?_
          (repeat (first | refine XK.thenN ?_ | refine XK.thenE ?_ | refine XK.thenR ?_ | refine XK.inN ?_ | refine XK.inE ?_ | refine XK.inR ?_ | refine XK.inF rfl ?_))

          refine XK.region ?_
          refine xk_move rfl (by decide) ?_
          refine xk_move rfl (by decide) ?_
          refine xk_at (u.toNat) (u.toNat) (el := 3) (sz := 1) (by kernel_rfl) (by kernel_rfl) rfl rfl (by omega) (by omega) (by omega) (by decide) ?_
          refine xk_load (by kernel_rfl) rfl (Rd.blk 2 rfl (intCells_at hx)) (by decide) ?_
          refine xk_sub rfl rfl (wrap_in (by omega)) (by decide) ?_
          refine xk_at (u.toNat) (u.toNat) (el := 3) (sz := 1) (by kernel_rfl) (by kernel_rfl) rfl rfl (by omega) (by omega) (by omega) (by decide) ?_
          refine xk_store 2 rfl (by kernel_rfl) rfl rfl rfl (by rw [show (intCells (decBy (waitsG g M) ((usersG g v).take j))).length = g.length by simp [intCells, decBy_len, waitsG_len]]; exact hug) ?_
          dsimp only [List.set]
          rw [waits_set _ _ j u x hu hx]
          refine XK.nil ?_
          (repeat (first | refine XK.thenN ?_ | refine XK.thenE ?_ | refine XK.thenR ?_ | refine XK.inN ?_ | refine XK.inE ?_ | refine XK.inR ?_ | refine XK.inF rfl ?_))

          refine XK.region ?_
          refine xk_add rfl rfl (wrap_in (by omega)) (by decide) ?_
          refine xk_move rfl (by decide) ?_
          refine XK.nil ?_
          (repeat (first | refine XK.thenN ?_ | refine XK.thenE ?_ | refine XK.thenR ?_ | refine XK.inN ?_ | refine XK.inE ?_ | refine XK.inR ?_ | refine XK.inF rfl ?_))
          exact XK.env [(62, .int .i64 (j + 1)), (61, .int .i64 (usersG g v).length), (60, .slice (some ⟨b2, off2, none⟩) (usersG g v).length d1), (8, .slice A2 (M ++ [v]).length c2), (7, .map (some r)), (6, .slice (some ⟨gU, 0, none⟩) n n), (5, .slice (some ⟨gW, 0, none⟩) n n), (0, .slice A n c)] ⟨rfl, rfl, rfl, rfl, rfl, rfl, rfl, rfl, trivial⟩ (XK.round ((usersG g v).length - (j + 1)) (by omega) ⟨j + 1, by omega, rfl, rfl, rfl, rfl⟩)
        ·
          refine XK.exit ?_
          (repeat (first | refine XK.thenN ?_ | refine XK.thenE ?_ | refine XK.thenR ?_ | refine XK.inN ?_ | refine XK.inE ?_ | refine XK.inR ?_ | refine XK.inF rfl ?_))
          exact XK.env [(8, .slice A2 (M ++ [v]).length c2), (7, .map (some r)), (6, .slice (some ⟨gU, 0, none⟩) n n), (5, .slice (some ⟨gW, 0, none⟩) n n), (0, .slice A n c)] ⟨rfl, rfl, rfl, rfl, rfl, trivial⟩ (XK.round (n - (M ++ [v]).length) (by simp; omega) ⟨M ++ [v], A2, c2, (by simp; omega), rfl, by rw [← hord, show n - M.length = (n - (M ++ [v]).length) + 1 by simp; omega, orderG_step hnx], rfl, rfl, by rw [show j = (usersG g v).length by omega, List.take_length, waits_snoc hin hMv]⟩)
    ·
      refine XK.exit ?_
      (repeat (first | refine XK.thenN ?_ | refine XK.thenE ?_ | refine XK.thenR ?_ | refine XK.inN ?_ | refine XK.inE ?_ | refine XK.inR ?_ | refine XK.inF rfl ?_))
      refine XK.seq ?_

      refine XK.region ?_
      refine xk_move rfl (by decide) ?_
      refine xk_assign rfl (by decide) ?_
      refine xk_assign rfl (by decide) ?_
      refine XK.nil ?_
      (repeat (first | refine XK.thenN ?_ | refine XK.thenE ?_ | refine XK.thenR ?_ | refine XK.inN ?_ | refine XK.inE ?_ | refine XK.inR ?_ | refine XK.inF rfl ?_))
      refine XK.ret ?_
      (repeat (first | refine XK.thenN ?_ | refine XK.thenE ?_ | refine XK.thenR ?_ | refine XK.inN ?_ | refine XK.inE ?_ | refine XK.inR ?_ | refine XK.inF rfl ?_))
      refine XK.still [] [0] [] (by simp) rfl (by decide) (by decide) fun p hp _ hfr => ?_
      refine XK.ret2 rfl rfl rfl fun w1 st => ?_
      have hsome : orderG g g.length [] = some M := by rw [← hord, show n - M.length = 0 by omega]; rfl
      rw [orderE_some h0 hsome]
      exact ⟨⟨_, _, _, rfl, rfl, (SlS.own (hp 0 _ (by simp) rfl)).le (st.fresh_le (by simp) (hfr (by simp) (by simp)))⟩, st.below (by simp)⟩

end Go.Proofs.Ytbgibbbggajgaaa
