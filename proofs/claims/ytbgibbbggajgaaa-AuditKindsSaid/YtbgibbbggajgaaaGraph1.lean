/- graph: what is met; whether the numbers are right; what waits for what. -/
import Derived.Test.YtbgibbbggajgaaaMany
import Derived.Test.YtbgibbbggajgaaaGraphS
import Derived.Test.YtbgibbbggajgaaaProg
import Derived.KernelRfl
namespace Go.Proofs.Ytbgibbbggajgaaa
set_option linter.all false
open Go.RowKit

/-- a set, as a map -/
def setL (ks : List Int) : List (Int × Value) := ks.map fun k => (k, .agg #[])
theorem mget_setL : ∀ (ks : List Int) (k : Int), mget (setL ks) k = if ks.contains k then some (.agg #[]) else none
  | [], k => by simp [setL, mget]
  | a :: ks, k => by
    rw [setL, List.map_cons, mget_cons]
    have := mget_setL ks k
    rw [setL] at this
    rw [this]
    by_cases h : a = k
    · subst h; simp
    · simp [h, Ne.symm h]
theorem mset_setL : ∀ (ks : List Int) (k : Int), mset (setL ks) k (.agg #[]) = setL (if ks.contains k then ks else ks ++ [k])
  | [], k => by simp [setL, mset]
  | a :: ks, k => by
    have ih := mset_setL ks k
    rw [setL, List.map_cons, mset]
    rw [setL] at ih
    by_cases h : a = k
    · subst h; simp [setL]
    · rw [if_neg h, ih]
      have hk : ¬ k = a := fun e => h e.symm
      by_cases hc : ks.contains k = true
      · have : (a :: ks).contains k = true := by simp at hc ⊢; exact .inr hc
        rw [if_pos hc, if_pos this]; rfl
      · have hm : k ∉ ks := by simpa using hc
        have : ¬ (a :: ks).contains k = true := by simp [hk, hm]
        rw [if_neg hc, if_neg this]; rfl
theorem all_snoc {p : Nat → Prop} {k : Nat} (h : ∀ i, i < k → p i) (hk : p k) : ∀ i, i < k + 1 → p i := fun i hi => by
  rcases Nat.lt_or_ge i k with h1 | h1
  · exact h i h1
  · have : i = k := by omega
    exact this ▸ hk
theorem setL_bool (ks : List Int) (k : Int) : (mget (setL ks) k).isSome = ks.contains k := by rw [mget_setL]; split <;> simp_all
theorem setL_val (ks : List Int) (k : Int) : (mget (setL ks) k).getD (.agg #[]) = .agg #[] := by rw [mget_setL]; split <;> rfl

theorem marks_has (r : Nat) (v : Int) (ks : List Int) (w : World) (hm : MapI w r (setL ks)) :
    Calls Try.prog 90 #[.map (some r), .int .i64 v] w (Rt (.bool (ks.contains v)) w) := by
  refine XK.enter (vs := [.map (some r), .int .i64 v]) Try.func90 rfl Try.ntmps90 (by simp) ?_
  refine XK.seq ?_

  refine XK.region ?_
  refine xk_assign rfl (by decide) ?_
  refine XK.nil ?_
  (repeat (first | refine XK.thenN ?_ | refine XK.thenE ?_ | refine XK.thenR ?_ | refine XK.inN ?_ | refine XK.inE ?_ | refine XK.inR ?_ | refine XK.inF rfl ?_))
  refine XK.seq ?_

  refine XK.region ?_
  refine xk_move rfl (by decide) ?_
  refine xk_move rfl (by decide) ?_
  refine xk_lookup (kt := 3) (et := 193) (kd := .i64) (z := .agg #[]) (l := setL ks) true (by kernel_rfl) (by kernel_rfl) (by kernel_rfl) rfl rfl (fun w1 st => hm.below (st.started (by simp))) (by decide) ?_
  rw [setL_bool, setL_val]
  refine xk_move rfl (by decide) ?_
  refine xk_extract rfl rfl (by decide) ?_
  refine xk_extract rfl rfl (by decide) ?_
  refine xk_alloc (cs := []) (zeroB_of (by kernel_rfl)) (by decide) fun g1 => ?_
  (first | (refine xk_storeN 0 rfl rfl rfl (by kernel_rfl) (by simp [Value.cells, Value.oneCell']) (by simp [Value.cells]) ?_) | (refine xk_storeN 1 rfl rfl rfl (by kernel_rfl) (by simp [Value.cells, Value.oneCell']) (by simp [Value.cells]) ?_) | (refine xk_storeN 2 rfl rfl rfl (by kernel_rfl) (by simp [Value.cells, Value.oneCell']) (by simp [Value.cells]) ?_) | (refine xk_storeN 3 rfl rfl rfl (by kernel_rfl) (by simp [Value.cells, Value.oneCell']) (by simp [Value.cells]) ?_) | (refine xk_storeN 4 rfl rfl rfl (by kernel_rfl) (by simp [Value.cells, Value.oneCell']) (by simp [Value.cells]) ?_) | (refine xk_storeN 5 rfl rfl rfl (by kernel_rfl) (by simp [Value.cells, Value.oneCell']) (by simp [Value.cells]) ?_) | (refine xk_storeN 6 rfl rfl rfl (by kernel_rfl) (by simp [Value.cells, Value.oneCell']) (by simp [Value.cells]) ?_) | (refine xk_storeN 7 rfl rfl rfl (by kernel_rfl) (by simp [Value.cells, Value.oneCell']) (by simp [Value.cells]) ?_) | (refine xk_storeN 8 rfl rfl rfl (by kernel_rfl) (by simp [Value.cells, Value.oneCell']) (by simp [Value.cells]) ?_)); simp only [putN, Value.cells, List.set, List.take, List.drop, List.nil_append, List.append_nil, List.length_cons, List.length_nil, List.cons_append, Nat.reduceAdd]
  refine xk_assign rfl (by decide) ?_
  refine XK.nil ?_
  (repeat (first | refine XK.thenN ?_ | refine XK.thenE ?_ | refine XK.thenR ?_ | refine XK.inN ?_ | refine XK.inE ?_ | refine XK.inR ?_ | refine XK.inF rfl ?_))
  refine XK.seq ?_

  refine XK.region ?_
  refine xk_move rfl (by decide) ?_
  refine xk_assign rfl (by decide) ?_
  refine XK.nil ?_
  (repeat (first | refine XK.thenN ?_ | refine XK.thenE ?_ | refine XK.thenR ?_ | refine XK.inN ?_ | refine XK.inE ?_ | refine XK.inR ?_ | refine XK.inF rfl ?_))
  refine XK.ret ?_
  (repeat (first | refine XK.thenN ?_ | refine XK.thenE ?_ | refine XK.thenR ?_ | refine XK.inN ?_ | refine XK.inE ?_ | refine XK.inR ?_ | refine XK.inF rfl ?_))
  exact XK.ret1 rfl rfl fun w1 st => ⟨rfl, st.below (by simp)⟩

theorem marks_add (r : Nat) (v : Int) (ks : List Int) (w : World) (F : Nat → Prop) (hp : (HP.map r (setL ks)).sat F w) (hF : ∀ b, F b → b < w.heap.size) :
    Calls Try.prog 91 #[.map (some r), .int .i64 v] w (fun y w' => y = .returned (.tuple #[]) ∧ ∃ F', (HP.map r (setL (if ks.contains v then ks else ks ++ [v]))).sat F' w' ∧ Turns w w' F F') := by
  refine XK.enterM (p := HP.map r (setL ks)) (F := F) (vs := [.map (some r), .int .i64 v]) Try.func91 rfl Try.ntmps91 (by simp) hp hF ?_

  refine XK.region ?_
  refine xk_move rfl (by decide) ?_
  refine xk_move rfl (by decide) ?_
  refine xk_buildS (zs := []) (L := []) (zeroB_of (by kernel_rfl)) (by kernel_rfl) rfl (by simp [fillL, setN, Value.cells]; rfl) (by decide) ?_
  refine xk_mapUpdate (kt := 3) (et := 193) (kd := .i64) (l := setL ks) 0 (by kernel_rfl) (by kernel_rfl) rfl rfl rfl rfl ?_
  rw [mset_setL]
  refine XK.nil ?_
  (repeat (first | refine XK.thenN ?_ | refine XK.thenE ?_ | refine XK.thenR ?_ | refine XK.inN ?_ | refine XK.inE ?_ | refine XK.inR ?_ | refine XK.inF rfl ?_))
  exact XK.ret0 (.inr rfl) rfl fun w1 st => ⟨rfl, st.turns hF (by simp) (i := 0) rfl⟩

theorem numbersG_any (A : Option Addr) (n c : Nat) (g : List (List Int)) (w : World) (hg : GrS (all w) A n g) (hn : n = g.length) (hn2 : (n : Int) ≤ 9223372036854775806) (hlen : ∀ l ∈ g, (l.length : Int) ≤ 9223372036854775806) :
    Calls Try.prog 88 #[.slice A n c] w (Rt (.int .i64 (numbersG g)) w) := by
  refine XK.enter (vs := [.slice A n c]) Try.func88 rfl Try.ntmps88 (by simp) ?_
  refine XK.seq ?_

  refine XK.region ?_
  refine xk_assign rfl (by decide) ?_
  refine XK.nil ?_
  (repeat (first | refine XK.thenN ?_ | refine XK.thenE ?_ | refine XK.thenR ?_ | refine XK.inN ?_ | refine XK.inE ?_ | refine XK.inR ?_ | refine XK.inF rfl ?_))
  refine XK.seq ?_
  refine XK.seq ?_

  refine XK.region ?_
  refine xk_move rfl (by decide) ?_
  refine xk_len (el := 41) (by kernel_rfl) rfl (by decide) ?_
  refine xk_gtr rfl rfl (by decide) ?_
  refine XK.nil ?_
  (repeat (first | refine XK.thenN ?_ | refine XK.thenE ?_ | refine XK.thenR ?_ | refine XK.inN ?_ | refine XK.inE ?_ | refine XK.inR ?_ | refine XK.inF rfl ?_))
  refine XK.if_ rfl (fun h => ?_) (fun h => ?_)
  ·
    refine XK.seq ?_

    refine XK.region ?_
    refine xk_assign rfl (by decide) ?_
    refine XK.nil ?_
    (repeat (first | refine XK.thenN ?_ | refine XK.thenE ?_ | refine XK.thenR ?_ | refine XK.inN ?_ | refine XK.inE ?_ | refine XK.inR ?_ | refine XK.inF rfl ?_))
    refine XK.ret ?_
    (repeat (first | refine XK.thenN ?_ | refine XK.thenE ?_ | refine XK.thenR ?_ | refine XK.inN ?_ | refine XK.inE ?_ | refine XK.inR ?_ | refine XK.inF rfl ?_))
    exact XK.ret1 rfl rfl fun w1 st => ⟨by simp [numbersG, ← hn]; omega, st.below (by simp)⟩
  ·
    refine XK.skip ?_
    (repeat (first | refine XK.thenN ?_ | refine XK.thenE ?_ | refine XK.thenR ?_ | refine XK.inN ?_ | refine XK.inE ?_ | refine XK.inR ?_ | refine XK.inF rfl ?_))
    refine XK.seq ?_
    refine XK.seq ?_

    refine XK.region ?_
    refine xk_move rfl (by decide) ?_
    refine xk_len (el := 41) (by kernel_rfl) rfl (by decide) ?_
    refine xk_move rfl (by decide) ?_
    refine XK.nil ?_
    (repeat (first | refine XK.thenN ?_ | refine XK.thenE ?_ | refine XK.thenR ?_ | refine XK.inN ?_ | refine XK.inE ?_ | refine XK.inR ?_ | refine XK.inF rfl ?_))
    refine XK.env [(12, .int .i64 0), (11, .int .i64 n), (10, .slice A n c), (0, .slice A n c)] ⟨rfl, rfl, rfl, rfl, trivial⟩ ?_
    refine XK.block ?_
    refine XK.loop (fun m e R H => ∃ k : Nat, k ≤ n ∧ m = n - k ∧ (∀ (i : Nat), i < k → ∀ l : List Int, g[i]? = some l → ∀ (j : Nat) (u : Int), l[j]? = some u → 0 ≤ u ∧ u < g.length) ∧ e = [(12, .int .i64 k), (11, .int .i64 n), (10, .slice A n c), (0, .slice A n c)] ∧ R = [all w] ∧ H = []) n ⟨0, by omega, rfl, (fun i h => absurd h (by omega)), rfl, rfl, rfl⟩ fun m e R H hI => ?_
    obtain ⟨k, hk, rfl, hin, rfl, rfl, rfl⟩ := hI
    refine XK.seq ?_

    refine XK.region ?_
    refine xk_lss rfl rfl (by decide) ?_
    refine XK.nil ?_
    (repeat (first | refine XK.thenN ?_ | refine XK.thenE ?_ | refine XK.thenR ?_ | refine XK.inN ?_ | refine XK.inE ?_ | refine XK.inR ?_ | refine XK.inF rfl ?_))
    refine XK.seq ?_
    refine XK.if_ rfl (fun h => ?_) (fun h => ?_)
    ·
      refine XK.skip ?_
      (repeat (first | refine XK.thenN ?_ | refine XK.thenE ?_ | refine XK.thenR ?_ | refine XK.inN ?_ | refine XK.inE ?_ | refine XK.inR ?_ | refine XK.inF rfl ?_))
      refine XK.seq ?_
      refine XK.block ?_
      refine XK.seq ?_
      have hkn : k < n := by omega
      obtain ⟨l, hl⟩ : ∃ l, g[k]? = some l := ⟨g[k]'(by omega), List.getElem?_eq_getElem _⟩
      obtain ⟨b, off, B, c2, rfl, c1, hsl⟩ := hg.row hl
      have hll := hlen l (List.mem_of_getElem? hl)

      refine XK.region ?_
      refine xk_at (k) (off + k) (el := 41) (sz := 1) (by kernel_rfl) (by kernel_rfl) rfl rfl (by omega) (by omega) (by omega) (by decide) ?_
      refine xk_load (by kernel_rfl) rfl (by first | assumption | exact Rd.blk 0 rfl rfl | exact Rd.blk 1 rfl rfl | exact Rd.blk 2 rfl rfl | exact Rd.blk 3 rfl rfl | exact Rd.blk 4 rfl rfl | exact Rd.blk 5 rfl rfl | exact Rd.blk 6 rfl rfl | exact Rd.blk 7 rfl rfl | exact Rd.blk 8 rfl rfl | exact Rd.roc (by simp) (by assumption) | (apply Rd.rocN (by simp); assumption; rfl)) (by decide) ?_
      refine xk_assign rfl (by decide) ?_
      refine XK.nil ?_
      (repeat (first | refine XK.thenN ?_ | refine XK.thenE ?_ | refine XK.thenR ?_ | refine XK.inN ?_ | refine XK.inE ?_ | refine XK.inR ?_ | refine XK.inF rfl ?_))
      refine XK.seq ?_

      refine XK.region ?_
      refine xk_move rfl (by decide) ?_
      refine xk_len (el := 3) (by kernel_rfl) rfl (by decide) ?_
      refine xk_move rfl (by decide) ?_
      refine XK.nil ?_
      (repeat (first | refine XK.thenN ?_ | refine XK.thenE ?_ | refine XK.thenR ?_ | refine XK.inN ?_ | refine XK.inE ?_ | refine XK.inR ?_ | refine XK.inF rfl ?_))
      refine XK.env [(18, .int .i64 0), (17, .int .i64 l.length), (16, .slice B l.length c2), (12, .int .i64 k), (11, .int .i64 n), (10, .slice (some ⟨b, off, none⟩) n c), (0, .slice (some ⟨b, off, none⟩) n c)] ⟨rfl, rfl, rfl, rfl, rfl, rfl, rfl, trivial⟩ ?_
      refine XK.block ?_
      refine XK.loop (fun m e R H => ∃ j : Nat, j ≤ l.length ∧ m = l.length - j ∧ (∀ (i : Nat), i < j → ∀ u : Int, l[i]? = some u → 0 ≤ u ∧ u < g.length) ∧ e = [(18, .int .i64 j), (17, .int .i64 l.length), (16, .slice B l.length c2), (12, .int .i64 k), (11, .int .i64 n), (10, .slice (some ⟨b, off, none⟩) n c), (0, .slice (some ⟨b, off, none⟩) n c)] ∧ R = [all w] ∧ H = []) l.length ⟨0, by omega, rfl, (fun i h => absurd h (by omega)), rfl, rfl, rfl⟩ fun m e R H hI => ?_
      obtain ⟨j, hj, rfl, hin2, rfl, rfl, rfl⟩ := hI
      refine XK.seq ?_

      refine XK.region ?_
      refine xk_lss rfl rfl (by decide) ?_
      refine XK.nil ?_
      (repeat (first | refine XK.thenN ?_ | refine XK.thenE ?_ | refine XK.thenR ?_ | refine XK.inN ?_ | refine XK.inE ?_ | refine XK.inR ?_ | refine XK.inF rfl ?_))
      refine XK.seq ?_
      refine XK.if_ rfl (fun h => ?_) (fun h => ?_)
      ·
        refine XK.skip ?_
        (repeat (first | refine XK.thenN ?_ | refine XK.thenE ?_ | refine XK.thenR ?_ | refine XK.inN ?_ | refine XK.inE ?_ | refine XK.inR ?_ | refine XK.inF rfl ?_))
        refine XK.seq ?_
        refine XK.block ?_
        refine XK.seq ?_
        have hjl : j < l.length := by omega
        obtain ⟨b2, off2, rfl, hz2, hc2⟩ := hsl.2 (by omega)
        obtain ⟨u, hu⟩ : ∃ u, l[j]? = some u := ⟨l[j]'(by omega), List.getElem?_eq_getElem _⟩
        have c3 : ROc w b2 (off2 + j) (.int .i64 u) := ⟨hz2, hc2 j _ (by simp [intCells, hu])⟩

        refine XK.region ?_
        refine xk_at (j) (off2 + j) (el := 3) (sz := 1) (by kernel_rfl) (by kernel_rfl) rfl rfl (by omega) (by omega) (by omega) (by decide) ?_
        refine xk_load (by kernel_rfl) rfl (by first | assumption | exact Rd.blk 0 rfl rfl | exact Rd.blk 1 rfl rfl | exact Rd.blk 2 rfl rfl | exact Rd.blk 3 rfl rfl | exact Rd.blk 4 rfl rfl | exact Rd.blk 5 rfl rfl | exact Rd.blk 6 rfl rfl | exact Rd.blk 7 rfl rfl | exact Rd.blk 8 rfl rfl | exact Rd.roc (by simp) (by assumption) | (apply Rd.rocN (by simp); assumption; rfl)) (by decide) ?_
        refine xk_assign rfl (by decide) ?_
        refine XK.nil ?_
        (repeat (first | refine XK.thenN ?_ | refine XK.thenE ?_ | refine XK.thenR ?_ | refine XK.inN ?_ | refine XK.inE ?_ | refine XK.inR ?_ | refine XK.inF rfl ?_))
        refine XK.seq ?_

        refine XK.region ?_
        refine xk_move rfl (by decide) ?_
        refine xk_lss rfl rfl (by decide) ?_
        refine xk_move rfl (by decide) ?_
        refine xk_split (t := 24) rfl (fun hg => ?_) (fun hg => ?_)
        ·
          refine xk_guardF rfl rfl rfl (by decide) ?_
          refine xk_guardF rfl rfl rfl (by decide) ?_
          refine xk_guardF rfl rfl rfl (by decide) ?_
          refine xk_guardF rfl rfl rfl (by decide) ?_
          (first | refine xk_pickT rfl rfl (by decide) ?_ | refine xk_pickF rfl rfl (by decide) ?_)
          refine XK.nil ?_
          (repeat (first | refine XK.thenN ?_ | refine XK.thenE ?_ | refine XK.thenR ?_ | refine XK.inN ?_ | refine XK.inE ?_ | refine XK.inR ?_ | refine XK.inF rfl ?_))
          refine XK.cond rfl (fun _ => ?_) (fun h => by cases h)
          refine XK.seq ?_

          refine XK.region ?_
          refine xk_assign rfl (by decide) ?_
          refine XK.nil ?_
          (repeat (first | refine XK.thenN ?_ | refine XK.thenE ?_ | refine XK.thenR ?_ | refine XK.inN ?_ | refine XK.inE ?_ | refine XK.inR ?_ | refine XK.inF rfl ?_))
          refine XK.ret ?_
          (repeat (first | refine XK.thenN ?_ | refine XK.thenE ?_ | refine XK.thenR ?_ | refine XK.inN ?_ | refine XK.inE ?_ | refine XK.inR ?_ | refine XK.inF rfl ?_))
          exact XK.ret1 rfl rfl fun w1 st => ⟨by rw [show numbersG g = 4 by simp [numbersG, ← hn, badG_of hl hu (by omega)]; omega], st.below (by simp)⟩
        ·
          refine xk_guardT rfl rfl ?_; refine xk_move rfl (by decide) ?_
          refine xk_guardT rfl rfl ?_; refine xk_move rfl (by decide) ?_
          refine xk_guardT rfl rfl ?_; refine xk_len (el := 41) (by kernel_rfl) rfl (by decide) ?_
          refine xk_guardT rfl rfl ?_; refine xk_geq rfl rfl (by decide) ?_
          (first | refine xk_pickT rfl rfl (by decide) ?_ | refine xk_pickF rfl rfl (by decide) ?_)
          refine XK.nil ?_
          (repeat (first | refine XK.thenN ?_ | refine XK.thenE ?_ | refine XK.thenR ?_ | refine XK.inN ?_ | refine XK.inE ?_ | refine XK.inR ?_ | refine XK.inF rfl ?_))
          refine XK.if_ rfl (fun h => ?_) (fun h => ?_)
          ·
            refine XK.seq ?_

            refine XK.region ?_
            refine xk_assign rfl (by decide) ?_
            refine XK.nil ?_
            (repeat (first | refine XK.thenN ?_ | refine XK.thenE ?_ | refine XK.thenR ?_ | refine XK.inN ?_ | refine XK.inE ?_ | refine XK.inR ?_ | refine XK.inF rfl ?_))
            refine XK.ret ?_
            (repeat (first | refine XK.thenN ?_ | refine XK.thenE ?_ | refine XK.thenR ?_ | refine XK.inN ?_ | refine XK.inE ?_ | refine XK.inR ?_ | refine XK.inF rfl ?_))
            exact XK.ret1 rfl rfl fun w1 st => ⟨by rw [show numbersG g = 4 by simp [numbersG, ← hn, badG_of hl hu (by omega)]; omega], st.below (by simp)⟩
          ·
            refine XK.skip ?_
            (repeat (first | refine XK.thenN ?_ | refine XK.thenE ?_ | refine XK.thenR ?_ | refine XK.inN ?_ | refine XK.inE ?_ | refine XK.inR ?_ | refine XK.inF rfl ?_))

            refine XK.region ?_
            refine xk_add rfl rfl (wrap_in (by omega)) (by decide) ?_
            refine xk_move rfl (by decide) ?_
            refine XK.nil ?_
            (repeat (first | refine XK.thenN ?_ | refine XK.thenE ?_ | refine XK.thenR ?_ | refine XK.inN ?_ | refine XK.inE ?_ | refine XK.inR ?_ | refine XK.inF rfl ?_))
            exact XK.env [(18, .int .i64 (j + 1)), (17, .int .i64 l.length), (16, .slice (some ⟨b2, off2, none⟩) l.length c2), (12, .int .i64 k), (11, .int .i64 n), (10, .slice (some ⟨b, off, none⟩) n c), (0, .slice (some ⟨b, off, none⟩) n c)] ⟨rfl, rfl, rfl, rfl, rfl, rfl, rfl, trivial⟩ (XK.round (l.length - (j + 1)) (by omega) ⟨j + 1, by omega, rfl, all_snoc hin2 (fun x hx => by rw [hu] at hx; cases hx; omega), rfl, rfl, rfl⟩)
      ·
        refine XK.exit ?_
        (repeat (first | refine XK.thenN ?_ | refine XK.thenE ?_ | refine XK.thenR ?_ | refine XK.inN ?_ | refine XK.inE ?_ | refine XK.inR ?_ | refine XK.inF rfl ?_))

        refine XK.region ?_
        refine xk_add rfl rfl (wrap_in (by omega)) (by decide) ?_
        refine xk_move rfl (by decide) ?_
        refine XK.nil ?_
        (repeat (first | refine XK.thenN ?_ | refine XK.thenE ?_ | refine XK.thenR ?_ | refine XK.inN ?_ | refine XK.inE ?_ | refine XK.inR ?_ | refine XK.inF rfl ?_))
        exact XK.env [(12, .int .i64 (k + 1)), (11, .int .i64 n), (10, .slice (some ⟨b, off, none⟩) n c), (0, .slice (some ⟨b, off, none⟩) n c)] ⟨rfl, rfl, rfl, rfl, trivial⟩ (XK.round (n - (k + 1)) (by omega) ⟨k + 1, by omega, rfl, all_snoc hin (fun x hx j u hju => by rw [hl] at hx; cases hx; exact hin2 j (by have := (List.getElem?_eq_some_iff.1 hju).1; omega) u hju), rfl, rfl, rfl⟩)
    ·
      refine XK.exit ?_
      (repeat (first | refine XK.thenN ?_ | refine XK.thenE ?_ | refine XK.thenR ?_ | refine XK.inN ?_ | refine XK.inE ?_ | refine XK.inR ?_ | refine XK.inF rfl ?_))
      refine XK.seq ?_

      refine XK.region ?_
      refine xk_assign rfl (by decide) ?_
      refine XK.nil ?_
      (repeat (first | refine XK.thenN ?_ | refine XK.thenE ?_ | refine XK.thenR ?_ | refine XK.inN ?_ | refine XK.inE ?_ | refine XK.inR ?_ | refine XK.inF rfl ?_))
      refine XK.ret ?_
      (repeat (first | refine XK.thenN ?_ | refine XK.thenE ?_ | refine XK.thenR ?_ | refine XK.inN ?_ | refine XK.inE ?_ | refine XK.inR ?_ | refine XK.inF rfl ?_))
      exact XK.ret1 rfl rfl fun w1 st => ⟨by rw [show numbersG g = 0 by simp [numbersG, ← hn, badG_no (fun i l hi => hin i (by have := (List.getElem?_eq_some_iff.1 hi).1; omega) l hi)]; omega], st.below (by simp)⟩

end Go.Proofs.Ytbgibbbggajgaaa
