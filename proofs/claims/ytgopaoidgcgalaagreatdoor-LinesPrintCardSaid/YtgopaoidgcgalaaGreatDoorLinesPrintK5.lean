/- The reference's check of any chip. -/
import Derived.ChangeArms
import Derived.Test.YtgopaoidgcgalaaGreatDoorLinesPrintK4
namespace Go.Proofs.YtgopaoidgcgalaaGreatDoor
set_option linter.all false
open Go.RowKit
theorem within_iff {v a b : Int} : withinB v a b = true ↔ a ≤ v ∧ v ≤ b := by unfold withinB; rw [Bool.and_eq_true, decide_eq_true_eq, decide_eq_true_eq]
theorem within_iff_f {v a b : Int} : withinB v a b = false ↔ ¬ (a ≤ v ∧ v ≤ b) := by rw [← within_iff]; simp
theorem firstE_cons0 {es : List Int} : firstE (0 :: es) = firstE es := by unfold firstE; rw [List.find?_cons_of_neg (by simp)]
theorem firstE_cons {e : Int} {es : List Int} (h : e ≠ 0) : firstE (e :: es) = e := by unfold firstE; rw [List.find?_cons_of_pos (by simpa using h)]; rfl
theorem firstE_if {e : Int} {es : List Int} : firstE (e :: es) = if e = 0 then firstE es else e := by
  by_cases h : e = 0
  · subst h; rw [firstE_cons0]; rfl
  · rw [firstE_cons h, if_neg h]
theorem firstE_nil : firstE [] = 0 := rfl
theorem firstE_z0 : ∀ (es : List Int), (∀ e ∈ es, e = 0) → firstE es = 0
  | [], _ => rfl
  | e :: es, h => by rw [h e (by simp), firstE_cons0, firstE_z0 es fun x hx => h x (by simp [hx])]
theorem firstE_map0 {α : Type} {f : α → Int} {l : List α} (h : ∀ x ∈ l, f x = 0) : firstE (l.map f) = 0 := firstE_z0 _ fun e he => by
  rw [List.mem_map] at he
  obtain ⟨x, hx, rfl⟩ := he
  exact h x hx
theorem firstM_at {α : Type} {f : α → Int} : ∀ {l : List α} {i : Nat} {y : α}, l[i]? = some y → (∀ x ∈ l.take i, f x = 0) → f y ≠ 0 → firstE (l.map f) = f y
  | [], i, y, h, _, _ => by simp at h
  | x :: l, 0, y, h, _, hy => by
    simp at h
    subst h
    rw [List.map_cons, firstE_cons hy]
  | x :: l, i + 1, y, h, h0, hy => by
    rw [List.map_cons, h0 x (by simp), firstE_cons0]
    exact firstM_at (by simpa using h) (fun z hz => h0 z (by simp [hz])) hy
theorem take_snoc {α : Type} {P : α → Prop} {l : List α} {i : Nat} {y : α} (h : l[i]? = some y) (h0 : ∀ x ∈ l.take i, P x) (hy : P y) : ∀ x ∈ l.take (i + 1), P x := by
  intro x hx
  rw [List.take_add_one, h] at hx
  rcases List.mem_append.1 hx with hx | hx
  · exact h0 x hx
  · simp at hx; subst hx; exact hy
theorem take_all {α : Type} {P : α → Prop} {l : List α} {i : Nat} (h : l.length ≤ i) (h0 : ∀ x ∈ l.take i, P x) : ∀ x ∈ l, P x := by rwa [List.take_of_length_le h] at h0
theorem shape_iff (k : Int) (n : Nat) : shapeB k n = true ↔ (k = 111 ∧ (n : Int) = 0) ∨ ((k = 112 ∨ k = 100 ∨ k = 103) ∧ (n : Int) = 1) ∨ (k = 109 ∧ 1 ≤ (n : Int) ∧ (n : Int) ≤ 4) := by
  unfold shapeB
  split
  · rw [decide_eq_true_eq]; omega
  · split
    · rw [decide_eq_true_eq]; omega
    · split
      · rw [within_iff]; omega
      · constructor
        · intro h; cases h
        · omega
theorem numbers_iff (k r m d l : Int) : numbersB k r m d l = false ↔ (k = 111 ∧ (r < 1 ∨ 1099511627776 < r)) ∨ (k = 112 ∧ (¬ (1 ≤ m ∧ m ≤ 1000) ∨ ¬ (1 ≤ d ∧ d ≤ 1000) ∨ ¬ (0 ≤ l ∧ l ≤ 20))) ∨ (k = 100 ∧ ¬ (1 ≤ d ∧ d ≤ 1000)) := by
  unfold numbersB
  split
  · rw [Bool.and_eq_false_iff, decide_eq_false_iff_not, decide_eq_false_iff_not]; omega
  · split
    · rw [Bool.and_eq_false_iff, Bool.and_eq_false_iff, within_iff_f, within_iff_f, within_iff_f]; omega
    · split
      · rw [within_iff_f]; omega
      · constructor
        · intro h; cases h
        · omega
theorem srcE {n : Nat} {x : Int} : whenE (!withinB x 0 ((n : Int) - 1)) 4 = if 0 ≤ x ∧ x < n then 0 else 4 := by
  cases h : withinB x 0 ((n : Int) - 1) with
  | true => rw [within_iff] at h; rw [if_pos (by omega)]; rfl
  | false => rw [within_iff_f] at h; rw [if_neg (by omega)]; rfl
section
variable {nn : Nat} {c : Clk}
theorem clockE_form (h : ¬ ((c.kind = 111 ∧ (c.src.length : Int) = 0) ∨ ((c.kind = 112 ∨ c.kind = 100 ∨ c.kind = 103) ∧ (c.src.length : Int) = 1) ∨ (c.kind = 109 ∧ 1 ≤ (c.src.length : Int) ∧ (c.src.length : Int) ≤ 4))) : clockE nn c = 1 := by
  unfold clockE
  rw [← shape_iff] at h
  rw [show shapeB c.kind c.src.length = false by simpa using h, show whenE (!false) 1 = 1 from rfl, firstE_cons (by decide)]
theorem clockE_src {i : Nat} {y : Int} (h : (c.kind = 111 ∧ (c.src.length : Int) = 0) ∨ ((c.kind = 112 ∨ c.kind = 100 ∨ c.kind = 103) ∧ (c.src.length : Int) = 1) ∨ (c.kind = 109 ∧ 1 ≤ (c.src.length : Int) ∧ (c.src.length : Int) ≤ 4)) (hi : c.src[i]? = some y) (h0 : ∀ x ∈ c.src.take i, 0 ≤ x ∧ x < (nn : Int)) (hy : ¬ (0 ≤ y ∧ y < (nn : Int))) : clockE nn c = 4 := by
  unfold clockE
  rw [← shape_iff] at h
  rw [h, show whenE (!true) 1 = 0 from rfl, firstE_cons0, firstM_at hi (fun x hx => by rw [srcE, if_pos (h0 x hx)]) (by rw [srcE, if_neg hy]; decide), srcE, if_neg hy, firstE_cons (by decide)]
theorem clockE_num (h : (c.kind = 111 ∧ (c.src.length : Int) = 0) ∨ ((c.kind = 112 ∨ c.kind = 100 ∨ c.kind = 103) ∧ (c.src.length : Int) = 1) ∨ (c.kind = 109 ∧ 1 ≤ (c.src.length : Int) ∧ (c.src.length : Int) ≤ 4)) (h0 : ∀ x ∈ c.src, 0 ≤ x ∧ x < (nn : Int)) : clockE nn c = whenE (!numbersB c.kind c.rate c.mul c.div c.lock) 3 := by
  unfold clockE
  rw [← shape_iff] at h
  rw [h, show whenE (!true) 1 = 0 from rfl, firstE_cons0, firstE_map0 (fun x hx => by rw [srcE, if_pos (h0 x hx)]), firstE_cons0]
  cases numbersB c.kind c.rate c.mul c.div c.lock <;> rfl
theorem clockE_bad (h : (c.kind = 111 ∧ (c.src.length : Int) = 0) ∨ ((c.kind = 112 ∨ c.kind = 100 ∨ c.kind = 103) ∧ (c.src.length : Int) = 1) ∨ (c.kind = 109 ∧ 1 ≤ (c.src.length : Int) ∧ (c.src.length : Int) ≤ 4)) (h0 : ∀ x ∈ c.src, 0 ≤ x ∧ x < (nn : Int)) (hb : (c.kind = 111 ∧ (c.rate < 1 ∨ 1099511627776 < c.rate)) ∨ (c.kind = 112 ∧ (¬ (1 ≤ c.mul ∧ c.mul ≤ 1000) ∨ ¬ (1 ≤ c.div ∧ c.div ≤ 1000) ∨ ¬ (0 ≤ c.lock ∧ c.lock ≤ 20))) ∨ (c.kind = 100 ∧ ¬ (1 ≤ c.div ∧ c.div ≤ 1000))) : clockE nn c = 3 := by
  rw [clockE_num h h0, (numbers_iff _ _ _ _ _).2 hb]; rfl
theorem clockE_ok (h : (c.kind = 111 ∧ (c.src.length : Int) = 0) ∨ ((c.kind = 112 ∨ c.kind = 100 ∨ c.kind = 103) ∧ (c.src.length : Int) = 1) ∨ (c.kind = 109 ∧ 1 ≤ (c.src.length : Int) ∧ (c.src.length : Int) ≤ 4)) (h0 : ∀ x ∈ c.src, 0 ≤ x ∧ x < (nn : Int)) (hb : ¬ ((c.kind = 111 ∧ (c.rate < 1 ∨ 1099511627776 < c.rate)) ∨ (c.kind = 112 ∧ (¬ (1 ≤ c.mul ∧ c.mul ≤ 1000) ∨ ¬ (1 ≤ c.div ∧ c.div ≤ 1000) ∨ ¬ (0 ≤ c.lock ∧ c.lock ≤ 20))) ∨ (c.kind = 100 ∧ ¬ (1 ≤ c.div ∧ c.div ≤ 1000)))) : clockE nn c = 0 := by
  rw [clockE_num h h0]
  rw [← numbers_iff] at hb
  rw [show numbersB c.kind c.rate c.mul c.div c.lock = true by simpa using hb]; rfl
end

theorem refIn5_any (v n : Int) (w : World) : Calls Tryz.prog 124 #[.int .i64 v, .int .i64 n] w (Rt (.bool (decide (0 ≤ v ∧ v < n))) w) := by
  refine XK.enter (vs := [.int .i64 v, .int .i64 n]) Tryz.func124 rfl Tryz.ntmps124 (by simp) ?_
  refine XK.seq ?_

  refine XK.region ?_
  refine xk_assign rfl (by decide) ?_
  refine XK.nilN ?_
  refine XK.seq ?_

  refine XK.region ?_
  refine xk_move rfl (by decide) ?_
  refine xk_geq rfl rfl (by decide) ?_
  refine xk_move rfl (by decide) ?_
  refine xk_split (t := 7) rfl (fun hg => ?_) (fun hg => ?_)
  ·
    refine xk_guardT rfl rfl ?_; refine xk_move rfl (by decide) ?_
    refine xk_guardT rfl rfl ?_; refine xk_move rfl (by decide) ?_
    refine xk_guardT rfl rfl ?_; refine xk_lss rfl rfl (by decide) ?_
    (first | refine xk_pickT rfl rfl (by decide) ?_ | refine xk_pickF rfl rfl (by decide) ?_)
    refine xk_assign rfl (by decide) ?_
    refine XK.nilN ?_
    refine XK.ret ?_
    refine XK.norm ?_
    rw [show decide (0 ≤ v ∧ v < n) = decide (v < n) from decide_eq_decide.2 ⟨fun h => h.2, fun h => ⟨hg, h⟩⟩]
    exact XK.ret1 rfl rfl fun w1 st => ⟨rfl, st.below (by simp)⟩
  ·
    refine xk_guardF rfl rfl rfl (by decide) ?_
    refine xk_guardF rfl rfl rfl (by decide) ?_
    refine xk_guardF rfl rfl rfl (by decide) ?_
    (first | refine xk_pickT rfl rfl (by decide) ?_ | refine xk_pickF rfl rfl (by decide) ?_)
    refine xk_assign rfl (by decide) ?_
    refine XK.nilN ?_
    refine XK.ret ?_
    refine XK.norm ?_
    rw [show decide (0 ≤ v ∧ v < n) = false from decide_eq_false (fun h => hg h.1)]
    exact XK.ret1 rfl rfl fun w1 st => ⟨rfl, st.below (by simp)⟩

theorem refWithin5_any (v a b : Int) (w : World) : Calls Tryz.prog 89 #[.int .i64 v, .int .i64 a, .int .i64 b] w (Rt (.bool (decide (a ≤ v ∧ v ≤ b))) w) := by
  refine XK.enter (vs := [.int .i64 v, .int .i64 a, .int .i64 b]) Tryz.func89 rfl Tryz.ntmps89 (by simp) ?_
  refine XK.seq ?_

  refine XK.region ?_
  refine xk_assign rfl (by decide) ?_
  refine XK.nilN ?_
  refine XK.seq ?_

  refine XK.region ?_
  refine xk_move rfl (by decide) ?_
  refine xk_move rfl (by decide) ?_
  refine xk_geq rfl rfl (by decide) ?_
  refine xk_move rfl (by decide) ?_
  refine xk_split (t := 10) rfl (fun hg => ?_) (fun hg => ?_)
  ·
    refine xk_guardT rfl rfl ?_; refine xk_move rfl (by decide) ?_
    refine xk_guardT rfl rfl ?_; refine xk_move rfl (by decide) ?_
    refine xk_guardT rfl rfl ?_; refine xk_leq rfl rfl (by decide) ?_
    (first | refine xk_pickT rfl rfl (by decide) ?_ | refine xk_pickF rfl rfl (by decide) ?_)
    refine xk_assign rfl (by decide) ?_
    refine XK.nilN ?_
    refine XK.ret ?_
    refine XK.norm ?_
    rw [show decide (a ≤ v ∧ v ≤ b) = decide (v ≤ b) from decide_eq_decide.2 ⟨fun h => h.2, fun h => ⟨hg, h⟩⟩]
    exact XK.ret1 rfl rfl fun w1 st => ⟨rfl, st.below (by simp)⟩
  ·
    refine xk_guardF rfl rfl rfl (by decide) ?_
    refine xk_guardF rfl rfl rfl (by decide) ?_
    refine xk_guardF rfl rfl rfl (by decide) ?_
    (first | refine xk_pickT rfl rfl (by decide) ?_ | refine xk_pickF rfl rfl (by decide) ?_)
    refine xk_assign rfl (by decide) ?_
    refine XK.nilN ?_
    refine XK.ret ?_
    refine XK.norm ?_
    rw [show decide (a ≤ v ∧ v ≤ b) = false from decide_eq_false (fun h => hg h.1)]
    exact XK.ret1 rfl rfl fun w1 st => ⟨rfl, st.below (by simp)⟩

set_option maxHeartbeats 1000000 in
theorem refClockG_any (c : Clk) (nn : Nat) (As : Option Addr) (ns ks : Nat) (w : World) (hs : SlS (all w) 1 As ns (intCells c.src)) (hns : ns = c.src.length) (hn9 : ns ≤ 1000000) (hnn : nn ≤ 1000000) : Calls Tryz.prog 121 #[.agg #[.int .u8 c.kind, .slice As ns ks, .int .u64 c.rate, .int .i64 c.mul, .int .i64 c.div, .int .i64 c.lock], .int .i64 (nn : Int)] w (Rt (.int .i64 (clockE nn c)) w) := by
  refine XK.enter (vs := [.agg #[.int .u8 c.kind, .slice As ns ks, .int .u64 c.rate, .int .i64 c.mul, .int .i64 c.div, .int .i64 c.lock], .int .i64 (nn : Int)]) Tryz.func121 rfl Tryz.ntmps121 (by simp) ?_
  refine XK.seq ?_

  refine XK.region ?_
  refine xk_box rfl (by decide) fun g1 => ?_
  refine xk_assign rfl (by decide) ?_
  refine XK.nilN ?_
  refine XK.seq ?_

  refine XK.region ?_
  refine xk_field (off := 1) (by kernel_rfl) rfl (by decide) ?_
  refine xk_ld rfl ?_
  refine xk_len (el := 3) (by kernel_rfl) rfl (by decide) ?_
  refine xk_assign rfl (by decide) ?_
  refine XK.nilN ?_
  refine XK.cutB 6 ((c.kind = 111 ∧ (ns : Int) = 0) ∨ ((c.kind = 112 ∨ c.kind = 100 ∨ c.kind = 103) ∧ (ns : Int) = 1) ∨ (c.kind = 109 ∧ 1 ≤ (ns : Int) ∧ (ns : Int) ≤ 4)) ?_ ?_
  · skip

    refine XK.region ?_
    refine xk_field (off := 0) (by kernel_rfl) rfl (by decide) ?_
    refine xk_ld rfl ?_
    refine xk_eql rfl rfl (by decide) ?_
    refine xk_move rfl (by decide) ?_
    refine xk_split (t := 14) rfl (fun hg14 => ?_) (fun hg14 => ?_)
    ·
      refine xk_guardT rfl rfl ?_; refine xk_move rfl (by decide) ?_
      refine xk_guardT rfl rfl ?_; refine xk_eql rfl rfl (by decide) ?_
      (first | refine xk_pickT rfl rfl (by decide) ?_ | refine xk_pickF rfl rfl (by decide) ?_)
      refine xk_move rfl (by decide) ?_
      refine xk_split (t := 18) rfl (fun hg18 => ?_) (fun hg18 => ?_)
      ·
        refine xk_guardF rfl rfl rfl (by decide) ?_
        refine xk_guardF rfl rfl rfl (by decide) ?_
        refine xk_guardF rfl rfl rfl (by decide) ?_
        refine xk_guardF rfl rfl rfl (by decide) ?_
        refine xk_guardU rfl rfl (by decide) ?_
        refine xk_guardU rfl rfl (by decide) ?_
        refine xk_guardU rfl rfl (by decide) ?_
        refine xk_guardF rfl rfl rfl (by decide) ?_
        refine xk_guardF rfl rfl rfl (by decide) ?_
        refine xk_guardU rfl rfl (by decide) ?_
        refine xk_guardU rfl rfl (by decide) ?_
        refine xk_guardU rfl rfl (by decide) ?_
        refine xk_guardF rfl rfl rfl (by decide) ?_
        refine xk_guardF rfl rfl rfl (by decide) ?_
        refine xk_guardU rfl rfl (by decide) ?_
        refine xk_guardU rfl rfl (by decide) ?_
        refine xk_guardF rfl rfl rfl (by decide) ?_
        (first | refine xk_pickT rfl rfl (by decide) ?_ | refine xk_pickF rfl rfl (by decide) ?_)
        refine xk_move rfl (by decide) ?_
        refine xk_guardF rfl rfl rfl (by decide) ?_
        refine xk_guardF rfl rfl rfl (by decide) ?_
        refine xk_guardF rfl rfl rfl (by decide) ?_
        refine xk_guardF rfl rfl rfl (by decide) ?_
        refine xk_guardU rfl rfl (by decide) ?_
        refine xk_guardU rfl rfl (by decide) ?_
        refine xk_guardF rfl rfl rfl (by decide) ?_
        (first | refine xk_pickT rfl rfl (by decide) ?_ | refine xk_pickF rfl rfl (by decide) ?_)
        refine xk_assign rfl (by decide) ?_
        refine XK.nilN ?_
        exact XK.meetB (by repeat (first | exact trivial | refine ⟨rfl, ?_⟩)) (by first | (refine get_iff rfl ?_; omega) | (refine get_true rfl ?_; omega) | (refine get_false rfl ?_; omega))
      ·
        refine xk_guardT rfl rfl ?_; refine xk_field (off := 0) (by kernel_rfl) rfl (by decide) ?_
        refine xk_guardT rfl rfl ?_; refine xk_ld rfl ?_
        refine xk_guardT rfl rfl ?_; refine xk_eql rfl rfl (by decide) ?_
        refine xk_guardT rfl rfl ?_; refine xk_move rfl (by decide) ?_
        refine xk_split (t := 22) rfl (fun hg22 => ?_) (fun hg22 => ?_)
        ·
          refine xk_guardF rfl rfl rfl (by decide) ?_
          refine xk_guardF rfl rfl rfl (by decide) ?_
          refine xk_guardF rfl rfl rfl (by decide) ?_
          refine xk_guardT rfl rfl ?_; (first | refine xk_pickT rfl rfl (by decide) ?_ | refine xk_pickF rfl rfl (by decide) ?_)
          refine xk_guardT rfl rfl ?_; refine xk_move rfl (by decide) ?_
          refine xk_guardF rfl rfl rfl (by decide) ?_
          refine xk_guardF rfl rfl rfl (by decide) ?_
          refine xk_guardF rfl rfl rfl (by decide) ?_
          refine xk_guardT rfl rfl ?_; (first | refine xk_pickT rfl rfl (by decide) ?_ | refine xk_pickF rfl rfl (by decide) ?_)
          refine xk_guardT rfl rfl ?_; refine xk_move rfl (by decide) ?_
          refine xk_guardT rfl rfl ?_; refine xk_move rfl (by decide) ?_
          refine xk_guardT rfl rfl ?_; refine xk_eql rfl rfl (by decide) ?_
          refine xk_guardT rfl rfl ?_; (first | refine xk_pickT rfl rfl (by decide) ?_ | refine xk_pickF rfl rfl (by decide) ?_)
          (first | refine xk_pickT rfl rfl (by decide) ?_ | refine xk_pickF rfl rfl (by decide) ?_)
          refine xk_move rfl (by decide) ?_
          refine xk_split (t := 37) rfl (fun hg37 => ?_) (fun hg37 => ?_)
          ·
            refine xk_guardF rfl rfl rfl (by decide) ?_
            refine xk_guardF rfl rfl rfl (by decide) ?_
            refine xk_guardF rfl rfl rfl (by decide) ?_
            refine xk_guardF rfl rfl rfl (by decide) ?_
            refine xk_guardU rfl rfl (by decide) ?_
            refine xk_guardU rfl rfl (by decide) ?_
            refine xk_guardF rfl rfl rfl (by decide) ?_
            (first | refine xk_pickT rfl rfl (by decide) ?_ | refine xk_pickF rfl rfl (by decide) ?_)
            refine xk_assign rfl (by decide) ?_
            refine XK.nilN ?_
            exact XK.meetB (by repeat (first | exact trivial | refine ⟨rfl, ?_⟩)) (by first | (refine get_iff rfl ?_; omega) | (refine get_true rfl ?_; omega) | (refine get_false rfl ?_; omega))
          ·
            refine xk_guardT rfl rfl ?_; refine xk_field (off := 0) (by kernel_rfl) rfl (by decide) ?_
            refine xk_guardT rfl rfl ?_; refine xk_ld rfl ?_
            refine xk_guardT rfl rfl ?_; refine xk_eql rfl rfl (by decide) ?_
            refine xk_guardT rfl rfl ?_; refine xk_move rfl (by decide) ?_
            refine xk_split (t := 41) rfl (fun hg41 => ?_) (fun hg41 => ?_)
            ·
              refine xk_guardT rfl rfl ?_; refine xk_move rfl (by decide) ?_
              refine xk_guardT rfl rfl ?_; refine xk_callR (f := 89) (fi := []) (ca := []) (by kernel_rfl) rfl rfl (by decide) (fun w1 st => refWithin5_any _ _ _ w1) ?_
              refine xk_guardT rfl rfl ?_; (first | refine xk_pickT rfl rfl (by decide) ?_ | refine xk_pickF rfl rfl (by decide) ?_)
              (first | refine xk_pickT rfl rfl (by decide) ?_ | refine xk_pickF rfl rfl (by decide) ?_)
              refine xk_assign rfl (by decide) ?_
              refine XK.nilN ?_
              exact XK.meetB (by repeat (first | exact trivial | refine ⟨rfl, ?_⟩)) (by first | (refine get_iff rfl ?_; omega) | (refine get_true rfl ?_; omega) | (refine get_false rfl ?_; omega))
            ·
              refine xk_guardF rfl rfl rfl (by decide) ?_
              refine xk_guardF rfl rfl rfl (by decide) ?_
              refine xk_guardT rfl rfl ?_; (first | refine xk_pickT rfl rfl (by decide) ?_ | refine xk_pickF rfl rfl (by decide) ?_)
              (first | refine xk_pickT rfl rfl (by decide) ?_ | refine xk_pickF rfl rfl (by decide) ?_)
              refine xk_assign rfl (by decide) ?_
              refine XK.nilN ?_
              exact XK.meetB (by repeat (first | exact trivial | refine ⟨rfl, ?_⟩)) (by first | (refine get_iff rfl ?_; omega) | (refine get_true rfl ?_; omega) | (refine get_false rfl ?_; omega))
        ·
          refine xk_guardT rfl rfl ?_; refine xk_field (off := 0) (by kernel_rfl) rfl (by decide) ?_
          refine xk_guardT rfl rfl ?_; refine xk_ld rfl ?_
          refine xk_guardT rfl rfl ?_; refine xk_eql rfl rfl (by decide) ?_
          refine xk_guardT rfl rfl ?_; (first | refine xk_pickT rfl rfl (by decide) ?_ | refine xk_pickF rfl rfl (by decide) ?_)
          refine xk_guardT rfl rfl ?_; refine xk_move rfl (by decide) ?_
          refine xk_split (t := 27) rfl (fun hg27 => ?_) (fun hg27 => ?_)
          ·
            refine xk_guardF rfl rfl rfl (by decide) ?_
            refine xk_guardF rfl rfl rfl (by decide) ?_
            refine xk_guardF rfl rfl rfl (by decide) ?_
            refine xk_guardT rfl rfl ?_; (first | refine xk_pickT rfl rfl (by decide) ?_ | refine xk_pickF rfl rfl (by decide) ?_)
            refine xk_guardT rfl rfl ?_; refine xk_move rfl (by decide) ?_
            refine xk_guardT rfl rfl ?_; refine xk_move rfl (by decide) ?_
            refine xk_guardT rfl rfl ?_; refine xk_eql rfl rfl (by decide) ?_
            refine xk_guardT rfl rfl ?_; (first | refine xk_pickT rfl rfl (by decide) ?_ | refine xk_pickF rfl rfl (by decide) ?_)
            (first | refine xk_pickT rfl rfl (by decide) ?_ | refine xk_pickF rfl rfl (by decide) ?_)
            refine xk_move rfl (by decide) ?_
            refine xk_split (t := 37) rfl (fun hg37 => ?_) (fun hg37 => ?_)
            ·
              refine xk_guardF rfl rfl rfl (by decide) ?_
              refine xk_guardF rfl rfl rfl (by decide) ?_
              refine xk_guardF rfl rfl rfl (by decide) ?_
              refine xk_guardF rfl rfl rfl (by decide) ?_
              refine xk_guardU rfl rfl (by decide) ?_
              refine xk_guardU rfl rfl (by decide) ?_
              refine xk_guardF rfl rfl rfl (by decide) ?_
              (first | refine xk_pickT rfl rfl (by decide) ?_ | refine xk_pickF rfl rfl (by decide) ?_)
              refine xk_assign rfl (by decide) ?_
              refine XK.nilN ?_
              exact XK.meetB (by repeat (first | exact trivial | refine ⟨rfl, ?_⟩)) (by first | (refine get_iff rfl ?_; omega) | (refine get_true rfl ?_; omega) | (refine get_false rfl ?_; omega))
            ·
              refine xk_guardT rfl rfl ?_; refine xk_field (off := 0) (by kernel_rfl) rfl (by decide) ?_
              refine xk_guardT rfl rfl ?_; refine xk_ld rfl ?_
              refine xk_guardT rfl rfl ?_; refine xk_eql rfl rfl (by decide) ?_
              refine xk_guardT rfl rfl ?_; refine xk_move rfl (by decide) ?_
              refine xk_split (t := 41) rfl (fun hg41 => ?_) (fun hg41 => ?_)
              ·
                refine xk_guardT rfl rfl ?_; refine xk_move rfl (by decide) ?_
                refine xk_guardT rfl rfl ?_; refine xk_callR (f := 89) (fi := []) (ca := []) (by kernel_rfl) rfl rfl (by decide) (fun w1 st => refWithin5_any _ _ _ w1) ?_
                refine xk_guardT rfl rfl ?_; (first | refine xk_pickT rfl rfl (by decide) ?_ | refine xk_pickF rfl rfl (by decide) ?_)
                (first | refine xk_pickT rfl rfl (by decide) ?_ | refine xk_pickF rfl rfl (by decide) ?_)
                refine xk_assign rfl (by decide) ?_
                refine XK.nilN ?_
                exact XK.meetB (by repeat (first | exact trivial | refine ⟨rfl, ?_⟩)) (by first | (refine get_iff rfl ?_; omega) | (refine get_true rfl ?_; omega) | (refine get_false rfl ?_; omega))
              ·
                refine xk_guardF rfl rfl rfl (by decide) ?_
                refine xk_guardF rfl rfl rfl (by decide) ?_
                refine xk_guardT rfl rfl ?_; (first | refine xk_pickT rfl rfl (by decide) ?_ | refine xk_pickF rfl rfl (by decide) ?_)
                (first | refine xk_pickT rfl rfl (by decide) ?_ | refine xk_pickF rfl rfl (by decide) ?_)
                refine xk_assign rfl (by decide) ?_
                refine XK.nilN ?_
                exact XK.meetB (by repeat (first | exact trivial | refine ⟨rfl, ?_⟩)) (by first | (refine get_iff rfl ?_; omega) | (refine get_true rfl ?_; omega) | (refine get_false rfl ?_; omega))
          ·
            refine xk_guardT rfl rfl ?_; refine xk_field (off := 0) (by kernel_rfl) rfl (by decide) ?_
            refine xk_guardT rfl rfl ?_; refine xk_ld rfl ?_
            refine xk_guardT rfl rfl ?_; refine xk_eql rfl rfl (by decide) ?_
            refine xk_guardT rfl rfl ?_; (first | refine xk_pickT rfl rfl (by decide) ?_ | refine xk_pickF rfl rfl (by decide) ?_)
            refine xk_guardT rfl rfl ?_; refine xk_move rfl (by decide) ?_
            refine xk_split (t := 32) rfl (fun hg32 => ?_) (fun hg32 => ?_)
            ·
              refine xk_guardT rfl rfl ?_; refine xk_move rfl (by decide) ?_
              refine xk_guardT rfl rfl ?_; refine xk_eql rfl rfl (by decide) ?_
              refine xk_guardT rfl rfl ?_; (first | refine xk_pickT rfl rfl (by decide) ?_ | refine xk_pickF rfl rfl (by decide) ?_)
              (first | refine xk_pickT rfl rfl (by decide) ?_ | refine xk_pickF rfl rfl (by decide) ?_)
              refine xk_move rfl (by decide) ?_
              refine xk_split (t := 37) rfl (fun hg37 => ?_) (fun hg37 => ?_)
              ·
                refine xk_guardF rfl rfl rfl (by decide) ?_
                refine xk_guardF rfl rfl rfl (by decide) ?_
                refine xk_guardF rfl rfl rfl (by decide) ?_
                refine xk_guardF rfl rfl rfl (by decide) ?_
                refine xk_guardU rfl rfl (by decide) ?_
                refine xk_guardU rfl rfl (by decide) ?_
                refine xk_guardF rfl rfl rfl (by decide) ?_
                (first | refine xk_pickT rfl rfl (by decide) ?_ | refine xk_pickF rfl rfl (by decide) ?_)
                refine xk_assign rfl (by decide) ?_
                refine XK.nilN ?_
                exact XK.meetB (by repeat (first | exact trivial | refine ⟨rfl, ?_⟩)) (by first | (refine get_iff rfl ?_; omega) | (refine get_true rfl ?_; omega) | (refine get_false rfl ?_; omega))
              ·
                refine xk_guardT rfl rfl ?_; refine xk_field (off := 0) (by kernel_rfl) rfl (by decide) ?_
                refine xk_guardT rfl rfl ?_; refine xk_ld rfl ?_
                refine xk_guardT rfl rfl ?_; refine xk_eql rfl rfl (by decide) ?_
                refine xk_guardT rfl rfl ?_; refine xk_move rfl (by decide) ?_
                refine xk_split (t := 41) rfl (fun hg41 => ?_) (fun hg41 => ?_)
                ·
                  refine xk_guardT rfl rfl ?_; refine xk_move rfl (by decide) ?_
                  refine xk_guardT rfl rfl ?_; refine xk_callR (f := 89) (fi := []) (ca := []) (by kernel_rfl) rfl rfl (by decide) (fun w1 st => refWithin5_any _ _ _ w1) ?_
                  refine xk_guardT rfl rfl ?_; (first | refine xk_pickT rfl rfl (by decide) ?_ | refine xk_pickF rfl rfl (by decide) ?_)
                  (first | refine xk_pickT rfl rfl (by decide) ?_ | refine xk_pickF rfl rfl (by decide) ?_)
                  refine xk_assign rfl (by decide) ?_
                  refine XK.nilN ?_
                  exact XK.meetB (by repeat (first | exact trivial | refine ⟨rfl, ?_⟩)) (by first | (refine get_iff rfl ?_; omega) | (refine get_true rfl ?_; omega) | (refine get_false rfl ?_; omega))
                ·
                  refine xk_guardF rfl rfl rfl (by decide) ?_
                  refine xk_guardF rfl rfl rfl (by decide) ?_
                  refine xk_guardT rfl rfl ?_; (first | refine xk_pickT rfl rfl (by decide) ?_ | refine xk_pickF rfl rfl (by decide) ?_)
                  (first | refine xk_pickT rfl rfl (by decide) ?_ | refine xk_pickF rfl rfl (by decide) ?_)
                  refine xk_assign rfl (by decide) ?_
                  refine XK.nilN ?_
                  exact XK.meetB (by repeat (first | exact trivial | refine ⟨rfl, ?_⟩)) (by first | (refine get_iff rfl ?_; omega) | (refine get_true rfl ?_; omega) | (refine get_false rfl ?_; omega))
            ·
              refine xk_guardF rfl rfl rfl (by decide) ?_
              refine xk_guardF rfl rfl rfl (by decide) ?_
              refine xk_guardT rfl rfl ?_; (first | refine xk_pickT rfl rfl (by decide) ?_ | refine xk_pickF rfl rfl (by decide) ?_)
              (first | refine xk_pickT rfl rfl (by decide) ?_ | refine xk_pickF rfl rfl (by decide) ?_)
              refine xk_move rfl (by decide) ?_
              refine xk_guardT rfl rfl ?_; refine xk_field (off := 0) (by kernel_rfl) rfl (by decide) ?_
              refine xk_guardT rfl rfl ?_; refine xk_ld rfl ?_
              refine xk_guardT rfl rfl ?_; refine xk_eql rfl rfl (by decide) ?_
              refine xk_guardT rfl rfl ?_; refine xk_move rfl (by decide) ?_
              refine xk_split (t := 41) rfl (fun hg41 => ?_) (fun hg41 => ?_)
              ·
                refine xk_guardT rfl rfl ?_; refine xk_move rfl (by decide) ?_
                refine xk_guardT rfl rfl ?_; refine xk_callR (f := 89) (fi := []) (ca := []) (by kernel_rfl) rfl rfl (by decide) (fun w1 st => refWithin5_any _ _ _ w1) ?_
                refine xk_guardT rfl rfl ?_; (first | refine xk_pickT rfl rfl (by decide) ?_ | refine xk_pickF rfl rfl (by decide) ?_)
                (first | refine xk_pickT rfl rfl (by decide) ?_ | refine xk_pickF rfl rfl (by decide) ?_)
                refine xk_assign rfl (by decide) ?_
                refine XK.nilN ?_
                exact XK.meetB (by repeat (first | exact trivial | refine ⟨rfl, ?_⟩)) (by first | (refine get_iff rfl ?_; omega) | (refine get_true rfl ?_; omega) | (refine get_false rfl ?_; omega))
              ·
                refine xk_guardF rfl rfl rfl (by decide) ?_
                refine xk_guardF rfl rfl rfl (by decide) ?_
                refine xk_guardT rfl rfl ?_; (first | refine xk_pickT rfl rfl (by decide) ?_ | refine xk_pickF rfl rfl (by decide) ?_)
                (first | refine xk_pickT rfl rfl (by decide) ?_ | refine xk_pickF rfl rfl (by decide) ?_)
                refine xk_assign rfl (by decide) ?_
                refine XK.nilN ?_
                exact XK.meetB (by repeat (first | exact trivial | refine ⟨rfl, ?_⟩)) (by first | (refine get_iff rfl ?_; omega) | (refine get_true rfl ?_; omega) | (refine get_false rfl ?_; omega))
    ·
      refine xk_guardF rfl rfl rfl (by decide) ?_
      refine xk_guardF rfl rfl rfl (by decide) ?_
      (first | refine xk_pickT rfl rfl (by decide) ?_ | refine xk_pickF rfl rfl (by decide) ?_)
      refine xk_move rfl (by decide) ?_
      refine xk_guardT rfl rfl ?_; refine xk_field (off := 0) (by kernel_rfl) rfl (by decide) ?_
      refine xk_guardT rfl rfl ?_; refine xk_ld rfl ?_
      refine xk_guardT rfl rfl ?_; refine xk_eql rfl rfl (by decide) ?_
      refine xk_guardT rfl rfl ?_; refine xk_move rfl (by decide) ?_
      refine xk_split (t := 22) rfl (fun hg22 => ?_) (fun hg22 => ?_)
      ·
        refine xk_guardF rfl rfl rfl (by decide) ?_
        refine xk_guardF rfl rfl rfl (by decide) ?_
        refine xk_guardF rfl rfl rfl (by decide) ?_
        refine xk_guardT rfl rfl ?_; (first | refine xk_pickT rfl rfl (by decide) ?_ | refine xk_pickF rfl rfl (by decide) ?_)
        refine xk_guardT rfl rfl ?_; refine xk_move rfl (by decide) ?_
        refine xk_guardF rfl rfl rfl (by decide) ?_
        refine xk_guardF rfl rfl rfl (by decide) ?_
        refine xk_guardF rfl rfl rfl (by decide) ?_
        refine xk_guardT rfl rfl ?_; (first | refine xk_pickT rfl rfl (by decide) ?_ | refine xk_pickF rfl rfl (by decide) ?_)
        refine xk_guardT rfl rfl ?_; refine xk_move rfl (by decide) ?_
        refine xk_guardT rfl rfl ?_; refine xk_move rfl (by decide) ?_
        refine xk_guardT rfl rfl ?_; refine xk_eql rfl rfl (by decide) ?_
        refine xk_guardT rfl rfl ?_; (first | refine xk_pickT rfl rfl (by decide) ?_ | refine xk_pickF rfl rfl (by decide) ?_)
        (first | refine xk_pickT rfl rfl (by decide) ?_ | refine xk_pickF rfl rfl (by decide) ?_)
        refine xk_move rfl (by decide) ?_
        refine xk_split (t := 37) rfl (fun hg37 => ?_) (fun hg37 => ?_)
        ·
          refine xk_guardF rfl rfl rfl (by decide) ?_
          refine xk_guardF rfl rfl rfl (by decide) ?_
          refine xk_guardF rfl rfl rfl (by decide) ?_
          refine xk_guardF rfl rfl rfl (by decide) ?_
          refine xk_guardU rfl rfl (by decide) ?_
          refine xk_guardU rfl rfl (by decide) ?_
          refine xk_guardF rfl rfl rfl (by decide) ?_
          (first | refine xk_pickT rfl rfl (by decide) ?_ | refine xk_pickF rfl rfl (by decide) ?_)
          refine xk_assign rfl (by decide) ?_
          refine XK.nilN ?_
          exact XK.meetB (by repeat (first | exact trivial | refine ⟨rfl, ?_⟩)) (by first | (refine get_iff rfl ?_; omega) | (refine get_true rfl ?_; omega) | (refine get_false rfl ?_; omega))
        ·
          refine xk_guardT rfl rfl ?_; refine xk_field (off := 0) (by kernel_rfl) rfl (by decide) ?_
          refine xk_guardT rfl rfl ?_; refine xk_ld rfl ?_
          refine xk_guardT rfl rfl ?_; refine xk_eql rfl rfl (by decide) ?_
          refine xk_guardT rfl rfl ?_; refine xk_move rfl (by decide) ?_
          refine xk_split (t := 41) rfl (fun hg41 => ?_) (fun hg41 => ?_)
          ·
            refine xk_guardT rfl rfl ?_; refine xk_move rfl (by decide) ?_
            refine xk_guardT rfl rfl ?_; refine xk_callR (f := 89) (fi := []) (ca := []) (by kernel_rfl) rfl rfl (by decide) (fun w1 st => refWithin5_any _ _ _ w1) ?_
            refine xk_guardT rfl rfl ?_; (first | refine xk_pickT rfl rfl (by decide) ?_ | refine xk_pickF rfl rfl (by decide) ?_)
            (first | refine xk_pickT rfl rfl (by decide) ?_ | refine xk_pickF rfl rfl (by decide) ?_)
            refine xk_assign rfl (by decide) ?_
            refine XK.nilN ?_
            exact XK.meetB (by repeat (first | exact trivial | refine ⟨rfl, ?_⟩)) (by first | (refine get_iff rfl ?_; omega) | (refine get_true rfl ?_; omega) | (refine get_false rfl ?_; omega))
          ·
            refine xk_guardF rfl rfl rfl (by decide) ?_
            refine xk_guardF rfl rfl rfl (by decide) ?_
            refine xk_guardT rfl rfl ?_; (first | refine xk_pickT rfl rfl (by decide) ?_ | refine xk_pickF rfl rfl (by decide) ?_)
            (first | refine xk_pickT rfl rfl (by decide) ?_ | refine xk_pickF rfl rfl (by decide) ?_)
            refine xk_assign rfl (by decide) ?_
            refine XK.nilN ?_
            exact XK.meetB (by repeat (first | exact trivial | refine ⟨rfl, ?_⟩)) (by first | (refine get_iff rfl ?_; omega) | (refine get_true rfl ?_; omega) | (refine get_false rfl ?_; omega))
      ·
        refine xk_guardT rfl rfl ?_; refine xk_field (off := 0) (by kernel_rfl) rfl (by decide) ?_
        refine xk_guardT rfl rfl ?_; refine xk_ld rfl ?_
        refine xk_guardT rfl rfl ?_; refine xk_eql rfl rfl (by decide) ?_
        refine xk_guardT rfl rfl ?_; (first | refine xk_pickT rfl rfl (by decide) ?_ | refine xk_pickF rfl rfl (by decide) ?_)
        refine xk_guardT rfl rfl ?_; refine xk_move rfl (by decide) ?_
        refine xk_split (t := 27) rfl (fun hg27 => ?_) (fun hg27 => ?_)
        ·
          refine xk_guardF rfl rfl rfl (by decide) ?_
          refine xk_guardF rfl rfl rfl (by decide) ?_
          refine xk_guardF rfl rfl rfl (by decide) ?_
          refine xk_guardT rfl rfl ?_; (first | refine xk_pickT rfl rfl (by decide) ?_ | refine xk_pickF rfl rfl (by decide) ?_)
          refine xk_guardT rfl rfl ?_; refine xk_move rfl (by decide) ?_
          refine xk_guardT rfl rfl ?_; refine xk_move rfl (by decide) ?_
          refine xk_guardT rfl rfl ?_; refine xk_eql rfl rfl (by decide) ?_
          refine xk_guardT rfl rfl ?_; (first | refine xk_pickT rfl rfl (by decide) ?_ | refine xk_pickF rfl rfl (by decide) ?_)
          (first | refine xk_pickT rfl rfl (by decide) ?_ | refine xk_pickF rfl rfl (by decide) ?_)
          refine xk_move rfl (by decide) ?_
          refine xk_split (t := 37) rfl (fun hg37 => ?_) (fun hg37 => ?_)
          ·
            refine xk_guardF rfl rfl rfl (by decide) ?_
            refine xk_guardF rfl rfl rfl (by decide) ?_
            refine xk_guardF rfl rfl rfl (by decide) ?_
            refine xk_guardF rfl rfl rfl (by decide) ?_
            refine xk_guardU rfl rfl (by decide) ?_
            refine xk_guardU rfl rfl (by decide) ?_
            refine xk_guardF rfl rfl rfl (by decide) ?_
            (first | refine xk_pickT rfl rfl (by decide) ?_ | refine xk_pickF rfl rfl (by decide) ?_)
            refine xk_assign rfl (by decide) ?_
            refine XK.nilN ?_
            exact XK.meetB (by repeat (first | exact trivial | refine ⟨rfl, ?_⟩)) (by first | (refine get_iff rfl ?_; omega) | (refine get_true rfl ?_; omega) | (refine get_false rfl ?_; omega))
          ·
            refine xk_guardT rfl rfl ?_; refine xk_field (off := 0) (by kernel_rfl) rfl (by decide) ?_
            refine xk_guardT rfl rfl ?_; refine xk_ld rfl ?_
            refine xk_guardT rfl rfl ?_; refine xk_eql rfl rfl (by decide) ?_
            refine xk_guardT rfl rfl ?_; refine xk_move rfl (by decide) ?_
            refine xk_split (t := 41) rfl (fun hg41 => ?_) (fun hg41 => ?_)
            ·
              refine xk_guardT rfl rfl ?_; refine xk_move rfl (by decide) ?_
              refine xk_guardT rfl rfl ?_; refine xk_callR (f := 89) (fi := []) (ca := []) (by kernel_rfl) rfl rfl (by decide) (fun w1 st => refWithin5_any _ _ _ w1) ?_
              refine xk_guardT rfl rfl ?_; (first | refine xk_pickT rfl rfl (by decide) ?_ | refine xk_pickF rfl rfl (by decide) ?_)
              (first | refine xk_pickT rfl rfl (by decide) ?_ | refine xk_pickF rfl rfl (by decide) ?_)
              refine xk_assign rfl (by decide) ?_
              refine XK.nilN ?_
              exact XK.meetB (by repeat (first | exact trivial | refine ⟨rfl, ?_⟩)) (by first | (refine get_iff rfl ?_; omega) | (refine get_true rfl ?_; omega) | (refine get_false rfl ?_; omega))
            ·
              refine xk_guardF rfl rfl rfl (by decide) ?_
              refine xk_guardF rfl rfl rfl (by decide) ?_
              refine xk_guardT rfl rfl ?_; (first | refine xk_pickT rfl rfl (by decide) ?_ | refine xk_pickF rfl rfl (by decide) ?_)
              (first | refine xk_pickT rfl rfl (by decide) ?_ | refine xk_pickF rfl rfl (by decide) ?_)
              refine xk_assign rfl (by decide) ?_
              refine XK.nilN ?_
              exact XK.meetB (by repeat (first | exact trivial | refine ⟨rfl, ?_⟩)) (by first | (refine get_iff rfl ?_; omega) | (refine get_true rfl ?_; omega) | (refine get_false rfl ?_; omega))
        ·
          refine xk_guardT rfl rfl ?_; refine xk_field (off := 0) (by kernel_rfl) rfl (by decide) ?_
          refine xk_guardT rfl rfl ?_; refine xk_ld rfl ?_
          refine xk_guardT rfl rfl ?_; refine xk_eql rfl rfl (by decide) ?_
          refine xk_guardT rfl rfl ?_; (first | refine xk_pickT rfl rfl (by decide) ?_ | refine xk_pickF rfl rfl (by decide) ?_)
          refine xk_guardT rfl rfl ?_; refine xk_move rfl (by decide) ?_
          refine xk_split (t := 32) rfl (fun hg32 => ?_) (fun hg32 => ?_)
          ·
            refine xk_guardT rfl rfl ?_; refine xk_move rfl (by decide) ?_
            refine xk_guardT rfl rfl ?_; refine xk_eql rfl rfl (by decide) ?_
            refine xk_guardT rfl rfl ?_; (first | refine xk_pickT rfl rfl (by decide) ?_ | refine xk_pickF rfl rfl (by decide) ?_)
            (first | refine xk_pickT rfl rfl (by decide) ?_ | refine xk_pickF rfl rfl (by decide) ?_)
            refine xk_move rfl (by decide) ?_
            refine xk_split (t := 37) rfl (fun hg37 => ?_) (fun hg37 => ?_)
            ·
              refine xk_guardF rfl rfl rfl (by decide) ?_
              refine xk_guardF rfl rfl rfl (by decide) ?_
              refine xk_guardF rfl rfl rfl (by decide) ?_
              refine xk_guardF rfl rfl rfl (by decide) ?_
              refine xk_guardU rfl rfl (by decide) ?_
              refine xk_guardU rfl rfl (by decide) ?_
              refine xk_guardF rfl rfl rfl (by decide) ?_
              (first | refine xk_pickT rfl rfl (by decide) ?_ | refine xk_pickF rfl rfl (by decide) ?_)
              refine xk_assign rfl (by decide) ?_
              refine XK.nilN ?_
              exact XK.meetB (by repeat (first | exact trivial | refine ⟨rfl, ?_⟩)) (by first | (refine get_iff rfl ?_; omega) | (refine get_true rfl ?_; omega) | (refine get_false rfl ?_; omega))
            ·
              refine xk_guardT rfl rfl ?_; refine xk_field (off := 0) (by kernel_rfl) rfl (by decide) ?_
              refine xk_guardT rfl rfl ?_; refine xk_ld rfl ?_
              refine xk_guardT rfl rfl ?_; refine xk_eql rfl rfl (by decide) ?_
              refine xk_guardT rfl rfl ?_; refine xk_move rfl (by decide) ?_
              refine xk_split (t := 41) rfl (fun hg41 => ?_) (fun hg41 => ?_)
              ·
                refine xk_guardT rfl rfl ?_; refine xk_move rfl (by decide) ?_
                refine xk_guardT rfl rfl ?_; refine xk_callR (f := 89) (fi := []) (ca := []) (by kernel_rfl) rfl rfl (by decide) (fun w1 st => refWithin5_any _ _ _ w1) ?_
                refine xk_guardT rfl rfl ?_; (first | refine xk_pickT rfl rfl (by decide) ?_ | refine xk_pickF rfl rfl (by decide) ?_)
                (first | refine xk_pickT rfl rfl (by decide) ?_ | refine xk_pickF rfl rfl (by decide) ?_)
                refine xk_assign rfl (by decide) ?_
                refine XK.nilN ?_
                exact XK.meetB (by repeat (first | exact trivial | refine ⟨rfl, ?_⟩)) (by first | (refine get_iff rfl ?_; omega) | (refine get_true rfl ?_; omega) | (refine get_false rfl ?_; omega))
              ·
                refine xk_guardF rfl rfl rfl (by decide) ?_
                refine xk_guardF rfl rfl rfl (by decide) ?_
                refine xk_guardT rfl rfl ?_; (first | refine xk_pickT rfl rfl (by decide) ?_ | refine xk_pickF rfl rfl (by decide) ?_)
                (first | refine xk_pickT rfl rfl (by decide) ?_ | refine xk_pickF rfl rfl (by decide) ?_)
                refine xk_assign rfl (by decide) ?_
                refine XK.nilN ?_
                exact XK.meetB (by repeat (first | exact trivial | refine ⟨rfl, ?_⟩)) (by first | (refine get_iff rfl ?_; omega) | (refine get_true rfl ?_; omega) | (refine get_false rfl ?_; omega))
          ·
            refine xk_guardF rfl rfl rfl (by decide) ?_
            refine xk_guardF rfl rfl rfl (by decide) ?_
            refine xk_guardT rfl rfl ?_; (first | refine xk_pickT rfl rfl (by decide) ?_ | refine xk_pickF rfl rfl (by decide) ?_)
            (first | refine xk_pickT rfl rfl (by decide) ?_ | refine xk_pickF rfl rfl (by decide) ?_)
            refine xk_move rfl (by decide) ?_
            refine xk_guardT rfl rfl ?_; refine xk_field (off := 0) (by kernel_rfl) rfl (by decide) ?_
            refine xk_guardT rfl rfl ?_; refine xk_ld rfl ?_
            refine xk_guardT rfl rfl ?_; refine xk_eql rfl rfl (by decide) ?_
            refine xk_guardT rfl rfl ?_; refine xk_move rfl (by decide) ?_
            refine xk_split (t := 41) rfl (fun hg41 => ?_) (fun hg41 => ?_)
            ·
              refine xk_guardT rfl rfl ?_; refine xk_move rfl (by decide) ?_
              refine xk_guardT rfl rfl ?_; refine xk_callR (f := 89) (fi := []) (ca := []) (by kernel_rfl) rfl rfl (by decide) (fun w1 st => refWithin5_any _ _ _ w1) ?_
              refine xk_guardT rfl rfl ?_; (first | refine xk_pickT rfl rfl (by decide) ?_ | refine xk_pickF rfl rfl (by decide) ?_)
              (first | refine xk_pickT rfl rfl (by decide) ?_ | refine xk_pickF rfl rfl (by decide) ?_)
              refine xk_assign rfl (by decide) ?_
              refine XK.nilN ?_
              exact XK.meetB (by repeat (first | exact trivial | refine ⟨rfl, ?_⟩)) (by first | (refine get_iff rfl ?_; omega) | (refine get_true rfl ?_; omega) | (refine get_false rfl ?_; omega))
            ·
              refine xk_guardF rfl rfl rfl (by decide) ?_
              refine xk_guardF rfl rfl rfl (by decide) ?_
              refine xk_guardT rfl rfl ?_; (first | refine xk_pickT rfl rfl (by decide) ?_ | refine xk_pickF rfl rfl (by decide) ?_)
              (first | refine xk_pickT rfl rfl (by decide) ?_ | refine xk_pickF rfl rfl (by decide) ?_)
              refine xk_assign rfl (by decide) ?_
              refine XK.nilN ?_
              exact XK.meetB (by repeat (first | exact trivial | refine ⟨rfl, ?_⟩)) (by first | (refine get_iff rfl ?_; omega) | (refine get_true rfl ?_; omega) | (refine get_false rfl ?_; omega))
  refine XK.seq ?_
  refine XK.seq ?_

  refine XK.region ?_
  refine xk_move rfl (by decide) ?_
  refine xk_notD rfl (by decide) ?_
  refine XK.nilN ?_
  refine XK.if_ rfl (fun hF => ?_) (fun hF => ?_)
  ·
    refine XK.seq ?_

    refine XK.region ?_
    refine xk_assign rfl (by decide) ?_
    refine XK.nilN ?_
    refine XK.ret ?_
    refine XK.norm ?_
    rw [clockE_form (by rw [← hns]; exact hF)]
    exact XK.ret1 rfl rfl fun w1 st => ⟨rfl, st.below (by simp)⟩
  ·
    refine XK.skip ?_
    refine XK.norm ?_
    refine XK.seq ?_
    refine XK.seq ?_
    have hF' : (c.kind = 111 ∧ (c.src.length : Int) = 0) ∨ ((c.kind = 112 ∨ c.kind = 100 ∨ c.kind = 103) ∧ (c.src.length : Int) = 1) ∨ (c.kind = 109 ∧ 1 ≤ (c.src.length : Int) ∧ (c.src.length : Int) ≤ 4) := by rw [← hns]; exact Classical.not_not.1 hF

    refine XK.region ?_
    refine xk_assign rfl (by decide) ?_
    refine XK.nilN ?_
    refine XK.envS [(7, .int .i64 0), (5, .int .i64 ns), (2, .pointer (some ⟨g1, 0, none⟩)), (1, .int .i64 nn)] ?_
    refine XK.block ?_
    refine XK.loop (fun m e R H => ∃ (i : Nat), i ≤ ns ∧ (∀ x ∈ c.src.take i, 0 ≤ x ∧ x < (nn : Int)) ∧ m = ns - i ∧ e = [(7, .int .i64 i), (5, .int .i64 ns), (2, .pointer (some ⟨g1, 0, none⟩)), (1, .int .i64 nn)] ∧ R = [all w] ∧ H = [HP.blk g1 55 [.int .u8 c.kind, .slice As ns ks, .int .u64 c.rate, .int .i64 c.mul, .int .i64 c.div, .int .i64 c.lock]]) ns ⟨0, by omega, by simp, rfl, rfl, rfl, rfl⟩ fun m e R H hI => ?_
    obtain ⟨i, hi, hpre, rfl, rfl, rfl, rfl⟩ := hI
    refine XK.seq ?_
    refine XK.seq ?_

    refine XK.region ?_
    refine xk_move rfl (by decide) ?_
    refine xk_move rfl (by decide) ?_
    refine xk_lss rfl rfl (by decide) ?_
    refine XK.nilN ?_
    refine XK.if_ rfl (fun hil => ?_) (fun hil => ?_)
    ·
      refine XK.skip ?_
      refine XK.norm ?_
      refine XK.seq ?_
      refine XK.block ?_
      refine XK.seq ?_
      have hil' : i < ns := by have h' : (i : Int) < (ns : Int) := hil; omega
      obtain ⟨y, hy⟩ : ∃ y, c.src[i]? = some y := ⟨_, List.getElem?_eq_getElem (by omega)⟩
      obtain ⟨bI, oI, hAI, hcI⟩ := hs.intR (by omega)
      subst hAI
      have hcy := hcI i y hy

      refine XK.region ?_
      refine xk_field (off := 1) (by kernel_rfl) rfl (by decide) ?_
      refine xk_ld rfl ?_
      refine xk_move rfl (by decide) ?_
      refine xk_at (i) (oI + i) (el := 3) (sz := 1) (by kernel_rfl) (by kernel_rfl) rfl rfl (by omega) (by omega) (by omega) (by decide) ?_
      refine xk_load (by kernel_rfl) rfl (Rd.roc (by simp) hcy) (by decide) ?_
      refine xk_move rfl (by decide) ?_
      refine xk_callR (f := 124) (fi := []) (ca := []) (by kernel_rfl) rfl rfl (by decide) (fun w1 st => refIn5_any _ _ w1) ?_
      refine xk_notD rfl (by decide) ?_
      refine XK.nilN ?_
      refine XK.if_ rfl (fun hyn => ?_) (fun hyn => ?_)
      ·
        refine XK.seq ?_

        refine XK.region ?_
        refine xk_assign rfl (by decide) ?_
        refine XK.nilN ?_
        refine XK.ret ?_
        refine XK.norm ?_
        rw [clockE_src hF' hy hpre hyn]
        exact XK.ret1 rfl rfl fun w1 st => ⟨rfl, st.below (by simp)⟩
      ·
        refine XK.skip ?_
        refine XK.norm ?_

        refine XK.region ?_
        refine xk_move rfl (by decide) ?_
        refine xk_add rfl rfl (wrap_in (by omega)) (by decide) ?_
        refine xk_assign rfl (by decide) ?_
        refine XK.nilN ?_
        exact XK.envS [(7, .int .i64 ((i : Int) + 1)), (5, .int .i64 ns), (2, .pointer (some ⟨g1, 0, none⟩)), (1, .int .i64 nn)] (XK.round (ns - (i + 1)) (by omega) ⟨i + 1, by omega, take_snoc hy hpre (Classical.not_not.1 hyn), rfl, rfl, rfl, rfl⟩)
    ·
      refine XK.exit ?_
      refine XK.norm ?_
      refine XK.seq ?_
      have hall := take_all (by omega) hpre
      refine XK.cutB 73 (c.kind = 111 ∧ (c.rate < 1 ∨ 1099511627776 < c.rate)) ?_ ?_
      · skip

        refine XK.region ?_
        refine xk_field (off := 0) (by kernel_rfl) rfl (by decide) ?_
        refine xk_ld rfl ?_
        refine xk_eql rfl rfl (by decide) ?_
        refine xk_move rfl (by decide) ?_
        refine xk_split (t := 64) rfl (fun hg64 => ?_) (fun hg64 => ?_)
        ·
          refine xk_guardT rfl rfl ?_; refine xk_field (off := 2) (by kernel_rfl) rfl (by decide) ?_
          refine xk_guardT rfl rfl ?_; refine xk_ld rfl ?_
          refine xk_guardT rfl rfl ?_; refine xk_lss rfl rfl (by decide) ?_
          refine xk_guardT rfl rfl ?_; refine xk_move rfl (by decide) ?_
          refine xk_split (t := 68) rfl (fun hg68 => ?_) (fun hg68 => ?_)
          ·
            refine xk_guardF rfl rfl rfl (by decide) ?_
            refine xk_guardF rfl rfl rfl (by decide) ?_
            refine xk_guardF rfl rfl rfl (by decide) ?_
            refine xk_guardT rfl rfl ?_; (first | refine xk_pickT rfl rfl (by decide) ?_ | refine xk_pickF rfl rfl (by decide) ?_)
            (first | refine xk_pickT rfl rfl (by decide) ?_ | refine xk_pickF rfl rfl (by decide) ?_)
            refine XK.nilN ?_
            exact XK.meetB (by repeat (first | exact trivial | refine ⟨rfl, ?_⟩)) (by first | (refine get_iff rfl ?_; omega) | (refine get_true rfl ?_; omega) | (refine get_false rfl ?_; omega))
          ·
            refine xk_guardT rfl rfl ?_; refine xk_field (off := 2) (by kernel_rfl) rfl (by decide) ?_
            refine xk_guardT rfl rfl ?_; refine xk_ld rfl ?_
            refine xk_guardT rfl rfl ?_; refine xk_gtr rfl rfl (by decide) ?_
            refine xk_guardT rfl rfl ?_; (first | refine xk_pickT rfl rfl (by decide) ?_ | refine xk_pickF rfl rfl (by decide) ?_)
            (first | refine xk_pickT rfl rfl (by decide) ?_ | refine xk_pickF rfl rfl (by decide) ?_)
            refine XK.nilN ?_
            exact XK.meetB (by repeat (first | exact trivial | refine ⟨rfl, ?_⟩)) (by first | (refine get_iff rfl ?_; omega) | (refine get_true rfl ?_; omega) | (refine get_false rfl ?_; omega))
        ·
          refine xk_guardF rfl rfl rfl (by decide) ?_
          refine xk_guardF rfl rfl rfl (by decide) ?_
          refine xk_guardF rfl rfl rfl (by decide) ?_
          refine xk_guardF rfl rfl rfl (by decide) ?_
          refine xk_guardU rfl rfl (by decide) ?_
          refine xk_guardU rfl rfl (by decide) ?_
          refine xk_guardU rfl rfl (by decide) ?_
          refine xk_guardF rfl rfl rfl (by decide) ?_
          (first | refine xk_pickT rfl rfl (by decide) ?_ | refine xk_pickF rfl rfl (by decide) ?_)
          refine XK.nilN ?_
          exact XK.meetB (by repeat (first | exact trivial | refine ⟨rfl, ?_⟩)) (by first | (refine get_iff rfl ?_; omega) | (refine get_true rfl ?_; omega) | (refine get_false rfl ?_; omega))
      refine XK.if_ rfl (fun h73 => ?_) (fun h73 => ?_)
      ·
        refine XK.seq ?_

        refine XK.region ?_
        refine xk_assign rfl (by decide) ?_
        refine XK.nilN ?_
        refine XK.ret ?_
        refine XK.norm ?_
        rw [clockE_bad hF' hall (.inl h73)]
        exact XK.ret1 rfl rfl fun w1 st => ⟨rfl, st.below (by simp)⟩
      ·
        refine XK.skip ?_
        refine XK.norm ?_
        refine XK.seq ?_
        refine XK.cutB 94 (c.kind = 112 ∧ (¬ (1 ≤ c.mul ∧ c.mul ≤ 1000) ∨ ¬ (1 ≤ c.div ∧ c.div ≤ 1000) ∨ ¬ (0 ≤ c.lock ∧ c.lock ≤ 20))) ?_ ?_
        · skip

          refine XK.region ?_
          refine xk_field (off := 0) (by kernel_rfl) rfl (by decide) ?_
          refine xk_ld rfl ?_
          refine xk_eql rfl rfl (by decide) ?_
          refine xk_move rfl (by decide) ?_
          refine xk_split (t := 77) rfl (fun hg77 => ?_) (fun hg77 => ?_)
          ·
            refine xk_guardT rfl rfl ?_; refine xk_field (off := 3) (by kernel_rfl) rfl (by decide) ?_
            refine xk_guardT rfl rfl ?_; refine xk_ld rfl ?_
            refine xk_guardT rfl rfl ?_; refine xk_callR (f := 89) (fi := []) (ca := []) (by kernel_rfl) rfl rfl (by decide) (fun w1 st => refWithin5_any _ _ _ w1) ?_
            refine xk_guardT rfl rfl ?_; refine xk_notD rfl (by decide) ?_
            refine xk_guardT rfl rfl ?_; refine xk_move rfl (by decide) ?_
            refine xk_split (t := 82) rfl (fun hg82 => ?_) (fun hg82 => ?_)
            ·
              refine xk_guardF rfl rfl rfl (by decide) ?_
              refine xk_guardF rfl rfl rfl (by decide) ?_
              refine xk_guardF rfl rfl rfl (by decide) ?_
              refine xk_guardF rfl rfl rfl (by decide) ?_
              refine xk_guardT rfl rfl ?_; (first | refine xk_pickT rfl rfl (by decide) ?_ | refine xk_pickF rfl rfl (by decide) ?_)
              refine xk_guardT rfl rfl ?_; refine xk_move rfl (by decide) ?_
              refine xk_guardF rfl rfl rfl (by decide) ?_
              refine xk_guardF rfl rfl rfl (by decide) ?_
              refine xk_guardF rfl rfl rfl (by decide) ?_
              refine xk_guardF rfl rfl rfl (by decide) ?_
              refine xk_guardT rfl rfl ?_; (first | refine xk_pickT rfl rfl (by decide) ?_ | refine xk_pickF rfl rfl (by decide) ?_)
              (first | refine xk_pickT rfl rfl (by decide) ?_ | refine xk_pickF rfl rfl (by decide) ?_)
              refine XK.nilN ?_
              exact XK.meetB (by repeat (first | exact trivial | refine ⟨rfl, ?_⟩)) (by first | (refine get_iff rfl ?_; omega) | (refine get_true rfl ?_; omega) | (refine get_false rfl ?_; omega))
            ·
              refine xk_guardT rfl rfl ?_; refine xk_field (off := 4) (by kernel_rfl) rfl (by decide) ?_
              refine xk_guardT rfl rfl ?_; refine xk_ld rfl ?_
              refine xk_guardT rfl rfl ?_; refine xk_callR (f := 89) (fi := []) (ca := []) (by kernel_rfl) rfl rfl (by decide) (fun w1 st => refWithin5_any _ _ _ w1) ?_
              refine xk_guardT rfl rfl ?_; refine xk_notD rfl (by decide) ?_
              refine xk_guardT rfl rfl ?_; (first | refine xk_pickT rfl rfl (by decide) ?_ | refine xk_pickF rfl rfl (by decide) ?_)
              refine xk_guardT rfl rfl ?_; refine xk_move rfl (by decide) ?_
              refine xk_split (t := 88) rfl (fun hg88 => ?_) (fun hg88 => ?_)
              ·
                refine xk_guardF rfl rfl rfl (by decide) ?_
                refine xk_guardF rfl rfl rfl (by decide) ?_
                refine xk_guardF rfl rfl rfl (by decide) ?_
                refine xk_guardF rfl rfl rfl (by decide) ?_
                refine xk_guardT rfl rfl ?_; (first | refine xk_pickT rfl rfl (by decide) ?_ | refine xk_pickF rfl rfl (by decide) ?_)
                (first | refine xk_pickT rfl rfl (by decide) ?_ | refine xk_pickF rfl rfl (by decide) ?_)
                refine XK.nilN ?_
                exact XK.meetB (by repeat (first | exact trivial | refine ⟨rfl, ?_⟩)) (by first | (refine get_iff rfl ?_; omega) | (refine get_true rfl ?_; omega) | (refine get_false rfl ?_; omega))
              ·
                refine xk_guardT rfl rfl ?_; refine xk_field (off := 5) (by kernel_rfl) rfl (by decide) ?_
                refine xk_guardT rfl rfl ?_; refine xk_ld rfl ?_
                refine xk_guardT rfl rfl ?_; refine xk_callR (f := 89) (fi := []) (ca := []) (by kernel_rfl) rfl rfl (by decide) (fun w1 st => refWithin5_any _ _ _ w1) ?_
                refine xk_guardT rfl rfl ?_; refine xk_notD rfl (by decide) ?_
                refine xk_guardT rfl rfl ?_; (first | refine xk_pickT rfl rfl (by decide) ?_ | refine xk_pickF rfl rfl (by decide) ?_)
                (first | refine xk_pickT rfl rfl (by decide) ?_ | refine xk_pickF rfl rfl (by decide) ?_)
                refine XK.nilN ?_
                exact XK.meetB (by repeat (first | exact trivial | refine ⟨rfl, ?_⟩)) (by first | (refine get_iff rfl ?_; omega) | (refine get_true rfl ?_; omega) | (refine get_false rfl ?_; omega))
          ·
            refine xk_guardF rfl rfl rfl (by decide) ?_
            refine xk_guardF rfl rfl rfl (by decide) ?_
            refine xk_guardF rfl rfl rfl (by decide) ?_
            refine xk_guardF rfl rfl rfl (by decide) ?_
            refine xk_guardF rfl rfl rfl (by decide) ?_
            refine xk_guardU rfl rfl (by decide) ?_
            refine xk_guardU rfl rfl (by decide) ?_
            refine xk_guardU rfl rfl (by decide) ?_
            refine xk_guardU rfl rfl (by decide) ?_
            refine xk_guardF rfl rfl rfl (by decide) ?_
            refine xk_guardF rfl rfl rfl (by decide) ?_
            refine xk_guardU rfl rfl (by decide) ?_
            refine xk_guardU rfl rfl (by decide) ?_
            refine xk_guardU rfl rfl (by decide) ?_
            refine xk_guardU rfl rfl (by decide) ?_
            refine xk_guardF rfl rfl rfl (by decide) ?_
            (first | refine xk_pickT rfl rfl (by decide) ?_ | refine xk_pickF rfl rfl (by decide) ?_)
            refine XK.nilN ?_
            exact XK.meetB (by repeat (first | exact trivial | refine ⟨rfl, ?_⟩)) (by first | (refine get_iff rfl ?_; omega) | (refine get_true rfl ?_; omega) | (refine get_false rfl ?_; omega))
        refine XK.if_ rfl (fun h94 => ?_) (fun h94 => ?_)
        ·
          refine XK.seq ?_

          refine XK.region ?_
          refine xk_assign rfl (by decide) ?_
          refine XK.nilN ?_
          refine XK.ret ?_
          refine XK.norm ?_
          rw [clockE_bad hF' hall (.inr (.inl h94))]
          exact XK.ret1 rfl rfl fun w1 st => ⟨rfl, st.below (by simp)⟩
        ·
          refine XK.skip ?_
          refine XK.norm ?_
          refine XK.seq ?_
          refine XK.cutB 103 (c.kind = 100 ∧ ¬ (1 ≤ c.div ∧ c.div ≤ 1000)) ?_ ?_
          · skip

            refine XK.region ?_
            refine xk_field (off := 0) (by kernel_rfl) rfl (by decide) ?_
            refine xk_ld rfl ?_
            refine xk_eql rfl rfl (by decide) ?_
            refine xk_move rfl (by decide) ?_
            refine xk_split (t := 98) rfl (fun hg98 => ?_) (fun hg98 => ?_)
            ·
              refine xk_guardT rfl rfl ?_; refine xk_field (off := 4) (by kernel_rfl) rfl (by decide) ?_
              refine xk_guardT rfl rfl ?_; refine xk_ld rfl ?_
              refine xk_guardT rfl rfl ?_; refine xk_callR (f := 89) (fi := []) (ca := []) (by kernel_rfl) rfl rfl (by decide) (fun w1 st => refWithin5_any _ _ _ w1) ?_
              refine xk_guardT rfl rfl ?_; refine xk_notD rfl (by decide) ?_
              (first | refine xk_pickT rfl rfl (by decide) ?_ | refine xk_pickF rfl rfl (by decide) ?_)
              refine XK.nilN ?_
              exact XK.meetB (by repeat (first | exact trivial | refine ⟨rfl, ?_⟩)) (by first | (refine get_iff rfl ?_; omega) | (refine get_true rfl ?_; omega) | (refine get_false rfl ?_; omega))
            ·
              refine xk_guardF rfl rfl rfl (by decide) ?_
              refine xk_guardF rfl rfl rfl (by decide) ?_
              refine xk_guardF rfl rfl rfl (by decide) ?_
              refine xk_guardF rfl rfl rfl (by decide) ?_
              (first | refine xk_pickT rfl rfl (by decide) ?_ | refine xk_pickF rfl rfl (by decide) ?_)
              refine XK.nilN ?_
              exact XK.meetB (by repeat (first | exact trivial | refine ⟨rfl, ?_⟩)) (by first | (refine get_iff rfl ?_; omega) | (refine get_true rfl ?_; omega) | (refine get_false rfl ?_; omega))
          refine XK.if_ rfl (fun h103 => ?_) (fun h103 => ?_)
          ·
            refine XK.seq ?_

            refine XK.region ?_
            refine xk_assign rfl (by decide) ?_
            refine XK.nilN ?_
            refine XK.ret ?_
            refine XK.norm ?_
            rw [clockE_bad hF' hall (.inr (.inr h103))]
            exact XK.ret1 rfl rfl fun w1 st => ⟨rfl, st.below (by simp)⟩
          ·
            refine XK.skip ?_
            refine XK.norm ?_
            refine XK.seq ?_

            refine XK.region ?_
            refine xk_assign rfl (by decide) ?_
            refine XK.nilN ?_
            refine XK.ret ?_
            refine XK.norm ?_
            rw [clockE_ok hF' hall (by rintro (h | h | h); exact h73 h; exact h94 h; exact h103 h)]
            exact XK.ret1 rfl rfl fun w1 st => ⟨rfl, st.below (by simp)⟩

theorem fullE_many {s : Soc} (h : (12 : Int) < s.clocks.length ∨ (6 : Int) < s.domains.length ∨ (6 : Int) < s.resets.length ∨ (6 : Int) < s.devs.length) : fullE s = 8 := by unfold fullE; rw [if_pos h]
theorem manyE_eq {d : Dev} : manyE d = if (8 : Int) < d.regs.length ∨ (6 : Int) < d.needs.length then 8 else 0 := by
  unfold manyE
  by_cases h : (8 : Int) < d.regs.length ∨ (6 : Int) < d.needs.length
  · rw [if_pos h, show (decide ((8 : Int) < d.regs.length) || decide ((6 : Int) < d.needs.length)) = true by rw [Bool.or_eq_true, decide_eq_true_eq, decide_eq_true_eq]; exact h]; rfl
  · rw [if_neg h, show (decide ((8 : Int) < d.regs.length) || decide ((6 : Int) < d.needs.length)) = false by rw [Bool.or_eq_false_iff, decide_eq_false_iff_not, decide_eq_false_iff_not]; omega]; rfl
theorem fullE_dev {s : Soc} {i : Nat} {d : Dev} (h : ¬ ((12 : Int) < s.clocks.length ∨ (6 : Int) < s.domains.length ∨ (6 : Int) < s.resets.length ∨ (6 : Int) < s.devs.length)) (hd : s.devs[i]? = some d) (h0 : ∀ x ∈ s.devs.take i, manyE x = 0) (hm : manyE d ≠ 0) : fullE s = manyE d := by
  unfold fullE; rw [if_neg h, firstM_at hd h0 hm]
theorem fullE_ok {s : Soc} (h : ¬ ((12 : Int) < s.clocks.length ∨ (6 : Int) < s.domains.length ∨ (6 : Int) < s.resets.length ∨ (6 : Int) < s.devs.length)) (h0 : ∀ x ∈ s.devs, manyE x = 0) : fullE s = 0 := by
  unfold fullE; rw [if_neg h, firstE_map0 h0]

theorem refCountsG_any (s : Soc) (A1 A2 A3 A4 : Option Addr) (n1 k1 n2 k2 n3 k3 n4 k4 : Nat) (w : World) (hW : SocW w s A1 n1 A2 n2 A3 n3 A4 n4) : Calls Tryz.prog 86 #[.agg #[.slice A1 n1 k1, .slice A2 n2 k2, .slice A3 n3 k3, .slice A4 n4 k4]] w (Rt (.bool (decide (fullE s = 0))) w) := by
  have hn1 := hW.len1
  have hn2 := hW.len2
  have hn3 := hW.len3
  have hn4 := hW.len4
  have hsm := hW.small
  unfold Soc.small at hsm
  obtain ⟨hs1, hs2, hs3, hs4, hs5, hs6⟩ := hsm
  refine XK.enter (vs := [.agg #[.slice A1 n1 k1, .slice A2 n2 k2, .slice A3 n3 k3, .slice A4 n4 k4]]) Tryz.func86 rfl Tryz.ntmps86 (by simp) ?_
  refine XK.seq ?_

  refine XK.region ?_
  refine xk_box rfl (by decide) fun g1 => ?_
  refine xk_assign rfl (by decide) ?_
  refine XK.nilN ?_
  refine XK.seq ?_
  refine XK.cutB 25 ((12 : Int) < n1 ∨ (6 : Int) < n2 ∨ (6 : Int) < n3 ∨ (6 : Int) < n4) ?_ ?_
  · skip

    refine XK.region ?_
    refine xk_field (off := 0) (by kernel_rfl) rfl (by decide) ?_
    refine xk_ld rfl ?_
    refine xk_len (el := 55) (by kernel_rfl) rfl (by decide) ?_
    refine xk_gtr rfl rfl (by decide) ?_
    refine xk_move rfl (by decide) ?_
    refine xk_split (t := 8) rfl (fun hg8 => ?_) (fun hg8 => ?_)
    ·
      refine xk_guardF rfl rfl rfl (by decide) ?_
      refine xk_guardF rfl rfl rfl (by decide) ?_
      refine xk_guardF rfl rfl rfl (by decide) ?_
      refine xk_guardF rfl rfl rfl (by decide) ?_
      (first | refine xk_pickT rfl rfl (by decide) ?_ | refine xk_pickF rfl rfl (by decide) ?_)
      refine xk_move rfl (by decide) ?_
      refine xk_guardF rfl rfl rfl (by decide) ?_
      refine xk_guardF rfl rfl rfl (by decide) ?_
      refine xk_guardF rfl rfl rfl (by decide) ?_
      refine xk_guardF rfl rfl rfl (by decide) ?_
      (first | refine xk_pickT rfl rfl (by decide) ?_ | refine xk_pickF rfl rfl (by decide) ?_)
      refine xk_move rfl (by decide) ?_
      refine xk_guardF rfl rfl rfl (by decide) ?_
      refine xk_guardF rfl rfl rfl (by decide) ?_
      refine xk_guardF rfl rfl rfl (by decide) ?_
      refine xk_guardF rfl rfl rfl (by decide) ?_
      (first | refine xk_pickT rfl rfl (by decide) ?_ | refine xk_pickF rfl rfl (by decide) ?_)
      refine XK.nilN ?_
      exact XK.meetB (by repeat (first | exact trivial | refine ⟨rfl, ?_⟩)) (by first | (refine get_iff rfl ?_; omega) | (refine get_true rfl ?_; omega) | (refine get_false rfl ?_; omega))
    ·
      refine xk_guardT rfl rfl ?_; refine xk_field (off := 1) (by kernel_rfl) rfl (by decide) ?_
      refine xk_guardT rfl rfl ?_; refine xk_ld rfl ?_
      refine xk_guardT rfl rfl ?_; refine xk_len (el := 69) (by kernel_rfl) rfl (by decide) ?_
      refine xk_guardT rfl rfl ?_; refine xk_gtr rfl rfl (by decide) ?_
      (first | refine xk_pickT rfl rfl (by decide) ?_ | refine xk_pickF rfl rfl (by decide) ?_)
      refine xk_move rfl (by decide) ?_
      refine xk_split (t := 14) rfl (fun hg14 => ?_) (fun hg14 => ?_)
      ·
        refine xk_guardF rfl rfl rfl (by decide) ?_
        refine xk_guardF rfl rfl rfl (by decide) ?_
        refine xk_guardF rfl rfl rfl (by decide) ?_
        refine xk_guardF rfl rfl rfl (by decide) ?_
        (first | refine xk_pickT rfl rfl (by decide) ?_ | refine xk_pickF rfl rfl (by decide) ?_)
        refine xk_move rfl (by decide) ?_
        refine xk_guardF rfl rfl rfl (by decide) ?_
        refine xk_guardF rfl rfl rfl (by decide) ?_
        refine xk_guardF rfl rfl rfl (by decide) ?_
        refine xk_guardF rfl rfl rfl (by decide) ?_
        (first | refine xk_pickT rfl rfl (by decide) ?_ | refine xk_pickF rfl rfl (by decide) ?_)
        refine XK.nilN ?_
        exact XK.meetB (by repeat (first | exact trivial | refine ⟨rfl, ?_⟩)) (by first | (refine get_iff rfl ?_; omega) | (refine get_true rfl ?_; omega) | (refine get_false rfl ?_; omega))
      ·
        refine xk_guardT rfl rfl ?_; refine xk_field (off := 2) (by kernel_rfl) rfl (by decide) ?_
        refine xk_guardT rfl rfl ?_; refine xk_ld rfl ?_
        refine xk_guardT rfl rfl ?_; refine xk_len (el := 71) (by kernel_rfl) rfl (by decide) ?_
        refine xk_guardT rfl rfl ?_; refine xk_gtr rfl rfl (by decide) ?_
        (first | refine xk_pickT rfl rfl (by decide) ?_ | refine xk_pickF rfl rfl (by decide) ?_)
        refine xk_move rfl (by decide) ?_
        refine xk_split (t := 20) rfl (fun hg20 => ?_) (fun hg20 => ?_)
        ·
          refine xk_guardF rfl rfl rfl (by decide) ?_
          refine xk_guardF rfl rfl rfl (by decide) ?_
          refine xk_guardF rfl rfl rfl (by decide) ?_
          refine xk_guardF rfl rfl rfl (by decide) ?_
          (first | refine xk_pickT rfl rfl (by decide) ?_ | refine xk_pickF rfl rfl (by decide) ?_)
          refine XK.nilN ?_
          exact XK.meetB (by repeat (first | exact trivial | refine ⟨rfl, ?_⟩)) (by first | (refine get_iff rfl ?_; omega) | (refine get_true rfl ?_; omega) | (refine get_false rfl ?_; omega))
        ·
          refine xk_guardT rfl rfl ?_; refine xk_field (off := 3) (by kernel_rfl) rfl (by decide) ?_
          refine xk_guardT rfl rfl ?_; refine xk_ld rfl ?_
          refine xk_guardT rfl rfl ?_; refine xk_len (el := 51) (by kernel_rfl) rfl (by decide) ?_
          refine xk_guardT rfl rfl ?_; refine xk_gtr rfl rfl (by decide) ?_
          (first | refine xk_pickT rfl rfl (by decide) ?_ | refine xk_pickF rfl rfl (by decide) ?_)
          refine XK.nilN ?_
          exact XK.meetB (by repeat (first | exact trivial | refine ⟨rfl, ?_⟩)) (by first | (refine get_iff rfl ?_; omega) | (refine get_true rfl ?_; omega) | (refine get_false rfl ?_; omega))
  refine XK.if_ rfl (fun hfl => ?_) (fun hfl => ?_)
  rw [hn1, hn2, hn3, hn4] at hfl
  ·
    refine XK.seq ?_

    refine XK.region ?_
    refine xk_assign rfl (by decide) ?_
    refine XK.nilN ?_
    refine XK.ret ?_
    refine XK.norm ?_
    rw [fullE_many hfl]
    exact XK.ret1 rfl rfl fun w1 st => ⟨rfl, st.below (by simp)⟩
  ·
    refine XK.skip ?_
    refine XK.norm ?_
    refine XK.seq ?_
    refine XK.seq ?_
    rw [hn1, hn2, hn3, hn4] at hfl

    refine XK.region ?_
    refine xk_assign rfl (by decide) ?_
    refine XK.nilN ?_
    refine XK.envS [(3, .int .i64 0), (1, .pointer (some ⟨g1, 0, none⟩))] ?_
    refine XK.block ?_
    refine XK.loop (fun m e R H => ∃ (i : Nat), i ≤ n4 ∧ (∀ x ∈ s.devs.take i, manyE x = 0) ∧ m = n4 - i ∧ e = [(3, .int .i64 i), (1, .pointer (some ⟨g1, 0, none⟩))] ∧ R = [all w] ∧ H = [HP.blk g1 28 [.slice A1 n1 k1, .slice A2 n2 k2, .slice A3 n3 k3, .slice A4 n4 k4]]) n4 ⟨0, by omega, by simp, rfl, rfl, rfl, rfl⟩ fun m e R H hI => ?_
    obtain ⟨i, hi, hpre, rfl, rfl, rfl, rfl⟩ := hI
    refine XK.seq ?_
    refine XK.seq ?_

    refine XK.region ?_
    refine xk_move rfl (by decide) ?_
    refine xk_field (off := 3) (by kernel_rfl) rfl (by decide) ?_
    refine xk_ld rfl ?_
    refine xk_len (el := 51) (by kernel_rfl) rfl (by decide) ?_
    refine xk_lss rfl rfl (by decide) ?_
    refine XK.nilN ?_
    refine XK.if_ rfl (fun hil => ?_) (fun hil => ?_)
    ·
      refine XK.skip ?_
      refine XK.norm ?_
      refine XK.seq ?_
      refine XK.block ?_
      have hil' : i < n4 := by have h' : (i : Int) < (n4 : Int) := hil; omega
      obtain ⟨d, hd⟩ : ∃ d, s.devs[i]? = some d := ⟨_, List.getElem?_eq_getElem (by omega)⟩
      obtain ⟨b, off, r, rfl, hrl, hR, hro⟩ := hW.dev.row hd
      obtain ⟨Ar, nr, kr, An, nn, kn, rfl, hnr9, hnn9, hsr, hsn⟩ := hR
      have hmE := @manyE_eq d
      rw [← hnr9, ← hnn9] at hmE
      have hsd := hs6 d (List.mem_of_getElem? hd)
      refine XK.cutB 50 ((8 : Int) < nr ∨ (6 : Int) < nn) ?_ ?_
      · skip

        refine XK.region ?_
        refine xk_field (off := 3) (by kernel_rfl) rfl (by decide) ?_
        refine xk_ld rfl ?_
        refine xk_move rfl (by decide) ?_
        refine xk_at i (off + i * 6) (el := 51) (sz := 6) (by kernel_rfl) (by kernel_rfl) rfl rfl (by omega) (by omega) (by omega) (by decide) ?_
        refine xk_field (off := 4) (by kernel_rfl) rfl (by decide) ?_
        refine xk_load (by kernel_rfl) rfl (Rd.roc (by simp) (hro.at_ (j := 4) rfl)) (by decide) ?_
        refine xk_len (el := 57) (by kernel_rfl) rfl (by decide) ?_
        refine xk_gtr rfl rfl (by decide) ?_
        refine xk_move rfl (by decide) ?_
        refine xk_split (t := 41) rfl (fun hg41 => ?_) (fun hg41 => ?_)
        ·
          refine xk_guardF rfl rfl rfl (by decide) ?_
          refine xk_guardF rfl rfl rfl (by decide) ?_
          refine xk_guardF rfl rfl rfl (by decide) ?_
          refine xk_guardF rfl rfl rfl (by decide) ?_
          refine xk_guardF rfl rfl rfl (by decide) ?_
          refine xk_guardF rfl rfl rfl (by decide) ?_
          refine xk_guardF rfl rfl rfl (by decide) ?_
          refine xk_guardF rfl rfl rfl (by decide) ?_
          (first | refine xk_pickT rfl rfl (by decide) ?_ | refine xk_pickF rfl rfl (by decide) ?_)
          refine XK.nilN ?_
          exact XK.meetB (by repeat (first | exact trivial | refine ⟨rfl, ?_⟩)) (by first | (refine get_iff rfl ?_; omega) | (refine get_true rfl ?_; omega) | (refine get_false rfl ?_; omega))
        ·
          refine xk_guardT rfl rfl ?_; refine xk_field (off := 3) (by kernel_rfl) rfl (by decide) ?_
          refine xk_guardT rfl rfl ?_; refine xk_ld rfl ?_
          refine xk_guardT rfl rfl ?_; refine xk_move rfl (by decide) ?_
          refine xk_guardT rfl rfl ?_; refine xk_at i (off + i * 6) (el := 51) (sz := 6) (by kernel_rfl) (by kernel_rfl) rfl rfl (by omega) (by omega) (by omega) (by decide) ?_
          refine xk_guardT rfl rfl ?_; refine xk_field (off := 5) (by kernel_rfl) rfl (by decide) ?_
          refine xk_guardT rfl rfl ?_; refine xk_load (by kernel_rfl) rfl (Rd.roc (by simp) (hro.at_ (j := 5) rfl)) (by decide) ?_
          refine xk_guardT rfl rfl ?_; refine xk_len (el := 3) (by kernel_rfl) rfl (by decide) ?_
          refine xk_guardT rfl rfl ?_; refine xk_gtr rfl rfl (by decide) ?_
          (first | refine xk_pickT rfl rfl (by decide) ?_ | refine xk_pickF rfl rfl (by decide) ?_)
          refine XK.nilN ?_
          exact XK.meetB (by repeat (first | exact trivial | refine ⟨rfl, ?_⟩)) (by first | (refine get_iff rfl ?_; omega) | (refine get_true rfl ?_; omega) | (refine get_false rfl ?_; omega))
      refine XK.if_ rfl (fun hmd => ?_) (fun hmd => ?_)
      ·
        refine XK.seq ?_

        refine XK.region ?_
        refine xk_assign rfl (by decide) ?_
        refine XK.nilN ?_
        refine XK.ret ?_
        refine XK.norm ?_
        rw [if_pos hmd] at hmE
        rw [fullE_dev hfl hd hpre (by rw [hmE]; decide), hmE]
        exact XK.ret1 rfl rfl fun w1 st => ⟨rfl, st.below (by simp)⟩
      ·
        refine XK.skip ?_
        refine XK.norm ?_

        refine XK.region ?_
        refine xk_move rfl (by decide) ?_
        refine xk_add rfl rfl (wrap_in (by omega)) (by decide) ?_
        refine xk_assign rfl (by decide) ?_
        refine XK.nilN ?_
        exact XK.envS [(3, .int .i64 ((i : Int) + 1)), (1, .pointer (some ⟨g1, 0, none⟩))] (XK.round (n4 - (i + 1)) (by omega) ⟨i + 1, by omega, take_snoc hd hpre (by rw [hmE, if_neg hmd]), rfl, rfl, rfl, rfl⟩)
    ·
      refine XK.exit ?_
      refine XK.norm ?_
      refine XK.seq ?_

      refine XK.region ?_
      refine xk_assign rfl (by decide) ?_
      refine XK.nilN ?_
      refine XK.ret ?_
      refine XK.norm ?_
      rw [fullE_ok hfl (take_all (by omega) hpre)]
      exact XK.ret1 rfl rfl fun w1 st => ⟨rfl, st.below (by simp)⟩

theorem clockE_in {nn : Nat} {c : Clk} (h : clockE nn c = 0) : ∀ x ∈ c.src, 0 ≤ x ∧ x < (nn : Int) := by
  intro x hx
  have h1 := firstE_zero h (firstE (c.src.map fun f => whenE (!withinB f 0 ((nn : Int) - 1)) 4)) (by simp)
  have h2 := firstE_zero h1 _ (List.mem_map.2 ⟨x, hx, rfl⟩)
  rw [srcE] at h2
  by_cases h3 : 0 ≤ x ∧ x < (nn : Int)
  · exact h3
  · rw [if_neg h3] at h2; cases h2
theorem clocks_in {s : Soc} (h : ∀ c ∈ s.clocks, clockE s.clocks.length c = 0) : InG (clocksG s) := by
  intro l hl u hu
  simp only [clocksG, List.mem_map] at hl
  obtain ⟨z, hz, rfl⟩ := hl
  have := clockE_in (h z hz) u hu
  simpa [clocksG] using this

theorem refClocksG_any (s : Soc) (A1 A2 A3 A4 : Option Addr) (n1 k1 n2 k2 n3 k3 n4 k4 : Nat) (w : World) (hW : SocW w s A1 n1 A2 n2 A3 n3 A4 n4) (hfl : fullE s = 0) : Calls Tryz.prog 87 #[.agg #[.slice A1 n1 k1, .slice A2 n2 k2, .slice A3 n3 k3, .slice A4 n4 k4]] w (Rt (.int .i64 (firstE [firstE (s.clocks.map (clockE s.clocks.length)), cycE (clocksG s)])) w) := by
  have hn1 := hW.len1
  have hn2 := hW.len2
  have hn3 := hW.len3
  have hn4 := hW.len4
  have hsm := hW.small
  unfold Soc.small at hsm
  obtain ⟨hs1, hs2, hs3, hs4, hs5, hs6⟩ := hsm
  obtain ⟨hf1, hf2, hf3, hf4, hf5⟩ := full_zero hfl
  refine XK.enter (vs := [.agg #[.slice A1 n1 k1, .slice A2 n2 k2, .slice A3 n3 k3, .slice A4 n4 k4]]) Tryz.func87 rfl Tryz.ntmps87 (by simp) ?_
  refine XK.seq ?_

  refine XK.region ?_
  refine xk_box rfl (by decide) fun g1 => ?_
  refine xk_assign rfl (by decide) ?_
  refine XK.nilN ?_
  refine XK.seq ?_
  refine XK.seq ?_

  refine XK.region ?_
  refine xk_assign rfl (by decide) ?_
  refine XK.nilN ?_
  refine XK.envS [(3, .int .i64 0), (1, .pointer (some ⟨g1, 0, none⟩))] ?_
  refine XK.block ?_
  refine XK.loop (fun m e R H => ∃ (i : Nat), i ≤ n1 ∧ (∀ x ∈ s.clocks.take i, clockE s.clocks.length x = 0) ∧ m = n1 - i ∧ e = [(3, .int .i64 i), (1, .pointer (some ⟨g1, 0, none⟩))] ∧ R = [all w] ∧ H = [HP.blk g1 28 [.slice A1 n1 k1, .slice A2 n2 k2, .slice A3 n3 k3, .slice A4 n4 k4]]) n1 ⟨0, by omega, by simp, rfl, rfl, rfl, rfl⟩ fun m e R H hI => ?_
  obtain ⟨i, hi, hpre, rfl, rfl, rfl, rfl⟩ := hI
  refine XK.seq ?_
  refine XK.seq ?_

  refine XK.region ?_
  refine xk_move rfl (by decide) ?_
  refine xk_field (off := 0) (by kernel_rfl) rfl (by decide) ?_
  refine xk_ld rfl ?_
  refine xk_len (el := 55) (by kernel_rfl) rfl (by decide) ?_
  refine xk_lss rfl rfl (by decide) ?_
  refine XK.nilN ?_
  refine XK.if_ rfl (fun hil => ?_) (fun hil => ?_)
  ·
    refine XK.skip ?_
    refine XK.norm ?_
    refine XK.seq ?_
    refine XK.block ?_
    refine XK.seq ?_
    have hil' : i < n1 := by have h' : (i : Int) < (n1 : Int) := hil; omega
    obtain ⟨c, hc⟩ : ∃ c, s.clocks[i]? = some c := ⟨_, List.getElem?_eq_getElem (by omega)⟩
    obtain ⟨b, off, r, rfl, hrl, hR, hro⟩ := hW.clk.row hc
    obtain ⟨Af, nf, kf, rfl, hnf, hsf⟩ := hR
    have hsc := hs5 c (List.mem_of_getElem? hc)

    refine XK.draw 8 (by kernel_rfl) (by kernel_rfl) ?_
    refine XA.dA 0 rfl rfl rfl (does_field (off := 0) (by kernel_rfl) rfl) ?_
    refine XA.dA 1 rfl rfl rfl (does_ld rfl) ?_
    refine XA.dA 2 rfl rfl rfl (does_move rfl) ?_
    refine XA.dA 3 rfl rfl rfl (does_at (i) (off + i * 6) (el := 55) (sz := 6) (by kernel_rfl) (by kernel_rfl) rfl rfl (by omega) (by omega) (by omega)) ?_
    refine XA.dA 4 rfl rfl rfl (does_loadN 6 (by kernel_rfl) rfl (RdN.of (vs := [.int .u8 c.kind, .slice Af nf kf, .int .u64 c.rate, .int .i64 c.mul, .int .i64 c.div, .int .i64 c.lock]) fun j v hj => Rd.roc (by simp) (hro.at_ (j := j) hj)) rfl) ?_
    refine XA.dA 5 rfl rfl rfl (does_field (off := 0) (by kernel_rfl) rfl) ?_
    refine XA.dA 6 rfl rfl rfl (does_ld rfl) ?_
    refine XA.dA 7 rfl rfl rfl (does_len (el := 55) (by kernel_rfl) rfl) ?_
    refine XA.next 8 rfl (by kernel_rfl) ?_
    refine xk_callR (f := 121) (fi := []) (ca := []) (by kernel_rfl) rfl rfl (by decide) (fun w1 st => refClockG_any c n1 Af nf kf w1 (SlS.le hsf (all_le (st.started (by simp)))) hnf (by omega) (by omega)) ?_
    rw [show clockE n1 c = clockE s.clocks.length c from by rw [hn1]]
    refine XA.bt ?_
    refine XA.next 9 rfl (by kernel_rfl) ?_
    refine xk_assign rfl (by decide) ?_
    refine XA.bt ?_
    refine XA.done (by kernel_rfl) ?_
    refine XK.norm ?_
    refine XK.seq ?_

    refine XK.region ?_
    refine xk_move rfl (by decide) ?_
    refine xk_neq rfl rfl (by decide) ?_
    refine XK.nilN ?_
    refine XK.if_ rfl (fun hce => ?_) (fun hce => ?_)
    ·
      refine XK.seq ?_

      refine XK.region ?_
      refine xk_move rfl (by decide) ?_
      refine xk_assign rfl (by decide) ?_
      refine XK.nilN ?_
      refine XK.ret ?_
      refine XK.norm ?_
      rw [firstM_at hc hpre hce, firstE_cons hce]
      exact XK.ret1 rfl rfl fun w1 st => ⟨rfl, st.below (by simp)⟩
    ·
      refine XK.skip ?_
      refine XK.norm ?_

      refine XK.region ?_
      refine xk_move rfl (by decide) ?_
      refine xk_add rfl rfl (wrap_in (by omega)) (by decide) ?_
      refine xk_assign rfl (by decide) ?_
      refine XK.nilN ?_
      exact XK.envS [(3, .int .i64 ((i : Int) + 1)), (1, .pointer (some ⟨g1, 0, none⟩))] (XK.round (n1 - (i + 1)) (by omega) ⟨i + 1, by omega, take_snoc hc hpre (Classical.not_not.1 hce), rfl, rfl, rfl, rfl⟩)
  ·
    refine XK.exit ?_
    refine XK.norm ?_
    refine XK.seq ?_

    refine XK.region ?_
    refine xk_ldN 4 rfl ?_
    have hall := take_all (by omega) hpre
    refine xk_call [] (f := 123) (fi := []) (ca := []) (by kernel_rfl) rfl rfl (by decide) (by simp) (GrOk (clocksG s)) (fun w1 st => refClocks_any s A1 A2 A3 A4 n1 k1 n2 k2 n3 k3 n4 k4 w1 (hW.le (st.started (by simp)))) ?_
    rintro _ w1 qa ⟨Ag, cg, rfl, hgr⟩ hf _ _
    have hgr := hgr.le hf
    clear hf
    refine xk_callR (f := 122) (fi := []) (ca := []) (by kernel_rfl) rfl rfl (by decide) (fun w1 st => refCheckG_any Ag _ cg (clocksG s) w1 (hgr.le (st.le (by simp))) rfl (by simp [clocksG]; omega) (fun l hl => by
        simp only [clocksG, List.mem_map] at hl
        obtain ⟨z, hz, rfl⟩ := hl
        have := hs5 z hz; omega) (clocks_in hall)) ?_
    refine xk_assign rfl (by decide) ?_
    refine XK.nilN ?_
    refine XK.ret ?_
    refine XK.norm ?_
    rw [firstE_map0 hall, firstE_cons0, show firstE [cycE (clocksG s)] = cycE (clocksG s) from by rw [firstE_if]; split <;> simp_all [firstE_nil]]
    exact XK.ret1 rfl rfl fun w1 st => ⟨rfl, st.below (by simp)⟩

theorem domE_if {n : Nat} {d : Dom} : domainE n d = if ¬ d.above = -1 ∧ ¬ (0 ≤ d.above ∧ d.above < (n : Int)) then 4 else if 0 ≤ d.delay ∧ d.delay ≤ 20 then 0 else 3 := by
  unfold domainE
  have e1 : whenE (decide (¬ d.above = -1) && !withinB d.above 0 ((n : Int) - 1)) 4 = if ¬ d.above = -1 ∧ ¬ (0 ≤ d.above ∧ d.above < (n : Int)) then 4 else 0 := by
    by_cases h : d.above = -1
    · rw [if_neg (fun hh => hh.1 h), show decide (¬ d.above = -1) = false by simpa using h]; rfl
    · rw [show decide (¬ d.above = -1) = true by simpa using h, Bool.true_and, srcE]
      by_cases h2 : 0 ≤ d.above ∧ d.above < (n : Int)
      · rw [if_pos h2, if_neg (fun hh => hh.2 h2)]
      · rw [if_neg h2, if_pos ⟨h, h2⟩]
  have e2 : whenE (!withinB d.delay 0 20) 3 = if 0 ≤ d.delay ∧ d.delay ≤ 20 then 0 else 3 := by
    cases h : withinB d.delay 0 20 with
    | true => rw [within_iff] at h; rw [if_pos h]; rfl
    | false => rw [within_iff_f] at h; rw [if_neg h]; rfl
  rw [e1, e2, firstE_if]
  by_cases h : ¬ d.above = -1 ∧ ¬ (0 ≤ d.above ∧ d.above < (n : Int))
  · rw [if_pos h, if_pos h]; rfl
  · rw [if_neg h, if_neg h, firstE_if]
    split <;> simp_all [firstE_nil]
theorem doms_in {s : Soc} (h : ∀ d ∈ s.domains, domainE s.domains.length d = 0) : InG (domsG s) := by
  intro l hl u hu
  simp only [domsG, List.mem_map] at hl
  obtain ⟨z, hz, rfl⟩ := hl
  have h1 := h z hz
  rw [domE_if] at h1
  split at hu
  · cases hu
  · simp at hu
    subst hu
    split at h1
    · cases h1
    · have : (domsG s).length = s.domains.length := by simp [domsG]
      rw [this]
      omega

theorem refDomsG_any (s : Soc) (A1 A2 A3 A4 : Option Addr) (n1 k1 n2 k2 n3 k3 n4 k4 : Nat) (w : World) (hW : SocW w s A1 n1 A2 n2 A3 n3 A4 n4) (hfl : fullE s = 0) : Calls Tryz.prog 88 #[.agg #[.slice A1 n1 k1, .slice A2 n2 k2, .slice A3 n3 k3, .slice A4 n4 k4]] w (Rt (.int .i64 (firstE [firstE (s.domains.map (domainE s.domains.length)), cycE (domsG s)])) w) := by
  have hn1 := hW.len1
  have hn2 := hW.len2
  have hn3 := hW.len3
  have hn4 := hW.len4
  have hsm := hW.small
  unfold Soc.small at hsm
  obtain ⟨hs1, hs2, hs3, hs4, hs5, hs6⟩ := hsm
  obtain ⟨hf1, hf2, hf3, hf4, hf5⟩ := full_zero hfl
  refine XK.enter (vs := [.agg #[.slice A1 n1 k1, .slice A2 n2 k2, .slice A3 n3 k3, .slice A4 n4 k4]]) Tryz.func88 rfl Tryz.ntmps88 (by simp) ?_
  refine XK.seq ?_

  refine XK.region ?_
  refine xk_box rfl (by decide) fun g1 => ?_
  refine xk_assign rfl (by decide) ?_
  refine XK.nilN ?_
  refine XK.seq ?_
  refine XK.seq ?_

  refine XK.region ?_
  refine xk_assign rfl (by decide) ?_
  refine XK.nilN ?_
  refine XK.envS [(3, .int .i64 0), (1, .pointer (some ⟨g1, 0, none⟩))] ?_
  refine XK.block ?_
  refine XK.loop (fun m e R H => ∃ (i : Nat), i ≤ n2 ∧ (∀ x ∈ s.domains.take i, domainE s.domains.length x = 0) ∧ m = n2 - i ∧ e = [(3, .int .i64 i), (1, .pointer (some ⟨g1, 0, none⟩))] ∧ R = [all w] ∧ H = [HP.blk g1 28 [.slice A1 n1 k1, .slice A2 n2 k2, .slice A3 n3 k3, .slice A4 n4 k4]]) n2 ⟨0, by omega, by simp, rfl, rfl, rfl, rfl⟩ fun m e R H hI => ?_
  obtain ⟨i, hi, hpre, rfl, rfl, rfl, rfl⟩ := hI
  refine XK.seq ?_
  refine XK.seq ?_

  refine XK.region ?_
  refine xk_move rfl (by decide) ?_
  refine xk_field (off := 1) (by kernel_rfl) rfl (by decide) ?_
  refine xk_ld rfl ?_
  refine xk_len (el := 69) (by kernel_rfl) rfl (by decide) ?_
  refine xk_lss rfl rfl (by decide) ?_
  refine XK.nilN ?_
  refine XK.if_ rfl (fun hil => ?_) (fun hil => ?_)
  ·
    refine XK.skip ?_
    refine XK.norm ?_
    refine XK.seq ?_
    refine XK.block ?_
    refine XK.seq ?_
    have hil' : i < n2 := by have h' : (i : Int) < (n2 : Int) := hil; omega
    obtain ⟨d, hd⟩ : ∃ d, s.domains[i]? = some d := ⟨_, List.getElem?_eq_getElem (by omega)⟩
    obtain ⟨b, off, r, rfl, hrl, rfl, hro⟩ := hW.dom.row hd
    have hdE := @domE_if s.domains.length d
    rw [← hn2] at hdE

    refine XK.region ?_
    refine xk_field (off := 1) (by kernel_rfl) rfl (by decide) ?_
    refine xk_ld rfl ?_
    refine xk_move rfl (by decide) ?_
    refine xk_at (i) (off + i * 3) (el := 69) (sz := 3) (by kernel_rfl) (by kernel_rfl) rfl rfl (by omega) (by omega) (by omega) (by decide) ?_
    refine xk_loadN 3 (by kernel_rfl) rfl (RdN.of (vs := [.int .i64 d.above, .int .i64 d.delay, .bool d.ret]) fun j v hj => Rd.roc (by simp) (hro.at_ (j := j) hj)) rfl (by decide) ?_
    refine xk_alloc (cs := [.int .i64 0, .int .i64 0, .bool false]) (zeroB_of (by kernel_rfl)) (by decide) fun g2 => ?_
    (first | (refine xk_storeN 0 rfl rfl rfl (by kernel_rfl) (by simp [Value.cells, Value.oneCell']) (by simp [Value.cells]) ?_) | (refine xk_storeN 1 rfl rfl rfl (by kernel_rfl) (by simp [Value.cells, Value.oneCell']) (by simp [Value.cells]) ?_) | (refine xk_storeN 2 rfl rfl rfl (by kernel_rfl) (by simp [Value.cells, Value.oneCell']) (by simp [Value.cells]) ?_) | (refine xk_storeN 3 rfl rfl rfl (by kernel_rfl) (by simp [Value.cells, Value.oneCell']) (by simp [Value.cells]) ?_) | (refine xk_storeN 4 rfl rfl rfl (by kernel_rfl) (by simp [Value.cells, Value.oneCell']) (by simp [Value.cells]) ?_) | (refine xk_storeN 5 rfl rfl rfl (by kernel_rfl) (by simp [Value.cells, Value.oneCell']) (by simp [Value.cells]) ?_) | (refine xk_storeN 6 rfl rfl rfl (by kernel_rfl) (by simp [Value.cells, Value.oneCell']) (by simp [Value.cells]) ?_) | (refine xk_storeN 7 rfl rfl rfl (by kernel_rfl) (by simp [Value.cells, Value.oneCell']) (by simp [Value.cells]) ?_) | (refine xk_storeN 8 rfl rfl rfl (by kernel_rfl) (by simp [Value.cells, Value.oneCell']) (by simp [Value.cells]) ?_)); simp only [putN, Value.cells, List.set, List.take, List.drop, List.nil_append, List.append_nil, List.length_cons, List.length_nil, List.cons_append, Nat.reduceAdd]
    refine XK.nilN ?_
    refine XK.seq ?_
    refine XK.cutB 28 (¬ d.above = -1 ∧ ¬ (0 ≤ d.above ∧ d.above < (n2 : Int))) ?_ ?_
    · skip

      refine XK.region ?_
      refine xk_field (off := 0) (by kernel_rfl) rfl (by decide) ?_
      refine xk_ld rfl ?_
      refine xk_neq rfl rfl (by decide) ?_
      refine xk_move rfl (by decide) ?_
      refine xk_split (t := 20) rfl (fun hg20 => ?_) (fun hg20 => ?_)
      ·
        refine xk_guardT rfl rfl ?_; refine xk_field (off := 0) (by kernel_rfl) rfl (by decide) ?_
        refine xk_guardT rfl rfl ?_; refine xk_ld rfl ?_
        refine xk_guardT rfl rfl ?_; refine xk_field (off := 1) (by kernel_rfl) rfl (by decide) ?_
        refine xk_guardT rfl rfl ?_; refine xk_ld rfl ?_
        refine xk_guardT rfl rfl ?_; refine xk_len (el := 69) (by kernel_rfl) rfl (by decide) ?_
        refine xk_guardT rfl rfl ?_; refine xk_callR (f := 124) (fi := []) (ca := []) (by kernel_rfl) rfl rfl (by decide) (fun w1 st => refIn5_any _ _ w1) ?_
        refine xk_guardT rfl rfl ?_; refine xk_notD rfl (by decide) ?_
        (first | refine xk_pickT rfl rfl (by decide) ?_ | refine xk_pickF rfl rfl (by decide) ?_)
        refine XK.nilN ?_
        exact XK.meetB (by repeat (first | exact trivial | refine ⟨rfl, ?_⟩)) (by first | (refine get_iff rfl ?_; omega) | (refine get_true rfl ?_; omega) | (refine get_false rfl ?_; omega))
      ·
        refine xk_guardF rfl rfl rfl (by decide) ?_
        refine xk_guardF rfl rfl rfl (by decide) ?_
        refine xk_guardF rfl rfl rfl (by decide) ?_
        refine xk_guardF rfl rfl rfl (by decide) ?_
        refine xk_guardF rfl rfl rfl (by decide) ?_
        refine xk_guardF rfl rfl rfl (by decide) ?_
        refine xk_guardF rfl rfl rfl (by decide) ?_
        (first | refine xk_pickT rfl rfl (by decide) ?_ | refine xk_pickF rfl rfl (by decide) ?_)
        refine XK.nilN ?_
        exact XK.meetB (by repeat (first | exact trivial | refine ⟨rfl, ?_⟩)) (by first | (refine get_iff rfl ?_; omega) | (refine get_true rfl ?_; omega) | (refine get_false rfl ?_; omega))
    refine XK.if_ rfl (fun h28 => ?_) (fun h28 => ?_)
    ·
      refine XK.seq ?_

      refine XK.region ?_
      refine xk_assign rfl (by decide) ?_
      refine XK.nilN ?_
      refine XK.ret ?_
      refine XK.norm ?_
      rw [if_pos h28, hn2] at hdE
      rw [firstM_at hd hpre (by rw [hdE]; decide), hdE, firstE_cons (by decide)]
      exact XK.ret1 rfl rfl fun w1 st => ⟨rfl, st.below (by simp)⟩
    ·
      refine XK.skip ?_
      refine XK.norm ?_
      refine XK.seq ?_

      refine XK.region ?_
      refine xk_field (off := 1) (by kernel_rfl) rfl (by decide) ?_
      refine xk_ld rfl ?_
      refine xk_callR (f := 89) (fi := []) (ca := []) (by kernel_rfl) rfl rfl (by decide) (fun w1 st => refWithin5_any _ _ _ w1) ?_
      refine xk_notD rfl (by decide) ?_
      refine XK.nilN ?_
      refine XK.if_ rfl (fun hdl => ?_) (fun hdl => ?_)
      ·
        refine XK.seq ?_

        refine XK.region ?_
        refine xk_assign rfl (by decide) ?_
        refine XK.nilN ?_
        refine XK.ret ?_
        refine XK.norm ?_
        rw [if_neg h28, if_neg hdl, hn2] at hdE
        rw [firstM_at hd hpre (by rw [hdE]; decide), hdE, firstE_cons (by decide)]
        exact XK.ret1 rfl rfl fun w1 st => ⟨rfl, st.below (by simp)⟩
      ·
        refine XK.skip ?_
        refine XK.norm ?_

        refine XK.region ?_
        refine xk_move rfl (by decide) ?_
        refine xk_add rfl rfl (wrap_in (by omega)) (by decide) ?_
        refine xk_assign rfl (by decide) ?_
        refine XK.nilN ?_
        exact XK.weak [1] rfl (by decide) (fun _ h => h) (XK.envS [(3, .int .i64 ((i : Int) + 1)), (1, .pointer (some ⟨g1, 0, none⟩))] (XK.round (n2 - (i + 1)) (by omega) ⟨i + 1, by omega, take_snoc hd hpre (by rw [if_neg h28, if_pos (Classical.not_not.1 hdl), hn2] at hdE; exact hdE), rfl, rfl, rfl, rfl⟩))
  ·
    refine XK.exit ?_
    refine XK.norm ?_
    refine XK.seq ?_

    refine XK.region ?_
    refine xk_ldN 4 rfl ?_
    have hall := take_all (by omega) hpre
    refine xk_call [] (f := 125) (fi := []) (ca := []) (by kernel_rfl) rfl rfl (by decide) (by simp) (GrOk (domsG s)) (fun w1 st => refDoms_any s A1 A2 A3 A4 n1 k1 n2 k2 n3 k3 n4 k4 w1 (hW.le (st.started (by simp)))) ?_
    rintro _ w1 qa ⟨Ag, cg, rfl, hgr⟩ hf _ _
    have hgr := hgr.le hf
    clear hf
    refine xk_callR (f := 122) (fi := []) (ca := []) (by kernel_rfl) rfl rfl (by decide) (fun w1 st => refCheckG_any Ag _ cg (domsG s) w1 (hgr.le (st.le (by simp))) rfl (by simp [domsG]; omega) (fun l hl => by
        simp only [domsG, List.mem_map] at hl
        obtain ⟨z, _, rfl⟩ := hl
        split <;> simp) (doms_in hall)) ?_
    refine xk_assign rfl (by decide) ?_
    refine XK.nilN ?_
    refine XK.ret ?_
    refine XK.norm ?_
    rw [firstE_map0 hall, firstE_cons0, show firstE [cycE (domsG s)] = cycE (domsG s) from by rw [firstE_if]; split <;> simp_all [firstE_nil]]
    exact XK.ret1 rfl rfl fun w1 st => ⟨rfl, st.below (by simp)⟩

theorem refNeeds5_any (s : Soc) (A1 A2 A3 A4 : Option Addr) (n1 k1 n2 k2 n3 k3 n4 k4 : Nat) (w : World) (hW : SocW w s A1 n1 A2 n2 A3 n3 A4 n4) :
    Calls Tryz.prog 126 #[.agg #[.slice A1 n1 k1, .slice A2 n2 k2, .slice A3 n3 k3, .slice A4 n4 k4]] w (fun y w' => (∃ v, y = .returned v ∧ GrOk (needsG s) v w w') ∧ Below w.heap.size w w') := by
  have hn := hW.len4
  have hsm := hW.small
  unfold Soc.small at hsm
  obtain ⟨hs1, hs2, hs3, hs4, hs5, hs6⟩ := hsm
  refine XK.enter (vs := [.agg #[.slice A1 n1 k1, .slice A2 n2 k2, .slice A3 n3 k3, .slice A4 n4 k4]]) Tryz.func126 rfl Tryz.ntmps126 (by simp) ?_
  refine XK.seq ?_

  refine XK.region ?_
  refine xk_box rfl (by decide) fun g1 => ?_
  refine xk_assign rfl (by decide) ?_
  refine XK.nilN ?_
  refine XK.seq ?_

  refine XK.region ?_
  refine xk_assign rfl (by decide) ?_
  refine XK.nilN ?_
  refine XK.seq ?_
  refine XK.seq ?_

  refine XK.region ?_
  refine xk_assign rfl (by decide) ?_
  refine XK.nilN ?_
  refine XK.envS [(4, .int .i64 0), (3, .slice none 0 0), (1, .pointer (some ⟨g1, 0, none⟩))] ?_
  refine XK.nilrow 40 1 ?_
  refine XK.still [] [] [0, 1] (by simp) rfl (by decide) (by decide) fun q0 _ _ hfr0 => ?_
  refine XK.block ?_
  refine XK.loop (fun m e R H => ∃ (k : Nat) (vs : List Value) (q : Piece) (Ag : Option Addr) (cg : Nat), k ≤ n4 ∧ m = n4 - k ∧ Fresh w q ∧ Rows (LstR (slq q)) 1 ((needsG s).take k) (vs.map fun v => [v]) ∧ e = [(4, .int .i64 k), (3, .slice Ag k cg), (1, .pointer (some ⟨g1, 0, none⟩))] ∧ R = [q, all w] ∧ H = [HP.own 40 1 (.slice Ag k cg) k vs, HP.blk g1 28 [.slice A1 n1 k1, .slice A2 n2 k2, .slice A3 n3 k3, .slice A4 n4 k4]]) n4 ⟨0, [], _, none, 0, by omega, rfl, hfr0 (by simp) (by simp), trivial, rfl, rfl, rfl⟩ fun m e R H hI => ?_
  obtain ⟨k, vs, q, Ag, cg, hk, rfl, hfq, hrows, rfl, rfl, rfl⟩ := hI
  refine XK.seq ?_
  refine XK.seq ?_

  refine XK.region ?_
  refine xk_move rfl (by decide) ?_
  refine xk_field (off := 3) (by kernel_rfl) rfl (by decide) ?_
  refine xk_ld rfl ?_
  refine xk_len (el := 51) (by kernel_rfl) rfl (by decide) ?_
  refine xk_lss rfl rfl (by decide) ?_
  refine XK.nilN ?_
  refine XK.if_ rfl (fun h => ?_) (fun h => ?_)
  ·
    refine XK.skip ?_
    refine XK.norm ?_
    refine XK.seq ?_
    refine XK.block ?_
    have hkn : k < s.devs.length := by omega
    obtain ⟨e, he⟩ : ∃ e, s.devs[k]? = some e := ⟨_, List.getElem?_eq_getElem hkn⟩
    obtain ⟨b, off, r, rfl, hrl, hR, hro⟩ := hW.dev.row he
    obtain ⟨Ar, nr, kr, Af, nf, kf, rfl, hnr9, hnf, hsr, hsf⟩ := hR
    have hgk : (needsG s)[k]? = some (e.needs) := by simp [needsG, he]

    refine XK.region ?_
    refine xk_move rfl (by decide) ?_
    refine xk_slice0 (el := 3) (sz := 1) (by kernel_rfl) (by kernel_rfl) (by decide) fun g4 => ?_
    refine XK.asOwn 0 1 0 rfl rfl (by omega) ?_
    dsimp only [List.set]
    refine xk_field (off := 3) (by kernel_rfl) rfl (by decide) ?_
    refine xk_ld rfl ?_
    refine xk_move rfl (by decide) ?_
    refine xk_at k (off + k * 6) (el := 51) (sz := 6) (by kernel_rfl) (by kernel_rfl) rfl rfl (by omega) (by omega) (by omega) (by decide) ?_
    refine xk_field (off := 5) (by kernel_rfl) rfl (by decide) ?_
    refine xk_load (by kernel_rfl) rfl (Rd.roc (by simp) (hro.at_ (j := 5) rfl)) (by decide) ?_
    refine xk_appendT 0 1 8 nf (n' := nf) (el := 3) (by kernel_rfl) (by kernel_rfl) (by decide) rfl rfl rfl (sl_ro (p := all w) (by simp) hsf) (by simp [intCells, Value.oneCell']) (by omega) (by have := hs6 e (List.mem_of_getElem? he); omega) (by have := hs6 e (List.mem_of_getElem? he); omega) (by decide) fun A5 c5 => ?_
    dsimp only [List.set, List.nil_append]
    refine xk_slice (el := 40) (sz := 1) (zs := [.slice none 0 0]) (by kernel_rfl) (zeroB_of (by kernel_rfl)) (by kernel_rfl) rfl (by decide) (by decide) rfl (by simp [fillL, setN, Value.cells, List.range_succ, List.set]; rfl) (by decide) fun g3 => ?_
    refine xk_appendT 2 1 24 1 (n' := k + 1) (el := 40) (by kernel_rfl) (by kernel_rfl) (by decide) rfl rfl rfl (sl_blk 0 rfl rfl) (by simp [Value.oneCell']) rfl (by omega) (by omega) (by decide) fun A6 c6 => ?_
    dsimp only [List.set]
    refine xk_assign rfl (by decide) ?_
    refine XK.nilN ?_

    refine XK.region ?_
    refine xk_move rfl (by decide) ?_
    refine xk_add rfl rfl (wrap_in (by omega)) (by decide) ?_
    refine xk_assign rfl (by decide) ?_
    refine XK.nilN ?_
    refine XK.still [q] [1] [2, 3] (by simp) rfl (by decide) (by decide) fun q' hq' hle hfr' => ?_
    obtain ⟨Fg, hsg, hzg⟩ := hq' 1 _ (by simp) rfl
    obtain ⟨A7, c7, e7, hso⟩ := SlS.of_own (Y := q'.Z) hsg hzg
    injection e7 with f1 f2 f3
    subst f1
    exact XK.weak [0, 1] rfl (by decide) (by simp) (XK.envS [(4, .int .i64 (k + 1)), (3, .slice A6 (k + 1) c6), (1, .pointer (some ⟨g1, 0, none⟩))] (XK.round (n4 - (k + 1)) (by omega) ⟨k + 1, vs ++ [_], q', A6, c6, by omega, rfl, hfr' (by simp) (by simpa using hfq), rows_next hrows (hle q (by simp)) hgk ⟨A5, nf, c5, rfl, hnf, hso⟩, rfl, rfl, rfl⟩))
  ·
    refine XK.exit ?_
    refine XK.norm ?_
    refine XK.seq ?_
    obtain rfl : k = n4 := by omega
    rw [List.take_of_length_le (by simp [needsG]; omega)] at hrows

    refine XK.region ?_
    refine xk_move rfl (by decide) ?_
    refine xk_assign rfl (by decide) ?_
    refine XK.nilN ?_
    refine XK.ret ?_
    refine XK.norm ?_
    refine XK.still [q] [0] [] (by simp) rfl (by decide) (by decide) fun q2 hq hle hfr => ?_
    have hgl : k = (needsG s).length := by simp [needsG]; omega
    exact XK.ret1 rfl rfl fun w1 st => ⟨⟨_, rfl, Ag, cg, by rw [← hgl], by rw [← hgl]; exact (GrS.ofOwn hrows (hle q (by simp)) (hq 0 _ (by simp) rfl) hgl).le (st.fresh_le (by simp) (hfr (by simp) (by simpa using hfq)))⟩, st.below (by simp)⟩

section
variable {n1 n2 n3 n4 : Nat} {d : Dev}
theorem devE_if : deviceE n1 n2 n3 n4 d = if ¬ (0 ≤ d.clock ∧ d.clock < (n1 : Int)) ∨ ¬ (0 ≤ d.domain ∧ d.domain < (n2 : Int)) ∨ ¬ (0 ≤ d.reset ∧ d.reset < (n3 : Int)) then 4 else firstE (d.needs.map fun f => whenE (!withinB f 0 ((n4 : Int) - 1)) 4) := by
  unfold deviceE
  rw [srcE, srcE, srcE]
  by_cases h1 : 0 ≤ d.clock ∧ d.clock < (n1 : Int)
  · rw [if_pos h1, firstE_cons0]
    by_cases h2 : 0 ≤ d.domain ∧ d.domain < (n2 : Int)
    · rw [if_pos h2, firstE_cons0]
      by_cases h3 : 0 ≤ d.reset ∧ d.reset < (n3 : Int)
      · rw [if_pos h3, firstE_cons0, if_neg (by omega), firstE_if]
        split <;> simp_all [firstE_nil]
      · rw [if_neg h3, if_pos (show ¬ (0 ≤ d.clock ∧ d.clock < (n1 : Int)) ∨ ¬ (0 ≤ d.domain ∧ d.domain < (n2 : Int)) ∨ ¬ (0 ≤ d.reset ∧ d.reset < (n3 : Int)) from .inr (.inr h3))]; rfl
    · rw [if_neg h2, if_pos (show ¬ (0 ≤ d.clock ∧ d.clock < (n1 : Int)) ∨ ¬ (0 ≤ d.domain ∧ d.domain < (n2 : Int)) ∨ ¬ (0 ≤ d.reset ∧ d.reset < (n3 : Int)) from .inr (.inl h2))]; rfl
  · rw [if_neg h1, if_pos (show ¬ (0 ≤ d.clock ∧ d.clock < (n1 : Int)) ∨ ¬ (0 ≤ d.domain ∧ d.domain < (n2 : Int)) ∨ ¬ (0 ≤ d.reset ∧ d.reset < (n3 : Int)) from .inl h1)]; rfl
end
theorem devs_in {s : Soc} (h : ∀ d ∈ s.devs, deviceE s.clocks.length s.domains.length s.resets.length s.devs.length d = 0) : InG (needsG s) := by
  intro l hl u hu
  simp only [needsG, List.mem_map] at hl
  obtain ⟨z, hz, rfl⟩ := hl
  have h1 := h z hz
  rw [devE_if] at h1
  split at h1
  · cases h1
  · have h2 := firstE_zero h1 _ (List.mem_map.2 ⟨u, hu, rfl⟩)
    rw [srcE] at h2
    have h4 : (needsG s).length = s.devs.length := by simp [needsG]
    rw [h4]
    by_cases h3 : 0 ≤ u ∧ u < (s.devs.length : Int)
    · exact h3
    · rw [if_neg h3] at h2; cases h2

theorem refDevsG_any (s : Soc) (A1 A2 A3 A4 : Option Addr) (n1 k1 n2 k2 n3 k3 n4 k4 : Nat) (w : World) (hW : SocW w s A1 n1 A2 n2 A3 n3 A4 n4) (hfl : fullE s = 0) : Calls Tryz.prog 90 #[.agg #[.slice A1 n1 k1, .slice A2 n2 k2, .slice A3 n3 k3, .slice A4 n4 k4]] w (Rt (.int .i64 (firstE [firstE (s.devs.map (deviceE s.clocks.length s.domains.length s.resets.length s.devs.length)), cycE (needsG s)])) w) := by
  have hn1 := hW.len1
  have hn2 := hW.len2
  have hn3 := hW.len3
  have hn4 := hW.len4
  have hsm := hW.small
  unfold Soc.small at hsm
  obtain ⟨hs1, hs2, hs3, hs4, hs5, hs6⟩ := hsm
  obtain ⟨hf1, hf2, hf3, hf4, hf5⟩ := full_zero hfl
  refine XK.enter (vs := [.agg #[.slice A1 n1 k1, .slice A2 n2 k2, .slice A3 n3 k3, .slice A4 n4 k4]]) Tryz.func90 rfl Tryz.ntmps90 (by simp) ?_
  refine XK.seq ?_

  refine XK.region ?_
  refine xk_box rfl (by decide) fun g1 => ?_
  refine xk_assign rfl (by decide) ?_
  refine XK.nilN ?_
  refine XK.seq ?_
  refine XK.seq ?_

  refine XK.region ?_
  refine xk_assign rfl (by decide) ?_
  refine XK.nilN ?_
  refine XK.envS [(3, .int .i64 0), (1, .pointer (some ⟨g1, 0, none⟩))] ?_
  refine XK.block ?_
  refine XK.loop (fun m e R H => ∃ (i : Nat), i ≤ n4 ∧ (∀ x ∈ s.devs.take i, deviceE s.clocks.length s.domains.length s.resets.length s.devs.length x = 0) ∧ m = n4 - i ∧ e = [(3, .int .i64 i), (1, .pointer (some ⟨g1, 0, none⟩))] ∧ R = [all w] ∧ H = [HP.blk g1 28 [.slice A1 n1 k1, .slice A2 n2 k2, .slice A3 n3 k3, .slice A4 n4 k4]]) n4 ⟨0, by omega, by simp, rfl, rfl, rfl, rfl⟩ fun m e R H hI => ?_
  obtain ⟨i, hi, hpre, rfl, rfl, rfl, rfl⟩ := hI
  refine XK.seq ?_
  refine XK.seq ?_

  refine XK.region ?_
  refine xk_move rfl (by decide) ?_
  refine xk_field (off := 3) (by kernel_rfl) rfl (by decide) ?_
  refine xk_ld rfl ?_
  refine xk_len (el := 51) (by kernel_rfl) rfl (by decide) ?_
  refine xk_lss rfl rfl (by decide) ?_
  refine XK.nilN ?_
  refine XK.if_ rfl (fun hil => ?_) (fun hil => ?_)
  ·
    refine XK.skip ?_
    refine XK.norm ?_
    refine XK.seq ?_
    refine XK.block ?_
    refine XK.seq ?_
    have hil' : i < n4 := by have h' : (i : Int) < (n4 : Int) := hil; omega
    obtain ⟨d, hd⟩ : ∃ d, s.devs[i]? = some d := ⟨_, List.getElem?_eq_getElem (by omega)⟩
    obtain ⟨b, off, r, rfl, hrl, hR, hro⟩ := hW.dev.row hd
    obtain ⟨Ar, nr, kr, An, nn, kn, rfl, hnr9, hnn9, hsr, hsn⟩ := hR
    have hdE := @devE_if n1 n2 n3 n4 d
    have hsd := hs6 d (List.mem_of_getElem? hd)

    refine XK.region ?_
    refine xk_field (off := 3) (by kernel_rfl) rfl (by decide) ?_
    refine xk_ld rfl ?_
    refine xk_move rfl (by decide) ?_
    refine xk_at (i) (off + i * 6) (el := 51) (sz := 6) (by kernel_rfl) (by kernel_rfl) rfl rfl (by omega) (by omega) (by omega) (by decide) ?_
    refine xk_loadN 6 (by kernel_rfl) rfl (RdN.of (vs := [.int .i64 d.clock, .int .i64 d.domain, .int .i64 d.reset, .int .u32 d.clamp, .slice Ar nr kr, .slice An nn kn]) fun j v hj => Rd.roc (by simp) (hro.at_ (j := j) hj)) rfl (by decide) ?_
    refine xk_alloc (cs := [.int .i64 0, .int .i64 0, .int .i64 0, .int .u32 0, .slice none 0 0, .slice none 0 0]) (zeroB_of (by kernel_rfl)) (by decide) fun g2 => ?_
    (first | (refine xk_storeN 0 rfl rfl rfl (by kernel_rfl) (by simp [Value.cells, Value.oneCell']) (by simp [Value.cells]) ?_) | (refine xk_storeN 1 rfl rfl rfl (by kernel_rfl) (by simp [Value.cells, Value.oneCell']) (by simp [Value.cells]) ?_) | (refine xk_storeN 2 rfl rfl rfl (by kernel_rfl) (by simp [Value.cells, Value.oneCell']) (by simp [Value.cells]) ?_) | (refine xk_storeN 3 rfl rfl rfl (by kernel_rfl) (by simp [Value.cells, Value.oneCell']) (by simp [Value.cells]) ?_) | (refine xk_storeN 4 rfl rfl rfl (by kernel_rfl) (by simp [Value.cells, Value.oneCell']) (by simp [Value.cells]) ?_) | (refine xk_storeN 5 rfl rfl rfl (by kernel_rfl) (by simp [Value.cells, Value.oneCell']) (by simp [Value.cells]) ?_) | (refine xk_storeN 6 rfl rfl rfl (by kernel_rfl) (by simp [Value.cells, Value.oneCell']) (by simp [Value.cells]) ?_) | (refine xk_storeN 7 rfl rfl rfl (by kernel_rfl) (by simp [Value.cells, Value.oneCell']) (by simp [Value.cells]) ?_) | (refine xk_storeN 8 rfl rfl rfl (by kernel_rfl) (by simp [Value.cells, Value.oneCell']) (by simp [Value.cells]) ?_)); simp only [putN, Value.cells, List.set, List.take, List.drop, List.nil_append, List.append_nil, List.length_cons, List.length_nil, List.cons_append, Nat.reduceAdd]
    refine XK.nilN ?_
    refine XK.seq ?_
    refine XK.cutB 42 (¬ (0 ≤ d.clock ∧ d.clock < (n1 : Int)) ∨ ¬ (0 ≤ d.domain ∧ d.domain < (n2 : Int)) ∨ ¬ (0 ≤ d.reset ∧ d.reset < (n3 : Int))) ?_ ?_
    · skip

      refine XK.region ?_
      refine xk_field (off := 0) (by kernel_rfl) rfl (by decide) ?_
      refine xk_ld rfl ?_
      refine xk_field (off := 0) (by kernel_rfl) rfl (by decide) ?_
      refine xk_ld rfl ?_
      refine xk_len (el := 55) (by kernel_rfl) rfl (by decide) ?_
      refine xk_callR (f := 124) (fi := []) (ca := []) (by kernel_rfl) rfl rfl (by decide) (fun w1 st => refIn5_any _ _ w1) ?_
      refine xk_notD rfl (by decide) ?_
      refine xk_move rfl (by decide) ?_
      refine xk_split (t := 25) rfl (fun hg25 => ?_) (fun hg25 => ?_)
      ·
        refine xk_guardF rfl rfl rfl (by decide) ?_
        refine xk_guardF rfl rfl rfl (by decide) ?_
        refine xk_guardF rfl rfl rfl (by decide) ?_
        refine xk_guardF rfl rfl rfl (by decide) ?_
        refine xk_guardF rfl rfl rfl (by decide) ?_
        refine xk_guardF rfl rfl rfl (by decide) ?_
        refine xk_guardF rfl rfl rfl (by decide) ?_
        (first | refine xk_pickT rfl rfl (by decide) ?_ | refine xk_pickF rfl rfl (by decide) ?_)
        refine xk_move rfl (by decide) ?_
        refine xk_guardF rfl rfl rfl (by decide) ?_
        refine xk_guardF rfl rfl rfl (by decide) ?_
        refine xk_guardF rfl rfl rfl (by decide) ?_
        refine xk_guardF rfl rfl rfl (by decide) ?_
        refine xk_guardF rfl rfl rfl (by decide) ?_
        refine xk_guardF rfl rfl rfl (by decide) ?_
        refine xk_guardF rfl rfl rfl (by decide) ?_
        (first | refine xk_pickT rfl rfl (by decide) ?_ | refine xk_pickF rfl rfl (by decide) ?_)
        refine XK.nilN ?_
        exact XK.meetB (by repeat (first | exact trivial | refine ⟨rfl, ?_⟩)) (by first | (refine get_iff rfl ?_; omega) | (refine get_true rfl ?_; omega) | (refine get_false rfl ?_; omega))
      ·
        refine xk_guardT rfl rfl ?_; refine xk_field (off := 1) (by kernel_rfl) rfl (by decide) ?_
        refine xk_guardT rfl rfl ?_; refine xk_ld rfl ?_
        refine xk_guardT rfl rfl ?_; refine xk_field (off := 1) (by kernel_rfl) rfl (by decide) ?_
        refine xk_guardT rfl rfl ?_; refine xk_ld rfl ?_
        refine xk_guardT rfl rfl ?_; refine xk_len (el := 69) (by kernel_rfl) rfl (by decide) ?_
        refine xk_guardT rfl rfl ?_; refine xk_callR (f := 124) (fi := []) (ca := []) (by kernel_rfl) rfl rfl (by decide) (fun w1 st => refIn5_any _ _ w1) ?_
        refine xk_guardT rfl rfl ?_; refine xk_notD rfl (by decide) ?_
        (first | refine xk_pickT rfl rfl (by decide) ?_ | refine xk_pickF rfl rfl (by decide) ?_)
        refine xk_move rfl (by decide) ?_
        refine xk_split (t := 34) rfl (fun hg34 => ?_) (fun hg34 => ?_)
        ·
          refine xk_guardF rfl rfl rfl (by decide) ?_
          refine xk_guardF rfl rfl rfl (by decide) ?_
          refine xk_guardF rfl rfl rfl (by decide) ?_
          refine xk_guardF rfl rfl rfl (by decide) ?_
          refine xk_guardF rfl rfl rfl (by decide) ?_
          refine xk_guardF rfl rfl rfl (by decide) ?_
          refine xk_guardF rfl rfl rfl (by decide) ?_
          (first | refine xk_pickT rfl rfl (by decide) ?_ | refine xk_pickF rfl rfl (by decide) ?_)
          refine XK.nilN ?_
          exact XK.meetB (by repeat (first | exact trivial | refine ⟨rfl, ?_⟩)) (by first | (refine get_iff rfl ?_; omega) | (refine get_true rfl ?_; omega) | (refine get_false rfl ?_; omega))
        ·
          refine xk_guardT rfl rfl ?_; refine xk_field (off := 2) (by kernel_rfl) rfl (by decide) ?_
          refine xk_guardT rfl rfl ?_; refine xk_ld rfl ?_
          refine xk_guardT rfl rfl ?_; refine xk_field (off := 2) (by kernel_rfl) rfl (by decide) ?_
          refine xk_guardT rfl rfl ?_; refine xk_ld rfl ?_
          refine xk_guardT rfl rfl ?_; refine xk_len (el := 71) (by kernel_rfl) rfl (by decide) ?_
          refine xk_guardT rfl rfl ?_; refine xk_callR (f := 124) (fi := []) (ca := []) (by kernel_rfl) rfl rfl (by decide) (fun w1 st => refIn5_any _ _ w1) ?_
          refine xk_guardT rfl rfl ?_; refine xk_notD rfl (by decide) ?_
          (first | refine xk_pickT rfl rfl (by decide) ?_ | refine xk_pickF rfl rfl (by decide) ?_)
          refine XK.nilN ?_
          exact XK.meetB (by repeat (first | exact trivial | refine ⟨rfl, ?_⟩)) (by first | (refine get_iff rfl ?_; omega) | (refine get_true rfl ?_; omega) | (refine get_false rfl ?_; omega))
    refine XK.if_ rfl (fun h42 => ?_) (fun h42 => ?_)
    ·
      refine XK.seq ?_

      refine XK.region ?_
      refine xk_assign rfl (by decide) ?_
      refine XK.nilN ?_
      refine XK.ret ?_
      refine XK.norm ?_
      rw [if_pos h42, hn1, hn2, hn3, hn4] at hdE
      rw [firstM_at hd hpre (by rw [hdE]; decide), hdE, firstE_cons (by decide)]
      exact XK.ret1 rfl rfl fun w1 st => ⟨rfl, st.below (by simp)⟩
    ·
      refine XK.skip ?_
      refine XK.norm ?_
      refine XK.seq ?_
      rw [if_neg h42, hn1, hn2, hn3] at hdE

      refine XK.region ?_
      refine xk_assign rfl (by decide) ?_
      refine XK.nilN ?_
      refine XK.envS [(5, .int .i64 0), (4, .pointer (some ⟨g2, 0, none⟩)), (3, .int .i64 i), (1, .pointer (some ⟨g1, 0, none⟩))] ?_
      refine XK.block ?_
      refine XK.loop (fun m e R H => ∃ (k : Nat), k ≤ nn ∧ (∀ x ∈ d.needs.take k, 0 ≤ x ∧ x < (n4 : Int)) ∧ m = nn - k ∧ e = [(5, .int .i64 k), (4, .pointer (some ⟨g2, 0, none⟩)), (3, .int .i64 i), (1, .pointer (some ⟨g1, 0, none⟩))] ∧ R = [all w] ∧ H = [HP.blk g2 51 [.int .i64 d.clock, .int .i64 d.domain, .int .i64 d.reset, .int .u32 d.clamp, .slice Ar nr kr, .slice An nn kn], HP.blk g1 28 [.slice A1 n1 k1, .slice A2 n2 k2, .slice A3 n3 k3, .slice (some ⟨b, off, none⟩) n4 k4]]) nn ⟨0, by omega, by simp, rfl, rfl, rfl, rfl⟩ fun m e R H hI => ?_
      obtain ⟨k, hk, hprk, rfl, rfl, rfl, rfl⟩ := hI
      refine XK.seq ?_
      refine XK.seq ?_

      refine XK.region ?_
      refine xk_move rfl (by decide) ?_
      refine xk_field (off := 5) (by kernel_rfl) rfl (by decide) ?_
      refine xk_ld rfl ?_
      refine xk_len (el := 3) (by kernel_rfl) rfl (by decide) ?_
      refine xk_lss rfl rfl (by decide) ?_
      refine XK.nilN ?_
      refine XK.if_ rfl (fun hkl => ?_) (fun hkl => ?_)
      ·
        refine XK.skip ?_
        refine XK.norm ?_
        refine XK.seq ?_
        refine XK.block ?_
        refine XK.seq ?_
        have hkl' : k < nn := by have h' : (k : Int) < (nn : Int) := hkl; omega
        obtain ⟨y, hy⟩ : ∃ y, d.needs[k]? = some y := ⟨_, List.getElem?_eq_getElem (by omega)⟩
        obtain ⟨bI, oI, hAI, hcI⟩ := SlS.intR hsn (by omega)
        subst hAI
        have hcy := hcI k y hy

        refine XK.draw 8 (by kernel_rfl) (by kernel_rfl) ?_
        refine XA.dA 0 rfl rfl rfl (does_field (off := 5) (by kernel_rfl) rfl) ?_
        refine XA.dA 1 rfl rfl rfl (does_ld rfl) ?_
        refine XA.dA 2 rfl rfl rfl (does_move rfl) ?_
        refine XA.dA 3 rfl rfl rfl (does_at (k) (oI + k) (el := 3) (sz := 1) (by kernel_rfl) (by kernel_rfl) rfl rfl (by omega) (by omega) (by omega)) ?_
        refine XA.dA 4 rfl rfl rfl (does_load (by kernel_rfl) rfl (Rd.roc (by simp) hcy)) ?_
        refine XA.dA 5 rfl rfl rfl (does_field (off := 3) (by kernel_rfl) rfl) ?_
        refine XA.dA 6 rfl rfl rfl (does_ld rfl) ?_
        refine XA.dA 7 rfl rfl rfl (does_len (el := 51) (by kernel_rfl) rfl) ?_
        refine XA.next 8 rfl (by kernel_rfl) ?_
        refine xk_callR (f := 124) (fi := []) (ca := []) (by kernel_rfl) rfl rfl (by decide) (fun w1 st => refIn5_any _ _ w1) ?_
        refine XA.bt ?_
        refine XA.next 9 rfl (by kernel_rfl) ?_
        refine xk_notD rfl (by decide) ?_
        refine XA.bt ?_
        refine XA.done (by kernel_rfl) ?_
        refine XK.norm ?_
        refine XK.if_ rfl (fun hyn => ?_) (fun hyn => ?_)
        ·
          refine XK.seq ?_

          refine XK.region ?_
          refine xk_assign rfl (by decide) ?_
          refine XK.nilN ?_
          refine XK.ret ?_
          refine XK.norm ?_
          rw [firstM_at (f := fun f => whenE (!withinB f 0 ((n4 : Int) - 1)) 4) hy (fun x hx => by rw [srcE, if_pos (hprk x hx)]) (by rw [srcE, if_neg hyn]; decide)] at hdE
          rw [srcE, if_neg hyn, hn4] at hdE
          rw [firstM_at hd hpre (by rw [hdE]; decide), hdE, firstE_cons (by decide)]
          exact XK.ret1 rfl rfl fun w1 st => ⟨rfl, st.below (by simp)⟩
        ·
          refine XK.skip ?_
          refine XK.norm ?_

          refine XK.region ?_
          refine xk_move rfl (by decide) ?_
          refine xk_add rfl rfl (wrap_in (by omega)) (by decide) ?_
          refine xk_assign rfl (by decide) ?_
          refine XK.nilN ?_
          exact XK.envS [(5, .int .i64 ((k : Int) + 1)), (4, .pointer (some ⟨g2, 0, none⟩)), (3, .int .i64 i), (1, .pointer (some ⟨g1, 0, none⟩))] (XK.round (nn - (k + 1)) (by omega) ⟨k + 1, by omega, take_snoc hy hprk (Classical.not_not.1 hyn), rfl, rfl, rfl, rfl⟩)
      ·
        refine XK.exit ?_
        refine XK.norm ?_

        refine XK.region ?_
        refine xk_move rfl (by decide) ?_
        refine xk_add rfl rfl (wrap_in (by omega)) (by decide) ?_
        refine xk_assign rfl (by decide) ?_
        refine XK.nilN ?_
        have halk := take_all (by omega) hprk
        rw [firstE_map0 (f := fun f => whenE (!withinB f 0 ((n4 : Int) - 1)) 4) (fun x hx => by rw [srcE, if_pos (halk x hx)]), hn4] at hdE
        exact XK.weak [1] rfl (by decide) (fun _ h => h) (XK.envS [(3, .int .i64 ((i : Int) + 1)), (1, .pointer (some ⟨g1, 0, none⟩))] (XK.round (n4 - (i + 1)) (by omega) ⟨i + 1, by omega, take_snoc hd hpre hdE, rfl, rfl, rfl, rfl⟩))
  ·
    refine XK.exit ?_
    refine XK.norm ?_
    refine XK.seq ?_

    refine XK.region ?_
    refine xk_ldN 4 rfl ?_
    have hall := take_all (by omega) hpre
    refine xk_call [] (f := 126) (fi := []) (ca := []) (by kernel_rfl) rfl rfl (by decide) (by simp) (GrOk (needsG s)) (fun w1 st => refNeeds5_any s A1 A2 A3 A4 n1 k1 n2 k2 n3 k3 n4 k4 w1 (hW.le (st.started (by simp)))) ?_
    rintro _ w1 qa ⟨Ag, cg, rfl, hgr⟩ hf _ _
    have hgr := hgr.le hf
    clear hf
    refine xk_callR (f := 122) (fi := []) (ca := []) (by kernel_rfl) rfl rfl (by decide) (fun w1 st => refCheckG_any Ag _ cg (needsG s) w1 (hgr.le (st.le (by simp))) rfl (by simp [needsG]; omega) (fun l hl => by
        simp only [needsG, List.mem_map] at hl
        obtain ⟨z, hz, rfl⟩ := hl
        have := hs6 z hz; omega) (devs_in hall)) ?_
    refine xk_assign rfl (by decide) ?_
    refine XK.nilN ?_
    refine XK.ret ?_
    refine XK.norm ?_
    rw [firstE_map0 hall, firstE_cons0, show firstE [cycE (needsG s)] = cycE (needsG s) from by rw [firstE_if]; split <;> simp_all [firstE_nil]]
    exact XK.ret1 rfl rfl fun w1 st => ⟨rfl, st.below (by simp)⟩

theorem firstE_app : ∀ (a b : List Int), firstE (a ++ b) = if firstE a = 0 then firstE b else firstE a
  | [], b => by rw [List.nil_append, firstE_nil, if_pos rfl]
  | e :: a, b => by
    rw [List.cons_append, firstE_if, firstE_if (es := a)]
    by_cases h : e = 0
    · rw [if_pos h, if_pos h]; exact firstE_app a b
    · rw [if_neg h, if_neg h, if_neg h]
theorem resetE_if {r : Int} : resetE r = if 0 ≤ r ∧ r ≤ 20 then 0 else 3 := by
  unfold resetE
  cases h : withinB r 0 20 with
  | true => rw [within_iff] at h; rw [if_pos h]; rfl
  | false => rw [within_iff_f] at h; rw [if_neg h]; rfl
def chkA (s : Soc) : Int := firstE [firstE (s.clocks.map (clockE s.clocks.length)), cycE (clocksG s)]
def chkB (s : Soc) : Int := firstE [firstE (s.domains.map (domainE s.domains.length)), cycE (domsG s)]
def chkC (s : Soc) : Int := firstE (s.resets.map resetE)
def chkD (s : Soc) : Int := firstE [firstE (s.devs.map (deviceE s.clocks.length s.domains.length s.resets.length s.devs.length)), cycE (needsG s)]
theorem checkS_if (s : Soc) : checkS s = if fullE s = 0 then (if chkA s = 0 then (if chkB s = 0 then (if chkC s = 0 then chkD s else chkC s) else chkB s) else chkA s) else fullE s := by
  unfold checkS checkL
  rw [firstE_if]
  split
  · rw [show ∀ a b c d e f g : Int, [a, b, c, d, e, f, g] = [a, b] ++ ([c, d] ++ (e :: [f, g])) from fun _ _ _ _ _ _ _ => rfl, firstE_app, firstE_app, firstE_if (e := firstE (s.resets.map resetE))]
    rfl
  · rfl
theorem fullE_8 {s : Soc} (h : fullE s ≠ 0) : fullE s = 8 := by
  revert h
  unfold fullE
  split
  · intro _; rfl
  · intro h
    unfold firstE at h ⊢
    cases hf : (s.devs.map manyE).find? (fun e => decide (e ≠ 0)) with
    | none => rw [hf] at h; exact absurd rfl h
    | some x =>
      have h1 := List.mem_of_find?_eq_some hf
      have h2 := List.find?_some hf
      rw [List.mem_map] at h1
      obtain ⟨d, _, rfl⟩ := h1
      rw [manyE_eq] at h2 ⊢
      split
      · rfl
      · rename_i h3
        rw [if_neg h3] at h2
        simp at h2

theorem refChkG_any (s : Soc) (A1 A2 A3 A4 : Option Addr) (n1 k1 n2 k2 n3 k3 n4 k4 : Nat) (w : World) (hW : SocW w s A1 n1 A2 n2 A3 n3 A4 n4) : Calls Tryz.prog 29 #[.agg #[.slice A1 n1 k1, .slice A2 n2 k2, .slice A3 n3 k3, .slice A4 n4 k4]] w (Rt (.int .i64 (checkS s)) w) := by
  have hn1 := hW.len1
  have hn2 := hW.len2
  have hn3 := hW.len3
  have hn4 := hW.len4
  have hsm := hW.small
  unfold Soc.small at hsm
  obtain ⟨hs1, hs2, hs3, hs4, hs5, hs6⟩ := hsm
  have hck := checkS_if s
  refine XK.enter (vs := [.agg #[.slice A1 n1 k1, .slice A2 n2 k2, .slice A3 n3 k3, .slice A4 n4 k4]]) Tryz.func29 rfl Tryz.ntmps29 (by simp) ?_
  refine XK.seq ?_

  refine XK.region ?_
  refine xk_box rfl (by decide) fun g1 => ?_
  refine xk_assign rfl (by decide) ?_
  refine XK.nilN ?_
  refine XK.seq ?_
  refine XK.seq ?_

  refine XK.region ?_
  refine xk_ldN 4 rfl ?_
  refine xk_callR (f := 86) (fi := []) (ca := []) (by kernel_rfl) rfl rfl (by decide) (fun w1 st => refCountsG_any s A1 A2 A3 A4 n1 k1 n2 k2 n3 k3 n4 k4 w1 (hW.le (st.started (by simp)))) ?_
  refine xk_notD rfl (by decide) ?_
  refine XK.nilN ?_
  refine XK.if_ rfl (fun hfl => ?_) (fun hfl => ?_)
  ·
    refine XK.seq ?_

    refine XK.region ?_
    refine xk_assign rfl (by decide) ?_
    refine XK.nilN ?_
    refine XK.ret ?_
    refine XK.norm ?_
    rw [if_neg hfl, fullE_8 hfl] at hck
    rw [hck]
    exact XK.ret1 rfl rfl fun w1 st => ⟨rfl, st.below (by simp)⟩
  ·
    refine XK.skip ?_
    refine XK.norm ?_
    refine XK.seq ?_
    have hfl : fullE s = 0 := Classical.not_not.1 hfl
    rw [if_pos hfl] at hck

    refine XK.region ?_
    refine xk_ldN 4 rfl ?_
    refine xk_callR (f := 87) (fi := []) (ca := []) (by kernel_rfl) rfl rfl (by decide) (fun w1 st => refClocksG_any s A1 A2 A3 A4 n1 k1 n2 k2 n3 k3 n4 k4 w1 (hW.le (st.started (by simp))) hfl) ?_
    rw [show firstE [firstE (s.clocks.map (clockE s.clocks.length)), cycE (clocksG s)] = chkA s from rfl]
    refine xk_assign rfl (by decide) ?_
    refine XK.nilN ?_
    refine XK.seq ?_
    refine XK.seq ?_

    refine XK.region ?_
    refine xk_move rfl (by decide) ?_
    refine xk_neq rfl rfl (by decide) ?_
    refine XK.nilN ?_
    refine XK.if_ rfl (fun hA => ?_) (fun hA => ?_)
    ·
      refine XK.seq ?_

      refine XK.region ?_
      refine xk_move rfl (by decide) ?_
      refine xk_assign rfl (by decide) ?_
      refine XK.nilN ?_
      refine XK.ret ?_
      refine XK.norm ?_
      rw [if_neg hA] at hck
      rw [hck]
      exact XK.ret1 rfl rfl fun w1 st => ⟨rfl, st.below (by simp)⟩
    ·
      refine XK.skip ?_
      refine XK.norm ?_
      refine XK.seq ?_
      rw [if_pos (Classical.not_not.1 hA)] at hck

      refine XK.region ?_
      refine xk_ldN 4 rfl ?_
      refine xk_callR (f := 88) (fi := []) (ca := []) (by kernel_rfl) rfl rfl (by decide) (fun w1 st => refDomsG_any s A1 A2 A3 A4 n1 k1 n2 k2 n3 k3 n4 k4 w1 (hW.le (st.started (by simp))) hfl) ?_
      rw [show firstE [firstE (s.domains.map (domainE s.domains.length)), cycE (domsG s)] = chkB s from rfl]
      refine xk_assign rfl (by decide) ?_
      refine XK.nilN ?_
      refine XK.seq ?_
      refine XK.seq ?_

      refine XK.region ?_
      refine xk_move rfl (by decide) ?_
      refine xk_neq rfl rfl (by decide) ?_
      refine XK.nilN ?_
      refine XK.if_ rfl (fun hB => ?_) (fun hB => ?_)
      ·
        refine XK.seq ?_

        refine XK.region ?_
        refine xk_move rfl (by decide) ?_
        refine xk_assign rfl (by decide) ?_
        refine XK.nilN ?_
        refine XK.ret ?_
        refine XK.norm ?_
        rw [if_neg hB] at hck
        rw [hck]
        exact XK.ret1 rfl rfl fun w1 st => ⟨rfl, st.below (by simp)⟩
      ·
        refine XK.skip ?_
        refine XK.norm ?_
        refine XK.seq ?_
        refine XK.seq ?_
        rw [if_pos (Classical.not_not.1 hB)] at hck

        refine XK.region ?_
        refine xk_assign rfl (by decide) ?_
        refine XK.nilN ?_
        refine XK.envS [(4, .int .i64 0), (1, .pointer (some ⟨g1, 0, none⟩))] ?_
        refine XK.block ?_
        refine XK.loop (fun m e R H => ∃ (i : Nat), i ≤ n3 ∧ (∀ x ∈ s.resets.take i, resetE x = 0) ∧ m = n3 - i ∧ e = [(4, .int .i64 i), (1, .pointer (some ⟨g1, 0, none⟩))] ∧ R = [all w] ∧ H = [HP.blk g1 28 [.slice A1 n1 k1, .slice A2 n2 k2, .slice A3 n3 k3, .slice A4 n4 k4]]) n3 ⟨0, by omega, by simp, rfl, rfl, rfl, rfl⟩ fun m e R H hI => ?_
        obtain ⟨i, hi, hpre, rfl, rfl, rfl, rfl⟩ := hI
        refine XK.seq ?_
        refine XK.seq ?_

        refine XK.region ?_
        refine xk_move rfl (by decide) ?_
        refine xk_field (off := 2) (by kernel_rfl) rfl (by decide) ?_
        refine xk_ld rfl ?_
        refine xk_len (el := 71) (by kernel_rfl) rfl (by decide) ?_
        refine xk_lss rfl rfl (by decide) ?_
        refine XK.nilN ?_
        refine XK.if_ rfl (fun hil => ?_) (fun hil => ?_)
        ·
          refine XK.skip ?_
          refine XK.norm ?_
          refine XK.seq ?_
          refine XK.block ?_
          refine XK.seq ?_

          refine XK.region ?_
          refine xk_field (off := 2) (by kernel_rfl) rfl (by decide) ?_
          refine xk_ld rfl ?_
          refine xk_move rfl (by decide) ?_
          have hil' : i < n3 := by have h' : (i : Int) < (n3 : Int) := hil; omega
          obtain ⟨r0, hr0⟩ : ∃ r0, s.resets[i]? = some r0 := ⟨_, List.getElem?_eq_getElem (by omega)⟩
          obtain ⟨b, off, r, rfl, hrl, rfl, hro⟩ := hW.rst.row hr0
          have hrE := @resetE_if r0
          refine xk_at (i) (off + i * 1) (el := 71) (sz := 1) (by kernel_rfl) (by kernel_rfl) rfl rfl (by omega) (by omega) (by omega) (by decide) ?_
          refine xk_field (off := 0) (by kernel_rfl) rfl (by decide) ?_
          refine xk_load (by kernel_rfl) rfl (Rd.roc (by simp) (hro.at_ (j := 0) rfl)) (by decide) ?_
          refine xk_callR (f := 89) (fi := []) (ca := []) (by kernel_rfl) rfl rfl (by decide) (fun w1 st => refWithin5_any _ _ _ w1) ?_
          refine xk_notD rfl (by decide) ?_
          refine XK.nilN ?_
          refine XK.if_ rfl (fun hrn => ?_) (fun hrn => ?_)
          ·
            refine XK.seq ?_

            refine XK.region ?_
            refine xk_assign rfl (by decide) ?_
            refine XK.nilN ?_
            refine XK.ret ?_
            refine XK.norm ?_
            rw [if_neg hrn] at hrE
            have hC : chkC s = 3 := by rw [chkC, firstM_at hr0 hpre (by rw [hrE]; decide), hrE]
            rw [if_neg (by rw [hC]; decide), hC] at hck
            rw [hck]
            exact XK.ret1 rfl rfl fun w1 st => ⟨rfl, st.below (by simp)⟩
          ·
            refine XK.skip ?_
            refine XK.norm ?_

            refine XK.region ?_
            refine xk_move rfl (by decide) ?_
            refine xk_add rfl rfl (wrap_in (by omega)) (by decide) ?_
            refine xk_assign rfl (by decide) ?_
            refine XK.nilN ?_
            exact XK.envS [(4, .int .i64 ((i : Int) + 1)), (1, .pointer (some ⟨g1, 0, none⟩))] (XK.round (n3 - (i + 1)) (by omega) ⟨i + 1, by omega, take_snoc hr0 hpre (by rw [hrE, if_pos (Classical.not_not.1 hrn)]), rfl, rfl, rfl, rfl⟩)
        ·
          refine XK.exit ?_
          refine XK.norm ?_
          refine XK.seq ?_
          rw [if_pos (show chkC s = 0 from firstE_map0 (take_all (by omega) hpre))] at hck

          refine XK.region ?_
          refine xk_ldN 4 rfl ?_
          refine xk_callR (f := 90) (fi := []) (ca := []) (by kernel_rfl) rfl rfl (by decide) (fun w1 st => refDevsG_any s A1 A2 A3 A4 n1 k1 n2 k2 n3 k3 n4 k4 w1 (hW.le (st.started (by simp))) hfl) ?_
          rw [show firstE [firstE (s.devs.map (deviceE s.clocks.length s.domains.length s.resets.length s.devs.length)), cycE (needsG s)] = chkD s from rfl]
          refine xk_assign rfl (by decide) ?_
          refine XK.nilN ?_
          refine XK.ret ?_
          refine XK.norm ?_
          rw [hck]
          exact XK.ret1 rfl rfl fun w1 st => ⟨rfl, st.below (by simp)⟩

end Go.Proofs.YtgopaoidgcgalaaGreatDoor
/- Chapter 5's laws: digits, shown. -/
namespace Go.Proofs.YtgopaoidgcgalaaGreatDoor
set_option linter.all false
open Go.RowKit
theorem quo_u {a : Nat} {b : Int} (h : 0 < b ∧ (a : Int) < 18446744073709551616) : IntKind.u64.wrap ((a : Int).tdiv b) = (a : Int) / b := by
  rw [Int.tdiv_eq_ediv_of_nonneg (by omega)]
  have := Int.ediv_nonneg (a := (a : Int)) (b := b) (by omega) (by omega)
  have := Int.ediv_le_self (a := (a : Int)) b (by omega)
  exact wrap_u64 (by omega)
theorem strOf_nil {l : List UInt8} : strOf l = ⟨#[]⟩ ↔ l = [] := by
  constructor
  · intro h
    have := congrArg (fun b : ByteArray => b.data.toList) h
    simpa [strOf] using this
  · rintro rfl; rfl

def shownT : List UInt8 := [99, 108, 111, 99, 107, 32, 111, 32, 53, 10, 100, 111, 109, 97, 105, 110, 32, 45, 32, 48, 32, 108, 111, 115, 101, 10, 114, 101, 115, 101, 116, 32, 49, 10, 100, 101, 118, 105, 99, 101, 32, 48, 32, 48, 32, 48, 32, 55, 10, 114, 101, 103, 32, 51, 32, 107, 101, 101, 112, 10]
def shownS : Soc := ⟨[⟨111, [], 5, 0, 0, 0⟩], [⟨-1, 0, false⟩], [1], [⟨0, 0, 0, 7, [⟨3, true⟩], []⟩]⟩
theorem shown_parse : parseF (strOf shownT) = (0, shownS) := by
  have h : readF (strOf shownT) = some shownS := by rfl
  unfold parseF
  rw [h]
  rfl
theorem RsR.rowP {α : Type} {p : Piece} {R : α → List Value → Prop} {t : TypeId} {sz n : Nat} {A : Option Addr} {es : List α} (h : RsR (slq p) R t sz A n es) {k : Nat} {e : α} (hk : es[k]? = some e) :
    ∃ b off r, A = some ⟨b, off, none⟩ ∧ r.length = sz ∧ R e r ∧ p.Z b ∧ ∀ f u, r[f]? = some u → p.w.cell? ⟨b, off + k * sz + f, none⟩ = some u := by
  obtain ⟨rows, h1, h2, h3⟩ := h
  have hke := (List.getElem?_eq_some_iff.1 hk).1
  have hl := h1.len.1
  obtain ⟨r, hr⟩ : ∃ r, rows[k]? = some r := ⟨_, List.getElem?_eq_getElem (by omega)⟩
  obtain ⟨e', he, hrl, hR⟩ := h1.at_ hr
  rw [hk] at he
  cases he
  obtain ⟨b, off, hA, hz, hc⟩ := SlS.at_ h3 (k := k) (by omega)
  refine ⟨b, off, r, hA, hrl, hR, hz, fun f u hu => hc f u ?_⟩
  have hf : f < sz := by rw [← hrl]; exact (List.getElem?_eq_some_iff.1 hu).1
  have := flat_get (fun x : List Value => x) sz rows h1.all_len k f r hr hf
  rw [List.flatMap_id'] at this
  rw [this]; exact hu
theorem RsR.len {α : Type} {S : SlP} {R : α → List Value → Prop} {t : TypeId} {sz n : Nat} {A : Option Addr} {es : List α} (h : RsR S R t sz A n es) : n = es.length := by obtain ⟨_, _, h, _⟩ := h; exact h

theorem xk_eqlV {P : Program} {N : Frm} {w0 : World} {e : Env} {R : List Piece} {H : List HP} {Q : Exit → Act → World → Prop} {ops : Array Oper} {rest : List Oper} {d : Nat} {ty : TypeId} {pos : String} {aft : Array Edge} {x y : Operand} {t u : TypeId} {a b : Value} (r : Bool) (hx : e.ev x = some a) (hy : e.ev y = some b)
    (hrun : ∀ (ev : Operand → Value) (w : World), ev x = a → ev y = b → (execOp ev ⟨some d, .binOp .eql t x y u, ty, pos, aft, none⟩).run P w = .ok (.value (.bool r)) w) (hd : d < N.n) (k : XK N w0 (wpList P ops Q rest) ((d, .bool r) :: e) R H) :
    XK N w0 (wpList P ops Q (⟨some d, .binOp .eql t x y u, ty, pos, aft, none⟩ :: rest)) e R H := xk_pure hd (fun a' w hr => hrun _ w (hr.ev hx) (hr.ev hy)) k
theorem shown5_ok (mm : Int) (w : World) (hM : ROc w 0 0 (.int .i64 mm)) :
    Calls Tryz.prog 10 #[] w (Rt (.bool true) w) := by
  refine XK.enter (vs := []) Tryz.func10 rfl Tryz.ntmps10 (by simp) ?_
  refine XK.seq ?_

  refine XK.region ?_
  refine xk_assign rfl (by decide) ?_
  refine XK.nilN ?_
  refine XK.seq ?_

  refine XK.region ?_
  refine xk_call [] (f := 11) (fi := []) (ca := []) (by kernel_rfl) rfl rfl (by decide) (by simp) (fun v w w' => ∃ cs, v = .tuple #[.agg cs, .int .i64 0] ∧ SocR (slq (fresh w w')) shownS cs) (fun w1 st => (parse_ok (strOf shownT) mm w1 ⟨Nat.lt_of_lt_of_le hM.1 (st.below (by simp)).size, hM.go (st.below (by simp))⟩).mono fun y w' h => by
    obtain ⟨⟨cs, h1, h2⟩, h3⟩ := h
    rw [shown_parse] at h1 h2
    exact ⟨⟨_, h1, cs, rfl, h2⟩, h3⟩) ?_
  rintro _ w1 q ⟨_, rfl, A1, n1, c1, A2, n2, c2, A3, n3, c3, A4, n4, c4, rfl, r1, r2, r3, r4⟩ hq _ _
  have hl := slq_le hq
  have r1 := r1.mono hl (fun _ _ => ClkR.mono hl)
  have r2 := r2.mono hl (fun _ _ h => h)
  have r3 := r3.mono hl (fun _ _ h => h)
  have r4 := r4.mono hl (fun _ _ => DevR.mono hl)
  obtain rfl : n1 = 1 := r1.len
  obtain rfl : n2 = 1 := r2.len
  obtain rfl : n3 = 1 := r3.len
  obtain rfl : n4 = 1 := r4.len
  obtain ⟨b1, o1, row1, rfl, _, ⟨Af, nf, kf, rfl, _, _⟩, hz1, hc1⟩ := RsR.rowP r1 (k := 0) rfl
  obtain ⟨b4, o4, row4, rfl, _, ⟨Ar, nr, kr, An, nn, kn, rfl, rfl, _, hreg, _⟩, hz4, hc4⟩ := RsR.rowP r4 (k := 0) rfl
  obtain ⟨br, orr, rfl, hzr, hcr⟩ := hreg.2 (by decide)
  refine xk_move rfl (by decide) ?_
  refine xk_extract rfl rfl (by decide) ?_
  refine xk_extract rfl rfl (by decide) ?_
  refine xk_alloc (cs := [.slice none 0 0, .slice none 0 0, .slice none 0 0, .slice none 0 0]) (zeroB_of (by kernel_rfl)) (by decide) fun g1 => ?_
  (first | (refine xk_storeN 0 rfl rfl rfl (by kernel_rfl) (by simp [Value.cells, Value.oneCell']) (by simp [Value.cells]) ?_) | (refine xk_storeN 1 rfl rfl rfl (by kernel_rfl) (by simp [Value.cells, Value.oneCell']) (by simp [Value.cells]) ?_) | (refine xk_storeN 2 rfl rfl rfl (by kernel_rfl) (by simp [Value.cells, Value.oneCell']) (by simp [Value.cells]) ?_) | (refine xk_storeN 3 rfl rfl rfl (by kernel_rfl) (by simp [Value.cells, Value.oneCell']) (by simp [Value.cells]) ?_) | (refine xk_storeN 4 rfl rfl rfl (by kernel_rfl) (by simp [Value.cells, Value.oneCell']) (by simp [Value.cells]) ?_) | (refine xk_storeN 5 rfl rfl rfl (by kernel_rfl) (by simp [Value.cells, Value.oneCell']) (by simp [Value.cells]) ?_) | (refine xk_storeN 6 rfl rfl rfl (by kernel_rfl) (by simp [Value.cells, Value.oneCell']) (by simp [Value.cells]) ?_) | (refine xk_storeN 7 rfl rfl rfl (by kernel_rfl) (by simp [Value.cells, Value.oneCell']) (by simp [Value.cells]) ?_) | (refine xk_storeN 8 rfl rfl rfl (by kernel_rfl) (by simp [Value.cells, Value.oneCell']) (by simp [Value.cells]) ?_)); simp only [putN, Value.cells, List.set, List.take, List.drop, List.nil_append, List.append_nil, List.length_cons, List.length_nil, List.cons_append, Nat.reduceAdd]
  refine xk_assign rfl (by decide) ?_
  refine XK.nilN ?_
  refine XK.seq ?_

  refine XK.region ?_
  refine xk_move rfl (by decide) ?_
  refine xk_eql rfl rfl (by decide) ?_
  refine xk_move rfl (by decide) ?_
  refine xk_isV (t := 9) true rfl (by first | (exact decide_eq_true (by omega)) | (exact decide_eq_false (by omega)) | rfl | assumption | (simp_all; done)) ?_
  refine xk_guardT rfl rfl ?_; refine xk_field (off := 0) (by kernel_rfl) rfl (by decide) ?_
  refine xk_guardT rfl rfl ?_; refine xk_ld rfl ?_
  refine xk_guardT rfl rfl ?_; refine xk_len (el := 55) (by kernel_rfl) rfl (by decide) ?_
  refine xk_guardT rfl rfl ?_; refine xk_eql rfl rfl (by decide) ?_
  (first | refine xk_pickT rfl rfl (by decide) ?_ | refine xk_pickF rfl rfl (by decide) ?_)
  refine xk_move rfl (by decide) ?_
  refine xk_isV (t := 15) true rfl (by first | (exact decide_eq_true (by omega)) | (exact decide_eq_false (by omega)) | rfl | assumption | (simp_all; done)) ?_
  refine xk_guardT rfl rfl ?_; refine xk_field (off := 0) (by kernel_rfl) rfl (by decide) ?_
  refine xk_guardT rfl rfl ?_; refine xk_ld rfl ?_
  refine xk_guardT rfl rfl ?_; refine xk_at 0 (o1 + 0 * 6) (el := 55) (sz := 6) (by kernel_rfl) (by kernel_rfl) rfl rfl rfl (by decide) (by omega) (by decide) ?_
  refine xk_guardT rfl rfl ?_; refine xk_field (off := 2) (by kernel_rfl) rfl (by decide) ?_
  refine xk_guardT rfl rfl ?_; refine xk_load (by kernel_rfl) rfl (Rd.ro (p := q) (by simp) hz1 (hc1 2 _ rfl)) (by decide) ?_
  refine xk_guardT rfl rfl ?_; refine xk_eql rfl rfl (by decide) ?_
  (first | refine xk_pickT rfl rfl (by decide) ?_ | refine xk_pickF rfl rfl (by decide) ?_)
  refine xk_move rfl (by decide) ?_
  refine xk_isV (t := 23) true rfl (by first | (exact decide_eq_true (by omega)) | (exact decide_eq_false (by omega)) | rfl | assumption | (simp_all; done)) ?_
  refine xk_guardT rfl rfl ?_; refine xk_field (off := 1) (by kernel_rfl) rfl (by decide) ?_
  refine xk_guardT rfl rfl ?_; refine xk_ld rfl ?_
  refine xk_guardT rfl rfl ?_; refine xk_len (el := 69) (by kernel_rfl) rfl (by decide) ?_
  refine xk_guardT rfl rfl ?_; refine xk_eql rfl rfl (by decide) ?_
  (first | refine xk_pickT rfl rfl (by decide) ?_ | refine xk_pickF rfl rfl (by decide) ?_)
  refine xk_move rfl (by decide) ?_
  refine xk_isV (t := 29) true rfl (by first | (exact decide_eq_true (by omega)) | (exact decide_eq_false (by omega)) | rfl | assumption | (simp_all; done)) ?_
  refine xk_guardT rfl rfl ?_; refine xk_field (off := 2) (by kernel_rfl) rfl (by decide) ?_
  refine xk_guardT rfl rfl ?_; refine xk_ld rfl ?_
  refine xk_guardT rfl rfl ?_; refine xk_len (el := 71) (by kernel_rfl) rfl (by decide) ?_
  refine xk_guardT rfl rfl ?_; refine xk_eql rfl rfl (by decide) ?_
  (first | refine xk_pickT rfl rfl (by decide) ?_ | refine xk_pickF rfl rfl (by decide) ?_)
  refine xk_move rfl (by decide) ?_
  refine xk_isV (t := 35) true rfl (by first | (exact decide_eq_true (by omega)) | (exact decide_eq_false (by omega)) | rfl | assumption | (simp_all; done)) ?_
  refine xk_guardT rfl rfl ?_; refine xk_field (off := 3) (by kernel_rfl) rfl (by decide) ?_
  refine xk_guardT rfl rfl ?_; refine xk_ld rfl ?_
  refine xk_guardT rfl rfl ?_; refine xk_len (el := 51) (by kernel_rfl) rfl (by decide) ?_
  refine xk_guardT rfl rfl ?_; refine xk_eql rfl rfl (by decide) ?_
  (first | refine xk_pickT rfl rfl (by decide) ?_ | refine xk_pickF rfl rfl (by decide) ?_)
  refine xk_move rfl (by decide) ?_
  refine xk_isV (t := 41) true rfl (by first | (exact decide_eq_true (by omega)) | (exact decide_eq_false (by omega)) | rfl | assumption | (simp_all; done)) ?_
  refine xk_guardT rfl rfl ?_; refine xk_field (off := 3) (by kernel_rfl) rfl (by decide) ?_
  refine xk_guardT rfl rfl ?_; refine xk_ld rfl ?_
  refine xk_guardT rfl rfl ?_; refine xk_at 0 (o4 + 0 * 6) (el := 51) (sz := 6) (by kernel_rfl) (by kernel_rfl) rfl rfl rfl (by decide) (by omega) (by decide) ?_
  refine xk_guardT rfl rfl ?_; refine xk_field (off := 3) (by kernel_rfl) rfl (by decide) ?_
  refine xk_guardT rfl rfl ?_; refine xk_load (by kernel_rfl) rfl (Rd.ro (p := q) (by simp) hz4 (hc4 3 _ rfl)) (by decide) ?_
  refine xk_guardT rfl rfl ?_; refine xk_eql rfl rfl (by decide) ?_
  (first | refine xk_pickT rfl rfl (by decide) ?_ | refine xk_pickF rfl rfl (by decide) ?_)
  refine xk_move rfl (by decide) ?_
  refine xk_isV (t := 49) true rfl (by first | (exact decide_eq_true (by omega)) | (exact decide_eq_false (by omega)) | rfl | assumption | (simp_all; done)) ?_
  refine xk_guardT rfl rfl ?_; refine xk_field (off := 3) (by kernel_rfl) rfl (by decide) ?_
  refine xk_guardT rfl rfl ?_; refine xk_ld rfl ?_
  refine xk_guardT rfl rfl ?_; refine xk_at 0 (o4 + 0 * 6) (el := 51) (sz := 6) (by kernel_rfl) (by kernel_rfl) rfl rfl rfl (by decide) (by omega) (by decide) ?_
  refine xk_guardT rfl rfl ?_; refine xk_field (off := 4) (by kernel_rfl) rfl (by decide) ?_
  refine xk_guardT rfl rfl ?_; refine xk_load (by kernel_rfl) rfl (Rd.ro (p := q) (by simp) hz4 (hc4 4 _ rfl)) (by decide) ?_
  refine xk_guardT rfl rfl ?_; refine xk_len (el := 57) (by kernel_rfl) rfl (by decide) ?_
  refine xk_guardT rfl rfl ?_; refine xk_eql rfl rfl (by decide) ?_
  (first | refine xk_pickT rfl rfl (by decide) ?_ | refine xk_pickF rfl rfl (by decide) ?_)
  refine xk_move rfl (by decide) ?_
  refine xk_isV (t := 58) true rfl (by first | (exact decide_eq_true (by omega)) | (exact decide_eq_false (by omega)) | rfl | assumption | (simp_all; done)) ?_
  refine xk_guardT rfl rfl ?_; refine xk_field (off := 3) (by kernel_rfl) rfl (by decide) ?_
  refine xk_guardT rfl rfl ?_; refine xk_ld rfl ?_
  refine xk_guardT rfl rfl ?_; refine xk_at 0 (o4 + 0 * 6) (el := 51) (sz := 6) (by kernel_rfl) (by kernel_rfl) rfl rfl rfl (by decide) (by omega) (by decide) ?_
  refine xk_guardT rfl rfl ?_; refine xk_field (off := 4) (by kernel_rfl) rfl (by decide) ?_
  refine xk_guardT rfl rfl ?_; refine xk_load (by kernel_rfl) rfl (Rd.ro (p := q) (by simp) hz4 (hc4 4 _ rfl)) (by decide) ?_
  refine xk_guardT rfl rfl ?_; refine xk_at 0 (orr + 0 * 2) (el := 57) (sz := 2) (by kernel_rfl) (by kernel_rfl) rfl rfl rfl (by decide) (by omega) (by decide) ?_
  refine xk_guardT rfl rfl ?_; refine xk_loadN 2 (by kernel_rfl) rfl (RdN.of (vs := [.int .u32 3, .bool true]) fun j v hv => Rd.ro (p := q) (by simp) hzr (by rw [Nat.add_assoc]; exact hcr (0 * 2 + j) v (by rw [Nat.zero_mul, Nat.zero_add]; exact hv))) rfl (by decide) ?_
  refine xk_guardT rfl rfl ?_; refine xk_buildS (zs := [.int .u32 0, .bool false]) (L := [(0, 1), (1, 1)]) (zeroB_of (by kernel_rfl)) (by kernel_rfl) rfl (by simp [fillL, setN, Value.cells]; rfl) (by decide) ?_
  refine xk_guardT rfl rfl ?_; refine xk_eqlV true rfl rfl (fun ev w h1 h2 => by simp [execOp, h1, h2, run_eqGuard_agg (hm := (by kernel_rfl)), run_eql_struct, run_equalIn_agg (ht := (by kernel_rfl)) (hp := (by kernel_rfl)), go_sem]) (by decide) ?_
  (first | refine xk_pickT rfl rfl (by decide) ?_ | refine xk_pickF rfl rfl (by decide) ?_)
  refine xk_assign rfl (by decide) ?_
  refine XK.nilN ?_
  refine XK.ret ?_
  refine XK.norm ?_
  exact XK.ret1 rfl rfl fun w1 st => ⟨rfl, st.below (by simp)⟩

end Go.Proofs.YtgopaoidgcgalaaGreatDoor
/- The reference's words of a line. -/
namespace Go.Proofs.YtgopaoidgcgalaaGreatDoor
set_option linter.all false
open Go.RowKit
section
variable {P : Program} {N : Frm} {w0 : World} {e : Env} {R : List Piece} {H : List HP} {d : Nat} {ty : TypeId} {pos : String} {aft : Array Edge}
theorem does_addStr {x y : Operand} {t u : TypeId} {a b : ByteArray} (hx : e.ev x = some (.string a)) (hy : e.ev y = some (.string b)) (hl : a.size + b.size ≤ 9223372036854775807) : Does P N w0 e R H ⟨some d, .binOp .add t x y u, ty, pos, aft, none⟩ (.string (a ++ b)) := does_of (fun a' w hr => by
  simp [execOp, hr.ev hx, hr.ev hy, eqGuard, binOp_string_add, run_string_add_sum (a := a) (b := b) (h := hl)])
end
/-- numbers, a blank ahead of each -/
def tailT (l : List Int) : List UInt8 := l.flatMap fun x => 32 :: numW x
theorem tailT_cons (x : Int) (l : List Int) : tailT (x :: l) = 32 :: numW x ++ tailT l := rfl
theorem tailT_app (a b : List Int) : tailT (a ++ b) = tailT a ++ tailT b := by simp [tailT]
theorem tailT_next {l : List Int} {i : Nat} {x : Int} (h : l[i]? = some x) : tailT (l.take (i + 1)) = tailT (l.take i) ++ (32 :: numW x) := by
  rw [List.take_add_one, h, Option.toList_some, tailT_app]; simp [tailT]
theorem join_tail : ∀ (w : List UInt8) (l : List Int), joinW (w :: l.map numW) = w ++ tailT l
  | w, [] => by simp [joinW, tailT]
  | w, x :: l => by
    rw [List.map_cons, joinW, join_tail (numW x) l, tailT_cons]; simp
theorem tailT_len : ∀ l : List Int, (∀ x ∈ l, 0 ≤ x ∧ x < 9223372036854775808) → (tailT l).length ≤ l.length * 21
  | [], _ => Nat.zero_le _
  | x :: l, h => by
    have h1 := tailT_len l fun y hy => h y (by simp [hy])
    have h2 := h x (by simp)
    have h3 := numW_len (n := x) (by omega) (by omega)
    rw [tailT_cons, List.length_append, List.length_cons, List.length_cons, Nat.succ_mul]
    omega
theorem numW_dd {n : Nat} : numW (n : Int) = Lib.decDigits n := by
  unfold numW Lib.itoa
  rw [if_neg (by omega), Int.toNat_natCast]

theorem refDig_ok (n0 : Nat) (hn0 : n0 < 18446744073709551616) (w : World) :
    Calls Tryz.prog 40 #[.int .u64 (n0 : Int)] w (Rt (.string (strOf (Lib.decDigits n0))) w) := by
  refine XK.enter (vs := [.int .u64 (n0 : Int)]) Tryz.func40 rfl Tryz.ntmps40 (by simp) ?_
  refine XK.seq ?_

  refine XK.region ?_
  refine xk_assign rfl (by decide) ?_
  refine XK.nilN ?_
  refine XK.seq ?_

  refine XK.region ?_
  refine xk_assign rfl (by decide) ?_
  refine XK.nilN ?_
  refine XK.seq ?_
  refine XK.envS [(0, .int .u64 (n0 : Int)), (2, .string ⟨#[]⟩), (3, .string (strOf []))] ?_
  refine XK.block ?_
  refine XK.loop (fun m e R H => ∃ (n : Nat) (acc : List UInt8), fullD n acc = Lib.decDigits n0 ∧ n < 18446744073709551616 ∧ n * 10 ^ acc.length < 1000000000000000000000 ∧ m = 2 * n + (if acc = [] then 1 else 0) ∧ e = [(0, .int .u64 (n : Int)), (2, .string ⟨#[]⟩), (3, .string (strOf acc))] ∧ R = [all w] ∧ H = []) (2 * n0 + 1) ⟨n0, [], fullD_nil n0, hn0, by simp; omega, by simp, rfl, rfl, rfl⟩ fun m e R H hI => ?_
  obtain ⟨n, acc, hfull, hn, hpow, rfl, rfl, rfl, rfl⟩ := hI
  refine XK.seq ?_
  refine XK.cutB 9 (0 < n ∨ acc = []) ?_ ?_
  · skip

    refine XK.region ?_
    refine xk_move rfl (by decide) ?_
    refine xk_gtr rfl rfl (by decide) ?_
    refine xk_move rfl (by decide) ?_
    (first | refine xk_split (t := 6) rfl (fun hg => ?_) (fun hg => ?_) | refine xk_splitB (t := 6) rfl (fun hg => ?_) (fun hg => ?_))
    ·
      refine xk_guardF rfl rfl rfl (by decide) ?_
      refine xk_guardF rfl rfl rfl (by decide) ?_
      (first | refine xk_pickT rfl rfl (by decide) ?_ | refine xk_pickF rfl rfl (by decide) ?_)
      refine XK.nilN ?_
      exact XK.meetB (by repeat (first | exact trivial | refine ⟨rfl, ?_⟩)) (get_true rfl (.inl (by omega)))
    ·
      refine xk_guardT rfl rfl ?_; refine xk_move rfl (by decide) ?_
      refine xk_guardT rfl rfl ?_; refine xk_eqlStr (by kernel_rfl) rfl rfl (by decide) ?_
      (first | refine xk_pickT rfl rfl (by decide) ?_ | refine xk_pickF rfl rfl (by decide) ?_)
      refine XK.nilN ?_
      exact XK.meetB (by repeat (first | exact trivial | refine ⟨rfl, ?_⟩)) (get_iff rfl ⟨fun h => .inr (strOf_nil.1 h), fun h => strOf_nil.2 (h.resolve_left (by omega))⟩)
  refine XK.if_ rfl (fun hgo => ?_) (fun hgo => ?_)
  ·
    refine XK.skip ?_
    refine XK.norm ?_
    refine XK.block ?_
    refine XK.seq ?_
    have hk : acc.length ≤ 21 := by
      rcases hgo with hgo | hgo
      · rcases Nat.lt_or_ge 21 acc.length with h | h
        · have := Nat.pow_le_pow_right (n := 10) (by omega) (show 22 ≤ acc.length by omega)
          have := Nat.mul_le_mul (show 1 ≤ n by omega) this
          omega
        · exact h
      · subst hgo; simp
    have hsz := strOf_size acc

    refine XK.region ?_
    refine xk_move rfl (by decide) ?_
    refine xk_rem rfl rfl (by omega) (rem_in (by omega)) (by decide) ?_
    refine xk_move rfl (by decide) ?_
    refine xk_rem rfl rfl (by omega) (rem_in (by omega)) (by decide) ?_
    refine xk_add rfl rfl (wrap_u64 (by omega)) (by decide) ?_
    refine xk_sliceStr (n % 10) (n % 10 + 1) (by kernel_rfl) rfl rfl rfl (by omega) (by omega) (by omega) (by show n % 10 + 1 ≤ 10; omega) (by decide) ?_
    rw [dig_char (show n % 10 < 10 by omega)]
    refine xk_move rfl (by decide) ?_
    refine xk_addStr rfl rfl (by rw [strOf_size, strOf_size]; simp; omega) (by decide) ?_
    rw [strOf_append]
    refine xk_assign rfl (by decide) ?_
    refine XK.nilN ?_

    refine XK.region ?_
    refine xk_move rfl (by decide) ?_
    refine xk_quo rfl rfl (by omega) (quo_u (by omega)) (by decide) ?_
    refine xk_assign rfl (by decide) ?_
    refine XK.nilN ?_
    have hms : 2 * (n / 10) + (if (UInt8.ofNat (48 + n % 10) :: acc) = [] then 1 else 0) < 2 * n + (if acc = [] then 1 else 0) := by
      rw [if_neg (List.cons_ne_nil _ _)]
      rcases hgo with h | h
      · split <;> omega
      · rw [if_pos h]; omega
    exact XK.envS [(0, .int .u64 ((n / 10 : Nat) : Int)), (2, .string ⟨#[]⟩), (3, .string (strOf (UInt8.ofNat (48 + n % 10) :: acc)))] (XK.round _ hms ⟨n / 10, UInt8.ofNat (48 + n % 10) :: acc, (fullD_step hgo).symm.trans hfull, by omega, by
      rw [List.length_cons, Nat.pow_succ]
      exact Nat.lt_of_le_of_lt (by rw [Nat.mul_comm (10 ^ acc.length) 10, ← Nat.mul_assoc]; exact Nat.mul_le_mul_right _ (Nat.div_mul_le_self n 10)) hpow, rfl, rfl, rfl, rfl⟩)
  ·
    refine XK.exit ?_
    refine XK.norm ?_
    refine XK.seq ?_

    refine XK.region ?_
    refine xk_move rfl (by decide) ?_
    refine xk_assign rfl (by decide) ?_
    refine XK.nilN ?_
    refine XK.ret ?_
    refine XK.norm ?_
    have h0 : n = 0 := by omega
    have ha : acc ≠ [] := fun h => hgo (.inr h)
    subst h0
    rw [fullD_end ha] at hfull
    exact XK.ret1 rfl rfl fun w1 st => ⟨by rw [hfull], st.below (by simp)⟩

theorem refDigW_ok (x : Int) (h0 : 0 ≤ x) (h1 : x < 18446744073709551616) (w : World) : Calls Tryz.prog 40 #[.int .u64 x] w (Rt (.string (strOf (numW x))) w) := by
  obtain ⟨n, rfl⟩ : ∃ n : Nat, x = (n : Int) := ⟨x.toNat, by omega⟩
  rw [numW_dd]
  exact refDig_ok n (by omega) w

theorem refTail_ok (l : List Int) (A : Option Addr) (n c : Nat) (w : World) (hs : SlS (all w) 1 A n (intCells l)) (hn : n = l.length) (hn2 : n ≤ 1000000) (hpos : ∀ x ∈ l, 0 ≤ x ∧ x < 9223372036854775808) :
    Calls Tryz.prog 41 #[.slice A n c] w (Rt (.string (strOf (tailT l))) w) := by
  refine XK.enter (vs := [.slice A n c]) Tryz.func41 rfl Tryz.ntmps41 (by simp) ?_
  refine XK.seq ?_

  refine XK.region ?_
  refine xk_assign rfl (by decide) ?_
  refine XK.nilN ?_
  refine XK.seq ?_

  refine XK.region ?_
  refine xk_assign rfl (by decide) ?_
  refine XK.nilN ?_
  refine XK.seq ?_
  refine XK.seq ?_

  refine XK.region ?_
  refine xk_assign rfl (by decide) ?_
  refine XK.nilN ?_
  refine XK.envS [(4, .int .i64 0), (3, .string (strOf [])), (2, .string ⟨#[]⟩), (0, .slice A n c)] ?_
  refine XK.block ?_
  refine XK.loop (fun m e R H => ∃ i : Nat, i ≤ n ∧ m = n - i ∧ e = [(4, .int .i64 i), (3, .string (strOf (tailT (l.take i)))), (2, .string ⟨#[]⟩), (0, .slice A n c)] ∧ R = [all w] ∧ H = []) n ⟨0, by omega, rfl, rfl, rfl, rfl⟩ fun m e R H hI => ?_
  obtain ⟨i, hi, rfl, rfl, rfl, rfl⟩ := hI
  refine XK.seq ?_
  refine XK.seq ?_

  refine XK.region ?_
  refine xk_move rfl (by decide) ?_
  refine xk_move rfl (by decide) ?_
  refine xk_len (el := 3) (by kernel_rfl) rfl (by decide) ?_
  refine xk_lss rfl rfl (by decide) ?_
  refine XK.nilN ?_
  refine XK.if_ rfl (fun hil => ?_) (fun hil => ?_)
  ·
    refine XK.skip ?_
    refine XK.norm ?_
    refine XK.seq ?_
    refine XK.block ?_
    have hil' : i < n := by have h' : (i : Int) < (n : Int) := hil; omega
    obtain ⟨y, hy⟩ : ∃ y, l[i]? = some y := ⟨_, List.getElem?_eq_getElem (by omega)⟩
    have hyb := hpos y (List.mem_of_getElem? hy)
    obtain ⟨bI, oI, rfl, hcI⟩ := hs.intR (by omega)
    have hcy := hcI i y hy
    have htl := tailT_len (l.take i) (fun x hx => hpos x (List.mem_of_mem_take hx))
    have hyl := numW_len (n := y) (by omega) (by omega)
    rw [List.length_take] at htl
    have hmn : min i l.length * 21 ≤ 1000000 * 21 := Nat.mul_le_mul_right 21 (by omega)
    have hnx := tailT_next hy

    refine XK.region ?_
    refine xk_move rfl (by decide) ?_
    refine xk_addStr (b := strOf [32]) rfl rfl (by rw [strOf_size, strOf_size]; simp; omega) (by decide) ?_
    rw [strOf_append]
    refine xk_move rfl (by decide) ?_
    refine xk_move rfl (by decide) ?_
    refine xk_at (i) (oI + i) (el := 3) (sz := 1) (by kernel_rfl) (by kernel_rfl) rfl rfl (by omega) (by omega) (by omega) (by decide) ?_
    refine xk_load (by kernel_rfl) rfl (Rd.roc (by simp) hcy) (by decide) ?_
    refine xk_conv (ds := .int .i64) (by kernel_rfl) (by kernel_rfl) rfl (wrap_u64 (by omega)) (by decide) ?_
    refine xk_callR (f := 40) (fi := []) (ca := []) (by kernel_rfl) rfl rfl (by decide) (fun w1 st => refDigW_ok y hyb.1 (by omega) w1) ?_
    refine xk_addStr rfl rfl (by rw [strOf_size, strOf_size]; simp; omega) (by decide) ?_
    rw [strOf_append, show tailT (l.take i) ++ [32] ++ numW y = tailT (l.take (i + 1)) from by rw [hnx]; simp]
    refine xk_assign rfl (by decide) ?_
    refine XK.nilN ?_

    refine XK.region ?_
    refine xk_move rfl (by decide) ?_
    refine xk_add rfl rfl (wrap_in (by omega)) (by decide) ?_
    refine xk_assign rfl (by decide) ?_
    refine XK.nilN ?_
    exact XK.envS [(4, .int .i64 ((i : Int) + 1)), (3, .string (strOf (tailT (l.take (i + 1))))), (2, .string ⟨#[]⟩), (0, .slice (some ⟨bI, oI, none⟩) n c)] (XK.round (n - (i + 1)) (by omega) ⟨i + 1, by omega, rfl, rfl, rfl, rfl⟩)
  ·
    refine XK.exit ?_
    refine XK.norm ?_
    refine XK.seq ?_

    refine XK.region ?_
    refine xk_move rfl (by decide) ?_
    refine xk_assign rfl (by decide) ?_
    refine XK.nilN ?_
    refine XK.ret ?_
    refine XK.norm ?_
    rw [show l.take i = l from List.take_of_length_le (by have h' : ¬ (i : Int) < (n : Int) := hil; omega)]
    exact XK.ret1 rfl rfl fun w1 st => ⟨rfl, st.below (by simp)⟩

theorem refKept_ok (b : Bool) (w : World) : Calls Tryz.prog 42 #[.bool b] w (Rt (.string (strOf (32 :: keptW b ++ [10]))) w) := by
  refine XK.enter (vs := [.bool b]) Tryz.func42 rfl Tryz.ntmps42 (by simp) ?_
  refine XK.seq ?_

  refine XK.region ?_
  refine xk_assign rfl (by decide) ?_
  refine XK.nilN ?_
  refine XK.seq ?_
  refine XK.seq ?_

  refine XK.region ?_
  refine xk_move rfl (by decide) ?_
  refine XK.nilN ?_
  refine XK.cond rfl (fun hb => ?_) (fun hb => ?_)
  ·
    refine XK.seq ?_

    refine XK.region ?_
    refine xk_assign rfl (by decide) ?_
    refine XK.nilN ?_
    refine XK.ret ?_
    refine XK.norm ?_
    subst hb
    exact XK.ret1 rfl rfl fun w1 st => ⟨rfl, st.below (by simp)⟩
  ·
    refine XK.skip ?_
    refine XK.norm ?_
    refine XK.seq ?_

    refine XK.region ?_
    refine xk_assign rfl (by decide) ?_
    refine XK.nilN ?_
    refine XK.ret ?_
    refine XK.norm ?_
    subst hb
    exact XK.ret1 rfl rfl fun w1 st => ⟨rfl, st.below (by simp)⟩

end Go.Proofs.YtgopaoidgcgalaaGreatDoor
/- The reference's Print. -/
namespace Go.Proofs.YtgopaoidgcgalaaGreatDoor
set_option linter.all false
open Go.RowKit
theorem one_byte {w0 w : World} {R : List Piece} {H : List HP} {g : Nat} {t : TypeId} {k : Int} (i : Nat) (hi : H[i]? = some (HP.blk g t [.int .u8 k])) (hk : 0 ≤ k ∧ k < 256) (st : St w0 R H w) : w.rangeAt g 0 (Lib.byteCells [UInt8.ofNat k.toNat]) := by
  intro j v hv
  have hb : Lib.byteCells [UInt8.ofNat k.toNat] = [.int .u8 k] := by
    simp [Lib.byteCells]
    omega
  rw [hb] at hv
  match j with
  | 0 =>
    have := (Rd.blk (R := R) (w0 := w0) i hi hv) w st
    exact this
  | j + 1 => simp at hv
def clkP (c : Clk) : List UInt8 := kwC ++ [32] ++ [UInt8.ofNat c.kind.toNat] ++ tailT c.src
theorem clk_line (c : Clk) : (Item.clk c).line = kwC ++ [32] ++ [UInt8.ofNat c.kind.toNat] ++ tailT c.nums := by
  show joinW (kwC :: [UInt8.ofNat c.kind.toNat] :: c.nums.map numW) = _
  rw [joinW, join_tail]; simp
theorem clk_o {c : Clk} (h : c.kind = 111) : (Item.clk c).line = clkP c ++ (32 :: numW c.rate) := by
  rw [clk_line, Clk.nums, if_pos h, tailT_app, clkP]; simp [tailT]
theorem clk_p {c : Clk} (h : c.kind = 112) : (Item.clk c).line = clkP c ++ tailT [c.mul, c.div, c.lock] := by
  rw [clk_line, Clk.nums, if_neg (by omega), if_pos h, tailT_app, clkP]; simp
theorem clk_d {c : Clk} (h : c.kind = 100) : (Item.clk c).line = clkP c ++ tailT [c.div] := by
  rw [clk_line, Clk.nums, if_neg (by omega), if_neg (by omega), if_pos h, tailT_app, clkP]; simp
theorem clk_n {c : Clk} (h1 : ¬ c.kind = 111) (h2 : ¬ c.kind = 112) (h3 : ¬ c.kind = 100) : (Item.clk c).line = clkP c := by
  rw [clk_line, Clk.nums, if_neg h1, if_neg h2, if_neg h3, clkP]; simp
theorem clkP_len {c : Clk} (hn : c.src.length ≤ 1000000) (h : ∀ x ∈ c.src, 0 ≤ x ∧ x < 9223372036854775808) : (clkP c).length ≤ 21000100 := by
  have h1 := tailT_len c.src h
  have h2 : c.src.length * 21 ≤ 1000000 * 21 := Nat.mul_le_mul_right 21 hn
  simp only [clkP, List.length_append, kwC, List.length_cons, List.length_nil]
  omega

theorem refClk_ok (c : Clk) (As : Option Addr) (ns ks : Nat) (w : World) (hs : SlS (all w) 1 As ns (intCells c.src)) (hns : ns = c.src.length) (hn9 : ns ≤ 1000000) (hsrc : ∀ x ∈ c.src, 0 ≤ x ∧ x < 9223372036854775808) (hk : 0 ≤ c.kind ∧ c.kind < 256) (hr : 0 ≤ c.rate ∧ c.rate < 18446744073709551616)
    (hp : c.kind = 112 → (0 ≤ c.mul ∧ c.mul < 9223372036854775808) ∧ (0 ≤ c.div ∧ c.div < 9223372036854775808) ∧ (0 ≤ c.lock ∧ c.lock < 9223372036854775808)) (hd : c.kind = 100 → 0 ≤ c.div ∧ c.div < 9223372036854775808) :
    Calls Tryz.prog 39 #[.agg #[.int .u8 c.kind, .slice As ns ks, .int .u64 c.rate, .int .i64 c.mul, .int .i64 c.div, .int .i64 c.lock]] w (Rt (.string (strOf ((Item.clk c).line ++ [10]))) w) := by
  have hcl := clkP_len (c := c) (by omega) hsrc
  refine XK.enter (vs := [.agg #[.int .u8 c.kind, .slice As ns ks, .int .u64 c.rate, .int .i64 c.mul, .int .i64 c.div, .int .i64 c.lock]]) Tryz.func39 rfl Tryz.ntmps39 (by simp) ?_
  refine XK.seq ?_

  refine XK.region ?_
  refine xk_box rfl (by decide) fun g1 => ?_
  refine xk_assign rfl (by decide) ?_
  refine XK.nilN ?_
  refine XK.cut (fun e R H => e = [(3, .string (strOf (clkP c))), (2, .string ⟨#[]⟩), (1, .pointer (some ⟨g1, 0, none⟩))] ∧ R = [all w] ∧ H = [HP.blk g1 55 [.int .u8 c.kind, .slice As ns ks, .int .u64 c.rate, .int .i64 c.mul, .int .i64 c.div, .int .i64 c.lock]]) ?_ ?_
  ·

    refine XK.draw 8 (by kernel_rfl) (by kernel_rfl) ?_
    refine XA.dA 0 rfl rfl rfl (does_field (off := 0) (by kernel_rfl) rfl) ?_
    refine XA.dA 1 rfl rfl rfl (does_ld rfl) ?_
    refine XA.dA 5 rfl rfl rfl (does_field (off := 1) (by kernel_rfl) rfl) ?_
    refine XA.dA 6 rfl rfl rfl (does_ld rfl) ?_
    refine XA.either 2 7 rfl rfl (by kernel_rfl) ?_ ?_
    · skip
      refine xk_slice (el := 5) (sz := 1) (zs := [.int .u8 0]) (by kernel_rfl) (zeroB_of (by kernel_rfl)) (by kernel_rfl) rfl (by decide) (by decide) rfl (by simp [fillL, setN, Value.cells, List.range_succ, List.set]; rfl) (by decide) fun gB => ?_
      refine XA.bk ?_
      refine XA.either 3 7 rfl rfl (by kernel_rfl) ?_ ?_
      · skip
        refine xk_bytesStr [UInt8.ofNat c.kind.toNat] Tryz.underlying74 Tryz.underlying5 Tryz.underlying9 rfl rfl (fun w1 st => one_byte 0 rfl hk st) (by decide) ?_
        refine XA.bk ?_
        refine XA.dA 4 rfl rfl rfl (does_addStr rfl rfl (by rw [strOf_size]; have : ByteArray.size ⟨#[99, 108, 111, 99, 107, 32]⟩ = 6 := rfl; rw [this]; simp)) ?_
        refine XA.next 7 rfl (by kernel_rfl) ?_
        refine xk_callR (f := 41) (fi := []) (ca := []) (by kernel_rfl) rfl rfl (by decide) (fun w1 st => refTail_ok c.src As ns ks w1 (hs.le (all_le (st.started (by simp)))) hns (by omega) hsrc) ?_
        refine XA.bk ?_
        refine XA.next 8 rfl (by kernel_rfl) ?_
        rw [show (⟨#[99, 108, 111, 99, 107, 32]⟩ : ByteArray) ++ strOf [UInt8.ofNat c.kind.toNat] = strOf (kwC ++ [32] ++ [UInt8.ofNat c.kind.toNat]) from by rw [show (⟨#[99, 108, 111, 99, 107, 32]⟩ : ByteArray) = strOf (kwC ++ [32]) from rfl, strOf_append]]
        refine xk_addStr rfl rfl (by rw [strOf_size, strOf_size]; have := tailT_len c.src hsrc; have h2 : c.src.length * 21 ≤ 1000000 * 21 := Nat.mul_le_mul_right 21 (by omega); simp [kwC]; omega) (by decide) ?_
        refine XA.bt ?_
        refine XA.next 9 rfl (by kernel_rfl) ?_
        refine xk_assign rfl (by decide) ?_
        refine XA.bt ?_
        refine XA.done (by kernel_rfl) ?_
        refine XK.norm ?_
        rw [strOf_append, show kwC ++ [32] ++ [UInt8.ofNat c.kind.toNat] ++ tailT c.src = clkP c from rfl]
        exact XK.weak (R' := [all w]) [1] rfl (by decide) (by simp) (XK.envS [(3, .string (strOf (clkP c))), (2, .string ⟨#[]⟩), (1, .pointer (some ⟨g1, 0, none⟩))] (XK.meet ⟨rfl, rfl, rfl⟩))
      · skip
        refine xk_callR (f := 41) (fi := []) (ca := []) (by kernel_rfl) rfl rfl (by decide) (fun w1 st => refTail_ok c.src As ns ks w1 (hs.le (all_le (st.started (by simp)))) hns (by omega) hsrc) ?_
        refine XA.bk ?_
        refine XA.next 3 rfl (by kernel_rfl) ?_
        refine xk_bytesStr [UInt8.ofNat c.kind.toNat] Tryz.underlying74 Tryz.underlying5 Tryz.underlying9 rfl rfl (fun w1 st => one_byte 0 rfl hk st) (by decide) ?_
        refine XA.bk ?_
        refine XA.dA 4 rfl rfl rfl (does_addStr rfl rfl (by rw [strOf_size]; have : ByteArray.size ⟨#[99, 108, 111, 99, 107, 32]⟩ = 6 := rfl; rw [this]; simp)) ?_
        refine XA.next 8 rfl (by kernel_rfl) ?_
        rw [show (⟨#[99, 108, 111, 99, 107, 32]⟩ : ByteArray) ++ strOf [UInt8.ofNat c.kind.toNat] = strOf (kwC ++ [32] ++ [UInt8.ofNat c.kind.toNat]) from by rw [show (⟨#[99, 108, 111, 99, 107, 32]⟩ : ByteArray) = strOf (kwC ++ [32]) from rfl, strOf_append]]
        refine xk_addStr rfl rfl (by rw [strOf_size, strOf_size]; have := tailT_len c.src hsrc; have h2 : c.src.length * 21 ≤ 1000000 * 21 := Nat.mul_le_mul_right 21 (by omega); simp [kwC]; omega) (by decide) ?_
        refine XA.bt ?_
        refine XA.next 9 rfl (by kernel_rfl) ?_
        refine xk_assign rfl (by decide) ?_
        refine XA.bt ?_
        refine XA.done (by kernel_rfl) ?_
        refine XK.norm ?_
        rw [strOf_append, show kwC ++ [32] ++ [UInt8.ofNat c.kind.toNat] ++ tailT c.src = clkP c from rfl]
        exact XK.weak (R' := [all w]) [1] rfl (by decide) (by simp) (XK.envS [(3, .string (strOf (clkP c))), (2, .string ⟨#[]⟩), (1, .pointer (some ⟨g1, 0, none⟩))] (XK.meet ⟨rfl, rfl, rfl⟩))
    · skip
      refine xk_callR (f := 41) (fi := []) (ca := []) (by kernel_rfl) rfl rfl (by decide) (fun w1 st => refTail_ok c.src As ns ks w1 (hs.le (all_le (st.started (by simp)))) hns (by omega) hsrc) ?_
      refine XA.bk ?_
      refine XA.next 2 rfl (by kernel_rfl) ?_
      refine xk_slice (el := 5) (sz := 1) (zs := [.int .u8 0]) (by kernel_rfl) (zeroB_of (by kernel_rfl)) (by kernel_rfl) rfl (by decide) (by decide) rfl (by simp [fillL, setN, Value.cells, List.range_succ, List.set]; rfl) (by decide) fun gB => ?_
      refine XA.bk ?_
      refine XA.next 3 rfl (by kernel_rfl) ?_
      refine xk_bytesStr [UInt8.ofNat c.kind.toNat] Tryz.underlying74 Tryz.underlying5 Tryz.underlying9 rfl rfl (fun w1 st => one_byte 0 rfl hk st) (by decide) ?_
      refine XA.bk ?_
      refine XA.dA 4 rfl rfl rfl (does_addStr rfl rfl (by rw [strOf_size]; have : ByteArray.size ⟨#[99, 108, 111, 99, 107, 32]⟩ = 6 := rfl; rw [this]; simp)) ?_
      refine XA.next 8 rfl (by kernel_rfl) ?_
      rw [show (⟨#[99, 108, 111, 99, 107, 32]⟩ : ByteArray) ++ strOf [UInt8.ofNat c.kind.toNat] = strOf (kwC ++ [32] ++ [UInt8.ofNat c.kind.toNat]) from by rw [show (⟨#[99, 108, 111, 99, 107, 32]⟩ : ByteArray) = strOf (kwC ++ [32]) from rfl, strOf_append]]
      refine xk_addStr rfl rfl (by rw [strOf_size, strOf_size]; have := tailT_len c.src hsrc; have h2 : c.src.length * 21 ≤ 1000000 * 21 := Nat.mul_le_mul_right 21 (by omega); simp [kwC]; omega) (by decide) ?_
      refine XA.bt ?_
      refine XA.next 9 rfl (by kernel_rfl) ?_
      refine xk_assign rfl (by decide) ?_
      refine XA.bt ?_
      refine XA.done (by kernel_rfl) ?_
      refine XK.norm ?_
      rw [strOf_append, show kwC ++ [32] ++ [UInt8.ofNat c.kind.toNat] ++ tailT c.src = clkP c from rfl]
      exact XK.weak (R' := [all w]) [1] rfl (by decide) (by simp) (XK.envS [(3, .string (strOf (clkP c))), (2, .string ⟨#[]⟩), (1, .pointer (some ⟨g1, 0, none⟩))] (XK.meet ⟨rfl, rfl, rfl⟩))
  rintro _ _ _ ⟨rfl, rfl, rfl⟩
  refine XK.seq ?_
  refine XK.seq ?_

  refine XK.region ?_
  refine xk_field (off := 0) (by kernel_rfl) rfl (by decide) ?_
  refine xk_ld rfl ?_
  refine XK.nilN ?_
  refine XK.block ?_
  refine XK.seq ?_

  refine XK.region ?_
  refine xk_eql rfl rfl (by decide) ?_
  refine xk_assign rfl (by decide) ?_
  refine XK.nilN ?_
  refine XK.if_ rfl (fun h111 => ?_) (fun h111 => ?_)
  ·
    refine XK.seq ?_

    refine XK.region ?_
    refine xk_move rfl (by decide) ?_
    have hrl := numW_len (n := c.rate) (by omega) (by omega)
    refine xk_addStr (b := strOf [32]) rfl rfl (by rw [strOf_size, strOf_size]; simp; omega) (by decide) ?_
    rw [strOf_append]
    refine xk_field (off := 2) (by kernel_rfl) rfl (by decide) ?_
    refine xk_ld rfl ?_
    refine xk_callR (f := 40) (fi := []) (ca := []) (by kernel_rfl) rfl rfl (by decide) (fun w1 st => refDigW_ok c.rate hr.1 hr.2 w1) ?_
    refine xk_addStr (b := strOf (numW c.rate)) rfl rfl (by rw [strOf_size, strOf_size]; simp; omega) (by decide) ?_
    rw [strOf_append]
    refine xk_addStr (b := strOf [10]) rfl rfl (by rw [strOf_size, strOf_size]; simp; omega) (by decide) ?_
    rw [strOf_append]
    refine xk_assign rfl (by decide) ?_
    refine XK.nilN ?_
    refine XK.ret ?_
    refine XK.norm ?_
    rw [show clkP c ++ [32] ++ numW c.rate ++ [10] = (Item.clk c).line ++ [10] from by rw [clk_o h111]; simp]
    exact XK.ret1 rfl rfl fun w1 st => ⟨rfl, st.below (by simp)⟩
  ·
    refine XK.seq ?_

    refine XK.region ?_
    refine xk_eql rfl rfl (by decide) ?_
    refine xk_assign rfl (by decide) ?_
    refine XK.nilN ?_
    refine XK.if_ rfl (fun h112 => ?_) (fun h112 => ?_)
    ·
      refine XK.seq ?_
      obtain ⟨hm1, hm2, hm3⟩ := hp h112
      have hpp : ∀ x ∈ [c.mul, c.div, c.lock], 0 ≤ x ∧ x < 9223372036854775808 := by
        intro x hx; simp at hx; rcases hx with rfl | rfl | rfl <;> assumption
      have htl := tailT_len [c.mul, c.div, c.lock] hpp
      simp only [List.length_cons, List.length_nil] at htl

      refine XK.region ?_
      refine xk_move rfl (by decide) ?_
      refine xk_field (off := 3) (by kernel_rfl) rfl (by decide) ?_
      refine xk_ld rfl ?_
      refine xk_field (off := 4) (by kernel_rfl) rfl (by decide) ?_
      refine xk_ld rfl ?_
      refine xk_field (off := 5) (by kernel_rfl) rfl (by decide) ?_
      refine xk_ld rfl ?_
      refine xk_slice (el := 3) (sz := 1) (zs := [.int .i64 0]) (by kernel_rfl) (zeroB_of (by kernel_rfl)) (by kernel_rfl) rfl (by decide) (by decide) rfl (by simp [fillL, setN, Value.cells, List.range_succ, List.set]; rfl) (by decide) fun g3 => ?_
      refine xk_callR (f := 41) (fi := []) (ca := []) (by kernel_rfl) rfl rfl (by decide) (fun w1 st => refTail_ok [c.mul, c.div, c.lock] _ _ _ w1 (by obtain ⟨B, hB⟩ := sl_blk (sz := 1) (m := 3) 0 rfl rfl w1 st; exact SlS.ofB hB) rfl (by decide) hpp) ?_
      refine xk_addStr (b := strOf (tailT [c.mul, c.div, c.lock])) rfl rfl (by rw [strOf_size, strOf_size]; omega) (by decide) ?_
      rw [strOf_append]
      refine xk_addStr (b := strOf [10]) rfl rfl (by rw [strOf_size, strOf_size, List.length_append]; simp; omega) (by decide) ?_
      rw [strOf_append]
      refine xk_assign rfl (by decide) ?_
      refine XK.nilN ?_
      refine XK.ret ?_
      refine XK.norm ?_
      rw [show clkP c ++ tailT [c.mul, c.div, c.lock] ++ [10] = (Item.clk c).line ++ [10] from by rw [clk_p h112]]
      exact XK.ret1 rfl rfl fun w1 st => ⟨rfl, st.below (by simp)⟩
    ·
      refine XK.seq ?_

      refine XK.region ?_
      refine xk_eql rfl rfl (by decide) ?_
      refine xk_assign rfl (by decide) ?_
      refine XK.nilN ?_
      refine XK.if_ rfl (fun h100 => ?_) (fun h100 => ?_)
      ·
        refine XK.seq ?_
        have hpp : ∀ x ∈ [c.div], 0 ≤ x ∧ x < 9223372036854775808 := by
          intro x hx; simp at hx; subst hx; exact hd h100
        have htl := tailT_len [c.div] hpp
        simp only [List.length_cons, List.length_nil] at htl

        refine XK.region ?_
        refine xk_move rfl (by decide) ?_
        refine xk_field (off := 4) (by kernel_rfl) rfl (by decide) ?_
        refine xk_ld rfl ?_
        refine xk_slice (el := 3) (sz := 1) (zs := [.int .i64 0]) (by kernel_rfl) (zeroB_of (by kernel_rfl)) (by kernel_rfl) rfl (by decide) (by decide) rfl (by simp [fillL, setN, Value.cells, List.range_succ, List.set]; rfl) (by decide) fun g4 => ?_
        refine xk_callR (f := 41) (fi := []) (ca := []) (by kernel_rfl) rfl rfl (by decide) (fun w1 st => refTail_ok [c.div] _ _ _ w1 (by obtain ⟨B, hB⟩ := sl_blk (sz := 1) (m := 1) 0 rfl rfl w1 st; exact SlS.ofB hB) rfl (by decide) hpp) ?_
        refine xk_addStr (b := strOf (tailT [c.div])) rfl rfl (by rw [strOf_size, strOf_size]; omega) (by decide) ?_
        rw [strOf_append]
        refine xk_addStr (b := strOf [10]) rfl rfl (by rw [strOf_size, strOf_size, List.length_append]; simp; omega) (by decide) ?_
        rw [strOf_append]
        refine xk_assign rfl (by decide) ?_
        refine XK.nilN ?_
        refine XK.ret ?_
        refine XK.norm ?_
        rw [show clkP c ++ tailT [c.div] ++ [10] = (Item.clk c).line ++ [10] from by rw [clk_d h100]]
        exact XK.ret1 rfl rfl fun w1 st => ⟨rfl, st.below (by simp)⟩
      ·
        refine XK.skip ?_
        refine XK.norm ?_
        refine XK.seq ?_

        refine XK.region ?_
        refine xk_move rfl (by decide) ?_
        refine xk_addStr (b := strOf [10]) rfl rfl (by rw [strOf_size, strOf_size]; simp; omega) (by decide) ?_
        rw [strOf_append]
        refine xk_assign rfl (by decide) ?_
        refine XK.nilN ?_
        refine XK.ret ?_
        refine XK.norm ?_
        rw [show clkP c ++ [10] = (Item.clk c).line ++ [10] from by rw [clk_n h111 h112 h100]]
        exact XK.ret1 rfl rfl fun w1 st => ⟨rfl, st.below (by simp)⟩

/-- what a check that finds nothing has seen -/
structure Zero (s : Soc) : Prop where
  clk : ∀ c ∈ s.clocks, (∀ x ∈ c.src, 0 ≤ x ∧ x < (s.clocks.length : Int)) ∧ (c.kind = 112 → (1 ≤ c.mul ∧ c.mul ≤ 1000) ∧ (1 ≤ c.div ∧ c.div ≤ 1000) ∧ (0 ≤ c.lock ∧ c.lock ≤ 20)) ∧ (c.kind = 100 → 1 ≤ c.div ∧ c.div ≤ 1000)
  dom : ∀ d ∈ s.domains, (d.above = -1 ∨ (0 ≤ d.above ∧ d.above < (s.domains.length : Int))) ∧ 0 ≤ d.delay ∧ d.delay ≤ 20
  rst : ∀ r ∈ s.resets, 0 ≤ r ∧ r ≤ 20
  dev : ∀ d ∈ s.devs, (0 ≤ d.clock ∧ d.clock < (s.clocks.length : Int)) ∧ (0 ≤ d.domain ∧ d.domain < (s.domains.length : Int)) ∧ (0 ≤ d.reset ∧ d.reset < (s.resets.length : Int)) ∧ ∀ x ∈ d.needs, 0 ≤ x ∧ x < (s.devs.length : Int)
theorem clockE_zero {nn : Nat} {c : Clk} (h : clockE nn c = 0) : (c.kind = 112 → (1 ≤ c.mul ∧ c.mul ≤ 1000) ∧ (1 ≤ c.div ∧ c.div ≤ 1000) ∧ (0 ≤ c.lock ∧ c.lock ≤ 20)) ∧ (c.kind = 100 → 1 ≤ c.div ∧ c.div ≤ 1000) := by
  have hsrc := clockE_in h
  by_cases hF : (c.kind = 111 ∧ (c.src.length : Int) = 0) ∨ ((c.kind = 112 ∨ c.kind = 100 ∨ c.kind = 103) ∧ (c.src.length : Int) = 1) ∨ (c.kind = 109 ∧ 1 ≤ (c.src.length : Int) ∧ (c.src.length : Int) ≤ 4)
  · refine ⟨fun hk => ?_, fun hk => ?_⟩
    · refine Classical.byContradiction fun hn => ?_
      rw [clockE_bad hF hsrc (.inr (.inl ⟨hk, by omega⟩))] at h
      cases h
    · refine Classical.byContradiction fun hn => ?_
      rw [clockE_bad hF hsrc (.inr (.inr ⟨hk, hn⟩))] at h
      cases h
  · rw [clockE_form hF] at h; cases h
theorem check_zero {s : Soc} (h : checkS s = 0) : Zero s := by
  have hz := firstE_zero h
  refine ⟨fun c hc => ?_, fun d hd => ?_, fun r hr => ?_, fun d hd => ?_⟩
  · have h1 := firstE_zero (hz (firstE (s.clocks.map (clockE s.clocks.length))) (by simp [checkL])) _ (List.mem_map.2 ⟨c, hc, rfl⟩)
    exact ⟨clockE_in h1, clockE_zero h1⟩
  · have h1 := firstE_zero (hz (firstE (s.domains.map (domainE s.domains.length))) (by simp [checkL])) _ (List.mem_map.2 ⟨d, hd, rfl⟩)
    rw [domE_if] at h1
    split at h1
    · cases h1
    · split at h1
      · omega
      · cases h1
  · have h1 := firstE_zero (hz (firstE (s.resets.map resetE)) (by simp [checkL])) _ (List.mem_map.2 ⟨r, hr, rfl⟩)
    rw [resetE_if] at h1
    split at h1
    · assumption
    · cases h1
  · have h1 := firstE_zero (hz (firstE (s.devs.map (deviceE s.clocks.length s.domains.length s.resets.length s.devs.length))) (by simp [checkL])) _ (List.mem_map.2 ⟨d, hd, rfl⟩)
    rw [devE_if] at h1
    split at h1
    · cases h1
    · refine ⟨by omega, by omega, by omega, fun x hx => ?_⟩
      have h2 := firstE_zero h1 _ (List.mem_map.2 ⟨x, hx, rfl⟩)
      rw [srcE] at h2
      split at h2
      · assumption
      · cases h2
theorem itemsT_next (pre : List Item) (i : Item) : itemsT (pre ++ [i]) = itemsT pre ++ (i.line ++ [10]) := by rw [itemsT_app]; simp [itemsT, unlines]
theorem dom_line (d : Dom) : (Item.dom d).line ++ [10] = kwD ++ [32] ++ aboveW d.above ++ tailT [d.delay] ++ (32 :: keptW d.ret ++ [10]) := by
  show joinW [kwD, aboveW d.above, numW d.delay, keptW d.ret] ++ [10] = _
  simp [joinW, tailT]
theorem res_line (r : Int) : (Item.res r).line ++ [10] = kwR ++ tailT [r] ++ [10] := by
  show joinW [kwR, numW r] ++ [10] = _
  simp [joinW, tailT]
theorem dev_line (d : Dev) : (Item.dev d.bare).line ++ [10] = kwV ++ tailT [d.clock, d.domain, d.reset] ++ [32] ++ numW d.clamp ++ tailT d.needs ++ [10] := by
  show joinW (kwV :: numW d.clock :: numW d.domain :: numW d.reset :: numW d.clamp :: d.needs.map numW) ++ [10] = _
  rw [joinW, joinW, joinW, joinW, join_tail]; simp [tailT]
theorem reg_line (r : Rg) : (Item.reg r).line ++ [10] = kwG ++ [32] ++ numW r.reset ++ (32 :: keptW r.kept ++ [10]) := by
  show joinW [kwG, numW r.reset, keptW r.kept] ++ [10] = _
  simp [joinW]
theorem lit_d : (⟨#[100, 111, 109, 97, 105, 110, 32]⟩ : ByteArray) = strOf (kwD ++ [32]) := rfl
theorem lit_r : (⟨#[114, 101, 115, 101, 116]⟩ : ByteArray) = strOf kwR := rfl
theorem lit_v : (⟨#[100, 101, 118, 105, 99, 101]⟩ : ByteArray) = strOf kwV := rfl
theorem lit_g : (⟨#[114, 101, 103, 32]⟩ : ByteArray) = strOf (kwG ++ [32]) := rfl
theorem lit_b : (⟨#[32]⟩ : ByteArray) = strOf [32] := rfl
theorem lit_n : (⟨#[10]⟩ : ByteArray) = strOf [10] := rfl
set_option maxHeartbeats 1000000 in
theorem refPrint_ok (s : Soc) (A1 A2 A3 A4 : Option Addr) (n1 k1 n2 k2 n3 k3 n4 k4 : Nat) (w : World) (hW : SocW w s A1 n1 A2 n2 A3 n3 A4 n4) (h64 : s.in64) :
    Calls Tryz.prog 18 #[.agg #[.slice A1 n1 k1, .slice A2 n2 k2, .slice A3 n3 k3, .slice A4 n4 k4]] w (Rt (.tuple #[.string (strOf (if checkS s = 0 then printF s else [])), .int .i64 (if checkS s = 0 then 0 else 1)]) w) := by
  have hn1 := hW.len1
  have hn2 := hW.len2
  have hn3 := hW.len3
  have hn4 := hW.len4
  have hsm := hW.small
  unfold Soc.small at hsm
  obtain ⟨hs1, hs2, hs3, hs4, hs5, hs6⟩ := hsm
  have hz7 : ByteArray.size ⟨#[100, 111, 109, 97, 105, 110, 32]⟩ = 7 := rfl
  have hz6 : ByteArray.size ⟨#[100, 101, 118, 105, 99, 101]⟩ = 6 := rfl
  have hz5 : ByteArray.size ⟨#[114, 101, 115, 101, 116]⟩ = 5 := rfl
  have hz4 : ByteArray.size ⟨#[114, 101, 103, 32]⟩ = 4 := rfl
  have hz1 : ByteArray.size ⟨#[32]⟩ = 1 := rfl
  have hz1n : ByteArray.size ⟨#[10]⟩ = 1 := rfl
  refine XK.enter (vs := [.agg #[.slice A1 n1 k1, .slice A2 n2 k2, .slice A3 n3 k3, .slice A4 n4 k4]]) Tryz.func18 rfl Tryz.ntmps18 (by simp) ?_
  refine XK.seq ?_

  refine XK.region ?_
  refine xk_box rfl (by decide) fun g1 => ?_
  refine xk_assign rfl (by decide) ?_
  refine xk_assign rfl (by decide) ?_
  refine XK.nilN ?_
  refine XK.seq ?_
  refine XK.seq ?_

  refine XK.region ?_
  refine xk_ldN 4 rfl ?_
  refine xk_callR (f := 29) (fi := []) (ca := []) (by kernel_rfl) rfl rfl (by decide) (fun w1 st => refChkG_any s A1 A2 A3 A4 n1 k1 n2 k2 n3 k3 n4 k4 w1 (hW.le (st.started (by simp)))) ?_
  refine xk_neq rfl rfl (by decide) ?_
  refine XK.nilN ?_
  refine XK.if_ rfl (fun hck => ?_) (fun hck => ?_)
  ·
    refine XK.seq ?_

    refine XK.region ?_
    refine xk_assign rfl (by decide) ?_
    refine xk_assign rfl (by decide) ?_
    refine XK.nilN ?_
    refine XK.ret ?_
    refine XK.norm ?_
    rw [if_neg hck, if_neg hck]
    exact XK.ret2 rfl rfl rfl fun w1 st => ⟨rfl, st.below (by simp)⟩
  ·
    refine XK.skip ?_
    refine XK.norm ?_
    refine XK.seq ?_
    have hck : checkS s = 0 := Classical.not_not.1 hck
    rw [if_pos hck, if_pos hck]
    obtain ⟨hzc, hzd, hzr, hzv⟩ := check_zero hck
    have hpl := print_len (check_ok hck) h64
    obtain ⟨hb1, hb2, hb3, hb4, hb5, hb6⟩ := check_ok hck

    refine XK.region ?_
    refine xk_assign rfl (by decide) ?_
    refine XK.nilN ?_
    refine XK.seq ?_
    refine XK.seq ?_

    refine XK.region ?_
    refine xk_assign rfl (by decide) ?_
    refine XK.nilN ?_
    refine XK.envS [(5, .int .i64 0), (4, .string (strOf ([]))), (3, .int .i64 0), (2, .string ⟨#[]⟩), (1, .pointer (some ⟨g1, 0, none⟩))] ?_
    refine XK.block ?_
    refine XK.loop (fun m e R H => ∃ k : Nat, k ≤ n1 ∧ m = n1 - k ∧ e = [(5, .int .i64 k), (4, .string (strOf (itemsT (preC s k)))), (3, .int .i64 0), (2, .string ⟨#[]⟩), (1, .pointer (some ⟨g1, 0, none⟩))] ∧ R = [all w] ∧ H = [HP.blk g1 28 [.slice A1 n1 k1, .slice A2 n2 k2, .slice A3 n3 k3, .slice A4 n4 k4]]) n1 ⟨0, by omega, rfl, rfl, rfl, rfl⟩ fun m e R H hI => ?_
    obtain ⟨k, hkn, rfl, rfl, rfl, rfl⟩ := hI
    refine XK.seq ?_
    refine XK.seq ?_

    refine XK.region ?_
    refine xk_move rfl (by decide) ?_
    refine xk_field (off := 0) (by kernel_rfl) rfl (by decide) ?_
    refine xk_ld rfl ?_
    refine xk_len (el := 55) (by kernel_rfl) rfl (by decide) ?_
    refine xk_lss rfl rfl (by decide) ?_
    refine XK.nilN ?_
    refine XK.if_ rfl (fun hlt => ?_) (fun hlt => ?_)
    ·
      refine XK.skip ?_
      refine XK.norm ?_
      refine XK.seq ?_
      refine XK.block ?_
      obtain ⟨c, hc⟩ : ∃ c, s.clocks[k]? = some c := ⟨_, List.getElem?_eq_getElem (by omega)⟩
      have hcm := List.mem_of_getElem? hc
      obtain ⟨b, off, r, rfl, hrl, hR, hro⟩ := hW.clk.row hc
      obtain ⟨Af, nf, kf, rfl, hnf, hsf0⟩ := hR
      obtain ⟨hq1, hq2, hq3⟩ := hzc c hcm
      obtain ⟨hx1, hx2, hx3, hx4, hx5, hx6⟩ := h64.clocks c hcm
      obtain ⟨hnx, suf, hsf⟩ := preC_next hc
      have hps := pre_step _ hsf
      have hil0 : (joinW (Item.words (.clk c))).length = (Item.line (.clk c)).length := rfl
      have hin := itemsT_next (preC s k) (.clk c)

      refine XK.region ?_
      refine xk_move rfl (by decide) ?_
      refine xk_field (off := 0) (by kernel_rfl) rfl (by decide) ?_
      refine xk_ld rfl ?_
      refine xk_move rfl (by decide) ?_
      refine xk_at (k) (off + k * 6) (el := 55) (sz := 6) (by kernel_rfl) (by kernel_rfl) rfl rfl (by omega) (by omega) (by omega) (by decide) ?_
      refine xk_loadN 6 (by kernel_rfl) rfl (RdN.of (vs := [.int .u8 c.kind, .slice Af nf kf, .int .u64 c.rate, .int .i64 c.mul, .int .i64 c.div, .int .i64 c.lock]) fun j v hj => Rd.roc (by simp) (hro.at_ (j := j) hj)) rfl (by decide) ?_
      refine xk_callR (f := 39) (fi := []) (ca := []) (by kernel_rfl) rfl rfl (by decide) (fun w1 st => refClk_ok c Af nf kf w1 (SlS.le hsf0 (all_le (st.started (by simp)))) hnf (by have := hs5 c hcm; omega) (fun x hx => by have := hq1 x hx; omega) hx2 hx3 (fun hk => by have := hq2 hk; omega) (fun hk => by have := hq3 hk; omega)) ?_
      refine xk_addStr (b := strOf ((Item.clk c).line ++ [10])) rfl rfl (by rw [strOf_size, strOf_size]; simp; omega) (by decide) ?_
      rw [strOf_append, ← hin, ← hnx]
      refine xk_assign rfl (by decide) ?_
      refine XK.nilN ?_

      refine XK.region ?_
      refine xk_move rfl (by decide) ?_
      refine xk_add rfl rfl (wrap_in (by omega)) (by decide) ?_
      refine xk_assign rfl (by decide) ?_
      refine XK.nilN ?_
      exact XK.envS [(5, .int .i64 ((k : Int) + 1)), (4, .string (strOf (itemsT (preC s (k + 1))))), (3, .int .i64 0), (2, .string ⟨#[]⟩), (1, .pointer (some ⟨g1, 0, none⟩))] (XK.round (n1 - (k + 1)) (by omega) ⟨k + 1, by omega, rfl, rfl, rfl, rfl⟩)
    ·
      refine XK.exit ?_
      refine XK.norm ?_
      refine XK.seq ?_
      refine XK.seq ?_
      obtain rfl : k = s.clocks.length := by omega
      rw [preC_all]

      refine XK.region ?_
      refine xk_assign rfl (by decide) ?_
      refine XK.nilN ?_
      refine XK.envS [(6, .int .i64 0), (4, .string (strOf (itemsT (preD s 0)))), (3, .int .i64 0), (2, .string ⟨#[]⟩), (1, .pointer (some ⟨g1, 0, none⟩))] ?_
      refine XK.block ?_
      refine XK.loop (fun m e R H => ∃ k : Nat, k ≤ n2 ∧ m = n2 - k ∧ e = [(6, .int .i64 k), (4, .string (strOf (itemsT (preD s k)))), (3, .int .i64 0), (2, .string ⟨#[]⟩), (1, .pointer (some ⟨g1, 0, none⟩))] ∧ R = [all w] ∧ H = [HP.blk g1 28 [.slice A1 n1 k1, .slice A2 n2 k2, .slice A3 n3 k3, .slice A4 n4 k4]]) n2 ⟨0, by omega, rfl, rfl, rfl, rfl⟩ fun m e R H hI => ?_
      obtain ⟨k, hkn, rfl, rfl, rfl, rfl⟩ := hI
      refine XK.seq ?_
      refine XK.seq ?_

      refine XK.region ?_
      refine xk_move rfl (by decide) ?_
      refine xk_field (off := 1) (by kernel_rfl) rfl (by decide) ?_
      refine xk_ld rfl ?_
      refine xk_len (el := 69) (by kernel_rfl) rfl (by decide) ?_
      refine xk_lss rfl rfl (by decide) ?_
      refine XK.nilN ?_
      refine XK.if_ rfl (fun hlt => ?_) (fun hlt => ?_)
      ·
        refine XK.skip ?_
        refine XK.norm ?_
        refine XK.seq ?_
        refine XK.block ?_
        refine XK.seq ?_
        obtain ⟨c, hc⟩ : ∃ c, s.domains[k]? = some c := ⟨_, List.getElem?_eq_getElem (by omega)⟩
        have hcm := List.mem_of_getElem? hc
        obtain ⟨b, off, r, rfl, hrl, rfl, hro⟩ := hW.dom.row hc
        obtain ⟨hq1, hq2, hq3⟩ := hzd c hcm
        obtain ⟨hnx, suf, hsf⟩ := preD_next hc
        have hps := pre_step _ hsf
        have hil0 : (joinW (Item.words (.dom c))).length = (Item.line (.dom c)).length := rfl
        have hin := itemsT_next (preD s k) (.dom c)
        have hdl := dom_line c
        have hdL := congrArg List.length hdl
        simp only [List.length_append, List.length_cons, List.length_nil] at hdL
        have htp : ∀ x ∈ [c.delay], 0 ≤ x ∧ x < 9223372036854775808 := by intro x hx; simp at hx; subst hx; omega

        refine XK.region ?_
        refine xk_field (off := 1) (by kernel_rfl) rfl (by decide) ?_
        refine xk_ld rfl ?_
        refine xk_move rfl (by decide) ?_
        refine xk_at (k) (off + k * 3) (el := 69) (sz := 3) (by kernel_rfl) (by kernel_rfl) rfl rfl (by omega) (by omega) (by omega) (by decide) ?_
        refine xk_loadN 3 (by kernel_rfl) rfl (RdN.of (vs := [.int .i64 c.above, .int .i64 c.delay, .bool c.ret]) fun j v hj => Rd.roc (by simp) (hro.at_ (j := j) hj)) rfl (by decide) ?_
        refine xk_alloc (cs := [.int .i64 0, .int .i64 0, .bool false]) (zeroB_of (by kernel_rfl)) (by decide) fun g2 => ?_
        (first | (refine xk_storeN 0 rfl rfl rfl (by kernel_rfl) (by simp [Value.cells, Value.oneCell']) (by simp [Value.cells]) ?_) | (refine xk_storeN 1 rfl rfl rfl (by kernel_rfl) (by simp [Value.cells, Value.oneCell']) (by simp [Value.cells]) ?_) | (refine xk_storeN 2 rfl rfl rfl (by kernel_rfl) (by simp [Value.cells, Value.oneCell']) (by simp [Value.cells]) ?_) | (refine xk_storeN 3 rfl rfl rfl (by kernel_rfl) (by simp [Value.cells, Value.oneCell']) (by simp [Value.cells]) ?_) | (refine xk_storeN 4 rfl rfl rfl (by kernel_rfl) (by simp [Value.cells, Value.oneCell']) (by simp [Value.cells]) ?_) | (refine xk_storeN 5 rfl rfl rfl (by kernel_rfl) (by simp [Value.cells, Value.oneCell']) (by simp [Value.cells]) ?_) | (refine xk_storeN 6 rfl rfl rfl (by kernel_rfl) (by simp [Value.cells, Value.oneCell']) (by simp [Value.cells]) ?_) | (refine xk_storeN 7 rfl rfl rfl (by kernel_rfl) (by simp [Value.cells, Value.oneCell']) (by simp [Value.cells]) ?_) | (refine xk_storeN 8 rfl rfl rfl (by kernel_rfl) (by simp [Value.cells, Value.oneCell']) (by simp [Value.cells]) ?_)); simp only [putN, Value.cells, List.set, List.take, List.drop, List.nil_append, List.append_nil, List.length_cons, List.length_nil, List.cons_append, Nat.reduceAdd]
        refine XK.nilN ?_
        refine XK.seq ?_

        refine XK.region ?_
        refine xk_assign rfl (by decide) ?_
        refine XK.nilN ?_
        refine XK.cut (fun e R H => e = [(8, .string (strOf (aboveW c.above))), (7, .pointer (some ⟨g2, 0, none⟩)), (6, .int .i64 k), (4, .string (strOf (itemsT (preD s k)))), (3, .int .i64 0), (2, .string ⟨#[]⟩), (1, .pointer (some ⟨g1, 0, none⟩))] ∧ R = [all w] ∧ H = [HP.blk g2 69 [.int .i64 c.above, .int .i64 c.delay, .bool c.ret], HP.blk g1 28 [.slice A1 n1 k1, .slice (some ⟨b, off, none⟩) n2 k2, .slice A3 n3 k3, .slice A4 n4 k4]]) ?_ ?_
        ·
          refine XK.seq ?_

          refine XK.region ?_
          refine xk_field (off := 0) (by kernel_rfl) rfl (by decide) ?_
          refine xk_ld rfl ?_
          refine xk_geq rfl rfl (by decide) ?_
          refine XK.nilN ?_
          refine XK.if_ rfl (fun hab => ?_) (fun hab => ?_)
          ·

            refine XK.region ?_
            refine xk_field (off := 0) (by kernel_rfl) rfl (by decide) ?_
            refine xk_ld rfl ?_
            refine xk_conv (ds := .int .i64) (by kernel_rfl) (by kernel_rfl) rfl (wrap_u64 (by omega)) (by decide) ?_
            refine xk_callR (f := 40) (fi := []) (ca := []) (by kernel_rfl) rfl rfl (by decide) (fun w1 st => refDigW_ok c.above hab (by omega) w1) ?_
            rw [show numW c.above = aboveW c.above from by rw [aboveW, if_neg (by omega)]]
            refine xk_assign rfl (by decide) ?_
            refine XK.nilN ?_
            exact XK.envS [(8, .string (strOf (aboveW c.above))), (7, .pointer (some ⟨g2, 0, none⟩)), (6, .int .i64 k), (4, .string (strOf (itemsT (preD s k)))), (3, .int .i64 0), (2, .string ⟨#[]⟩), (1, .pointer (some ⟨g1, 0, none⟩))] (XK.meet ⟨rfl, rfl, rfl⟩)
          ·
            refine XK.skip ?_
            refine XK.norm ?_
            have ha1 : c.above = -1 := by omega
            rw [show (⟨#[45]⟩ : ByteArray) = strOf (aboveW c.above) from by rw [aboveW, if_pos ha1]; rfl]
            exact XK.envS [(8, .string (strOf (aboveW c.above))), (7, .pointer (some ⟨g2, 0, none⟩)), (6, .int .i64 k), (4, .string (strOf (itemsT (preD s k)))), (3, .int .i64 0), (2, .string ⟨#[]⟩), (1, .pointer (some ⟨g1, 0, none⟩))] (XK.meet ⟨rfl, rfl, rfl⟩)
        rintro _ _ _ ⟨rfl, rfl, rfl⟩

        refine XK.draw 12 (by kernel_rfl) (by kernel_rfl) ?_
        refine XA.dA 0 rfl rfl rfl (does_move rfl) ?_
        refine XA.dA 1 rfl rfl rfl (does_addStr rfl rfl (by first | (simp only [ByteArray.size_append, strOf_size, hz7, hz6, hz5, hz4, hz1, hz1n]; omega) | omega)) ?_
        refine XA.dA 2 rfl rfl rfl (does_move rfl) ?_
        refine XA.dA 3 rfl rfl rfl (does_addStr rfl rfl (by first | (simp only [ByteArray.size_append, strOf_size, hz7, hz6, hz5, hz4, hz1, hz1n]; omega) | omega)) ?_
        refine XA.dA 4 rfl rfl rfl (does_field (off := 1) (by kernel_rfl) rfl) ?_
        refine XA.dA 5 rfl rfl rfl (does_ld rfl) ?_
        refine XA.dA 9 rfl rfl rfl (does_field (off := 2) (by kernel_rfl) rfl) ?_
        refine XA.dA 10 rfl rfl rfl (does_ld rfl) ?_
        refine XA.next 6 rfl (by kernel_rfl) ?_
        refine xk_slice (el := 3) (sz := 1) (zs := [.int .i64 0]) (by kernel_rfl) (zeroB_of (by kernel_rfl)) (by kernel_rfl) rfl (by decide) (by decide) rfl (by simp [fillL, setN, Value.cells, List.range_succ, List.set]; rfl) (by decide) fun g3 => ?_
        refine XA.bk ?_
        refine XA.next 7 rfl (by kernel_rfl) ?_
        refine xk_callR (f := 41) (fi := []) (ca := []) (by kernel_rfl) rfl rfl (by decide) (fun w1 st => refTail_ok [c.delay] _ _ _ w1 (by obtain ⟨B, hB⟩ := sl_blk (sz := 1) (m := 1) 0 rfl rfl w1 st; exact SlS.ofB hB) rfl (by decide) htp) ?_
        refine XA.bk ?_
        refine XA.dA 8 rfl rfl rfl (does_addStr rfl rfl (by first | (simp only [ByteArray.size_append, strOf_size, hz7, hz6, hz5, hz4, hz1, hz1n]; omega) | omega)) ?_
        refine XA.next 11 rfl (by kernel_rfl) ?_
        refine xk_callR (f := 42) (fi := []) (ca := []) (by kernel_rfl) rfl rfl (by decide) (fun w1 st => refKept_ok c.ret w1) ?_
        refine XA.bk ?_
        refine XA.next 12 rfl (by kernel_rfl) ?_
        refine xk_addStr rfl rfl (by simp only [ByteArray.size_append, strOf_size, hz7, hz6, hz5, hz4, hz1, hz1n, List.length_append, List.length_cons, List.length_nil]; omega) (by decide) ?_
        rw [lit_d]
        simp only [strOf_append]
        rw [show itemsT (preD s k) ++ (kwD ++ [32]) ++ aboveW c.above ++ tailT [c.delay] ++ (32 :: keptW c.ret ++ [10]) = itemsT (preD s (k + 1)) from by rw [hnx, hin, hdl]; simp]
        refine XA.bt ?_
        refine XA.next 13 rfl (by kernel_rfl) ?_
        refine xk_assign rfl (by decide) ?_
        refine XA.bt ?_
        refine XA.done (by kernel_rfl) ?_
        refine XK.norm ?_

        refine XK.region ?_
        refine xk_move rfl (by decide) ?_
        refine xk_add rfl rfl (wrap_in (by omega)) (by decide) ?_
        refine xk_assign rfl (by decide) ?_
        refine XK.nilN ?_
        exact XK.weak (R' := [all w]) [2] rfl (by decide) (by simp) (XK.envS [(6, .int .i64 ((k : Int) + 1)), (4, .string (strOf (itemsT (preD s (k + 1))))), (3, .int .i64 0), (2, .string ⟨#[]⟩), (1, .pointer (some ⟨g1, 0, none⟩))] (XK.round (n2 - (k + 1)) (by omega) ⟨k + 1, by omega, rfl, rfl, rfl, rfl⟩))
      ·
        refine XK.exit ?_
        refine XK.norm ?_
        refine XK.seq ?_
        refine XK.seq ?_
        obtain rfl : k = s.domains.length := by omega
        rw [preD_all]

        refine XK.region ?_
        refine xk_assign rfl (by decide) ?_
        refine XK.nilN ?_
        refine XK.envS [(9, .int .i64 0), (4, .string (strOf (itemsT (preR s 0)))), (3, .int .i64 0), (2, .string ⟨#[]⟩), (1, .pointer (some ⟨g1, 0, none⟩))] ?_
        refine XK.block ?_
        refine XK.loop (fun m e R H => ∃ k : Nat, k ≤ n3 ∧ m = n3 - k ∧ e = [(9, .int .i64 k), (4, .string (strOf (itemsT (preR s k)))), (3, .int .i64 0), (2, .string ⟨#[]⟩), (1, .pointer (some ⟨g1, 0, none⟩))] ∧ R = [all w] ∧ H = [HP.blk g1 28 [.slice A1 n1 k1, .slice A2 n2 k2, .slice A3 n3 k3, .slice A4 n4 k4]]) n3 ⟨0, by omega, rfl, rfl, rfl, rfl⟩ fun m e R H hI => ?_
        obtain ⟨k, hkn, rfl, rfl, rfl, rfl⟩ := hI
        refine XK.seq ?_
        refine XK.seq ?_

        refine XK.region ?_
        refine xk_move rfl (by decide) ?_
        refine xk_field (off := 2) (by kernel_rfl) rfl (by decide) ?_
        refine xk_ld rfl ?_
        refine xk_len (el := 71) (by kernel_rfl) rfl (by decide) ?_
        refine xk_lss rfl rfl (by decide) ?_
        refine XK.nilN ?_
        refine XK.if_ rfl (fun hlt => ?_) (fun hlt => ?_)
        ·
          refine XK.skip ?_
          refine XK.norm ?_
          refine XK.seq ?_
          refine XK.block ?_
          obtain ⟨c, hc⟩ : ∃ c, s.resets[k]? = some c := ⟨_, List.getElem?_eq_getElem (by omega)⟩
          have hcm := List.mem_of_getElem? hc
          obtain ⟨b, off, r, rfl, hrl, rfl, hro⟩ := hW.rst.row hc
          have hq1 := hzr c hcm
          obtain ⟨hnx, suf, hsf⟩ := preR_next hc
          have hps := pre_step _ hsf
          have hil0 : (joinW (Item.words (.res c))).length = (Item.line (.res c)).length := rfl
          have hin := itemsT_next (preR s k) (.res c)
          have hdl := res_line c
          have hdL := congrArg List.length hdl
          simp only [List.length_append, List.length_cons, List.length_nil] at hdL
          have htp : ∀ x ∈ [c], 0 ≤ x ∧ x < 9223372036854775808 := by intro x hx; simp at hx; subst hx; omega

          refine XK.region ?_
          refine xk_move rfl (by decide) ?_
          refine xk_addStr rfl rfl (by first | (simp only [ByteArray.size_append, strOf_size, hz7, hz6, hz5, hz4, hz1, hz1n]; omega) | omega) (by decide) ?_
          refine xk_field (off := 2) (by kernel_rfl) rfl (by decide) ?_
          refine xk_ld rfl ?_
          refine xk_move rfl (by decide) ?_
          refine xk_at (k) (off + k * 1) (el := 71) (sz := 1) (by kernel_rfl) (by kernel_rfl) rfl rfl (by omega) (by omega) (by omega) (by decide) ?_
          refine xk_field (off := 0) (by kernel_rfl) rfl (by decide) ?_
          refine xk_load (by kernel_rfl) rfl (Rd.roc (by simp) (hro.at_ (j := 0) rfl)) (by decide) ?_
          refine xk_slice (el := 3) (sz := 1) (zs := [.int .i64 0]) (by kernel_rfl) (zeroB_of (by kernel_rfl)) (by kernel_rfl) rfl (by decide) (by decide) rfl (by simp [fillL, setN, Value.cells, List.range_succ, List.set]; rfl) (by decide) fun g4 => ?_
          refine xk_callR (f := 41) (fi := []) (ca := []) (by kernel_rfl) rfl rfl (by decide) (fun w1 st => refTail_ok [c] _ _ _ w1 (by obtain ⟨B, hB⟩ := sl_blk (sz := 1) (m := 1) 0 rfl rfl w1 st; exact SlS.ofB hB) rfl (by decide) htp) ?_
          refine xk_addStr rfl rfl (by first | (simp only [ByteArray.size_append, strOf_size, hz7, hz6, hz5, hz4, hz1, hz1n]; omega) | omega) (by decide) ?_
          refine xk_addStr rfl rfl (by first | (simp only [ByteArray.size_append, strOf_size, hz7, hz6, hz5, hz4, hz1, hz1n]; omega) | omega) (by decide) ?_
          rw [lit_r, lit_n]
          simp only [strOf_append]
          rw [show itemsT (preR s k) ++ kwR ++ tailT [c] ++ [10] = itemsT (preR s (k + 1)) from by rw [hnx, hin, hdl]; simp]
          refine xk_assign rfl (by decide) ?_
          refine XK.nilN ?_

          refine XK.region ?_
          refine xk_move rfl (by decide) ?_
          refine xk_add rfl rfl (wrap_in (by omega)) (by decide) ?_
          refine xk_assign rfl (by decide) ?_
          refine XK.nilN ?_
          exact XK.weak (R' := [all w]) [1] rfl (by decide) (by simp) (XK.envS [(9, .int .i64 ((k : Int) + 1)), (4, .string (strOf (itemsT (preR s (k + 1))))), (3, .int .i64 0), (2, .string ⟨#[]⟩), (1, .pointer (some ⟨g1, 0, none⟩))] (XK.round (n3 - (k + 1)) (by omega) ⟨k + 1, by omega, rfl, rfl, rfl, rfl⟩))
        ·
          refine XK.exit ?_
          refine XK.norm ?_
          refine XK.seq ?_
          refine XK.seq ?_
          obtain rfl : k = s.resets.length := by omega
          rw [preR_all]

          refine XK.region ?_
          refine xk_assign rfl (by decide) ?_
          refine XK.nilN ?_
          refine XK.envS [(10, .int .i64 0), (4, .string (strOf (itemsT (preV s 0)))), (3, .int .i64 0), (2, .string ⟨#[]⟩), (1, .pointer (some ⟨g1, 0, none⟩))] ?_
          refine XK.block ?_
          refine XK.loop (fun m e R H => ∃ k : Nat, k ≤ n4 ∧ m = n4 - k ∧ e = [(10, .int .i64 k), (4, .string (strOf (itemsT (preV s k)))), (3, .int .i64 0), (2, .string ⟨#[]⟩), (1, .pointer (some ⟨g1, 0, none⟩))] ∧ R = [all w] ∧ H = [HP.blk g1 28 [.slice A1 n1 k1, .slice A2 n2 k2, .slice A3 n3 k3, .slice A4 n4 k4]]) n4 ⟨0, by omega, rfl, rfl, rfl, rfl⟩ fun m e R H hI => ?_
          obtain ⟨k, hkn, rfl, rfl, rfl, rfl⟩ := hI
          refine XK.seq ?_
          refine XK.seq ?_

          refine XK.region ?_
          refine xk_move rfl (by decide) ?_
          refine xk_field (off := 3) (by kernel_rfl) rfl (by decide) ?_
          refine xk_ld rfl ?_
          refine xk_len (el := 51) (by kernel_rfl) rfl (by decide) ?_
          refine xk_lss rfl rfl (by decide) ?_
          refine XK.nilN ?_
          refine XK.if_ rfl (fun hlt => ?_) (fun hlt => ?_)
          ·
            refine XK.skip ?_
            refine XK.norm ?_
            refine XK.seq ?_
            refine XK.block ?_
            refine XK.seq ?_
            have hks : k < n4 := by omega
            obtain ⟨d, hd⟩ : ∃ d, s.devs[k]? = some d := ⟨_, List.getElem?_eq_getElem (by omega)⟩
            have hdm := List.mem_of_getElem? hd
            obtain ⟨b, off, r, rfl, _, ⟨Ar, nr, kr, Ad, nd, kd, rfl, hnr, hnd, hSr, hSd⟩, hro⟩ := hW.dev.row hd
            obtain ⟨hx1, hx2, hx3, hx4, hx5, hx6⟩ := h64.devs d hdm
            obtain ⟨hq1, hq2, hq3, hq4⟩ := hzv d hdm
            obtain ⟨hrg1, hrg2⟩ := hb6 d hdm
            obtain ⟨suf, hsf⟩ := preV_dev hd
            have hps := pre_step _ hsf
            have hil0 : (joinW (Item.words (.dev d.bare))).length = (Item.line (.dev d.bare)).length := rfl
            have hin := itemsT_next (preV s k) (.dev d.bare)
            have hdl := dev_line d
            have hdL := congrArg List.length hdl
            simp only [List.length_append, List.length_cons, List.length_nil] at hdL
            have htp : ∀ x ∈ [d.clock, d.domain, d.reset], 0 ≤ x ∧ x < 9223372036854775808 := by intro x hx; simp at hx; rcases hx with rfl | rfl | rfl <;> omega
            have htq : ∀ x ∈ d.needs, 0 ≤ x ∧ x < 9223372036854775808 := fun x hx => by have := hq4 x hx; omega

            refine XK.region ?_
            refine xk_field (off := 3) (by kernel_rfl) rfl (by decide) ?_
            refine xk_ld rfl ?_
            refine xk_move rfl (by decide) ?_
            refine xk_at (k) (off + k * 6) (el := 51) (sz := 6) (by kernel_rfl) (by kernel_rfl) rfl rfl (by omega) (by omega) (by omega) (by decide) ?_
            refine xk_loadN 6 (by kernel_rfl) rfl (RdN.of (vs := [.int .i64 d.clock, .int .i64 d.domain, .int .i64 d.reset, .int .u32 d.clamp, .slice Ar nr kr, .slice Ad nd kd]) fun j v hj => Rd.roc (by simp) (hro.at_ (j := j) hj)) rfl (by decide) ?_
            refine xk_alloc (cs := [.int .i64 0, .int .i64 0, .int .i64 0, .int .u32 0, .slice none 0 0, .slice none 0 0]) (zeroB_of (by kernel_rfl)) (by decide) fun g5 => ?_
            (first | (refine xk_storeN 0 rfl rfl rfl (by kernel_rfl) (by simp [Value.cells, Value.oneCell']) (by simp [Value.cells]) ?_) | (refine xk_storeN 1 rfl rfl rfl (by kernel_rfl) (by simp [Value.cells, Value.oneCell']) (by simp [Value.cells]) ?_) | (refine xk_storeN 2 rfl rfl rfl (by kernel_rfl) (by simp [Value.cells, Value.oneCell']) (by simp [Value.cells]) ?_) | (refine xk_storeN 3 rfl rfl rfl (by kernel_rfl) (by simp [Value.cells, Value.oneCell']) (by simp [Value.cells]) ?_) | (refine xk_storeN 4 rfl rfl rfl (by kernel_rfl) (by simp [Value.cells, Value.oneCell']) (by simp [Value.cells]) ?_) | (refine xk_storeN 5 rfl rfl rfl (by kernel_rfl) (by simp [Value.cells, Value.oneCell']) (by simp [Value.cells]) ?_) | (refine xk_storeN 6 rfl rfl rfl (by kernel_rfl) (by simp [Value.cells, Value.oneCell']) (by simp [Value.cells]) ?_) | (refine xk_storeN 7 rfl rfl rfl (by kernel_rfl) (by simp [Value.cells, Value.oneCell']) (by simp [Value.cells]) ?_) | (refine xk_storeN 8 rfl rfl rfl (by kernel_rfl) (by simp [Value.cells, Value.oneCell']) (by simp [Value.cells]) ?_)); simp only [putN, Value.cells, List.set, List.take, List.drop, List.nil_append, List.append_nil, List.length_cons, List.length_nil, List.cons_append, Nat.reduceAdd]
            refine XK.nilN ?_
            refine XK.seq ?_

            refine XK.draw 20 (by kernel_rfl) (by kernel_rfl) ?_
            refine XA.dA 0 rfl rfl rfl (does_move rfl) ?_
            refine XA.dA 1 rfl rfl rfl (does_addStr rfl rfl (by first | (simp only [ByteArray.size_append, strOf_size, hz7, hz6, hz5, hz4, hz1, hz1n]; omega) | omega)) ?_
            refine XA.dA 2 rfl rfl rfl (does_field (off := 0) (by kernel_rfl) rfl) ?_
            refine XA.dA 3 rfl rfl rfl (does_ld rfl) ?_
            refine XA.dA 4 rfl rfl rfl (does_field (off := 1) (by kernel_rfl) rfl) ?_
            refine XA.dA 5 rfl rfl rfl (does_ld rfl) ?_
            refine XA.dA 6 rfl rfl rfl (does_field (off := 2) (by kernel_rfl) rfl) ?_
            refine XA.dA 7 rfl rfl rfl (does_ld rfl) ?_
            refine XA.dA 12 rfl rfl rfl (does_field (off := 3) (by kernel_rfl) rfl) ?_
            refine XA.dA 13 rfl rfl rfl (does_ld rfl) ?_
            refine XA.dA 14 rfl rfl rfl (does_conv (ds := .int .u32) (by kernel_rfl) (by kernel_rfl) rfl (wrap_u64 (by omega))) ?_
            refine XA.dA 17 rfl rfl rfl (does_field (off := 5) (by kernel_rfl) rfl) ?_
            refine XA.dA 18 rfl rfl rfl (does_ld rfl) ?_
            refine XA.next 8 rfl (by kernel_rfl) ?_
            refine xk_slice (el := 3) (sz := 1) (zs := [.int .i64 0]) (by kernel_rfl) (zeroB_of (by kernel_rfl)) (by kernel_rfl) rfl (by decide) (by decide) rfl (by simp [fillL, setN, Value.cells, List.range_succ, List.set]; rfl) (by decide) fun g6 => ?_
            refine XA.bk ?_
            refine XA.next 9 rfl (by kernel_rfl) ?_
            refine xk_callR (f := 41) (fi := []) (ca := []) (by kernel_rfl) rfl rfl (by decide) (fun w1 st => refTail_ok [d.clock, d.domain, d.reset] _ _ _ w1 (by obtain ⟨B, hB⟩ := sl_blk (sz := 1) (m := 3) 0 rfl rfl w1 st; exact SlS.ofB hB) rfl (by decide) htp) ?_
            refine XA.bk ?_
            refine XA.dA 10 rfl rfl rfl (does_addStr rfl rfl (by first | (simp only [ByteArray.size_append, strOf_size, hz7, hz6, hz5, hz4, hz1, hz1n]; omega) | omega)) ?_
            refine XA.dA 11 rfl rfl rfl (does_addStr rfl rfl (by first | (simp only [ByteArray.size_append, strOf_size, hz7, hz6, hz5, hz4, hz1, hz1n]; omega) | omega)) ?_
            refine XA.next 15 rfl (by kernel_rfl) ?_
            refine xk_callR (f := 40) (fi := []) (ca := []) (by kernel_rfl) rfl rfl (by decide) (fun w1 st => refDigW_ok d.clamp hx4.1 (by omega) w1) ?_
            refine XA.bk ?_
            refine XA.dA 16 rfl rfl rfl (does_addStr rfl rfl (by first | (simp only [ByteArray.size_append, strOf_size, hz7, hz6, hz5, hz4, hz1, hz1n]; omega) | omega)) ?_
            refine XA.next 19 rfl (by kernel_rfl) ?_
            refine xk_callR (f := 41) (fi := []) (ca := []) (by kernel_rfl) rfl rfl (by decide) (fun w1 st => refTail_ok d.needs Ad nd kd w1 (SlS.le hSd (all_le (st.started (by simp)))) hnd (by omega) htq) ?_
            refine XA.bk ?_
            refine XA.next 20 rfl (by kernel_rfl) ?_
            refine xk_addStr rfl rfl (by first | (simp only [ByteArray.size_append, strOf_size, hz7, hz6, hz5, hz4, hz1, hz1n]; omega) | omega) (by decide) ?_
            refine XA.bt ?_
            refine XA.next 21 rfl (by kernel_rfl) ?_
            refine xk_addStr rfl rfl (by first | (simp only [ByteArray.size_append, strOf_size, hz7, hz6, hz5, hz4, hz1, hz1n]; omega) | omega) (by decide) ?_
            rw [lit_v, lit_b, lit_n]
            simp only [strOf_append]
            rw [show itemsT (preV s k) ++ kwV ++ tailT [d.clock, d.domain, d.reset] ++ [32] ++ numW d.clamp ++ tailT d.needs ++ [10] = itemsT (preG s k d 0) from by rw [show preG s k d 0 = preV s k ++ [Item.dev d.bare] from by simp [preG], hin, hdl]; simp]
            refine XA.bt ?_
            refine XA.next 22 rfl (by kernel_rfl) ?_
            refine xk_assign rfl (by decide) ?_
            refine XA.bt ?_
            refine XA.done (by kernel_rfl) ?_
            refine XK.norm ?_
            refine XK.seq ?_
            refine XK.weak (R' := [all w]) [1, 2] rfl (by decide) (by simp) ?_

            refine XK.region ?_
            refine xk_assign rfl (by decide) ?_
            refine XK.nilN ?_
            refine XK.envS [(12, .int .i64 0), (11, .pointer (some ⟨g5, 0, none⟩)), (10, .int .i64 k), (4, .string (strOf (itemsT (preG s k d 0)))), (3, .int .i64 0), (2, .string ⟨#[]⟩), (1, .pointer (some ⟨g1, 0, none⟩))] ?_
            refine XK.block ?_
            refine XK.loop (fun m e R H => ∃ j : Nat, j ≤ nr ∧ m = nr - j ∧ e = [(12, .int .i64 j), (11, .pointer (some ⟨g5, 0, none⟩)), (10, .int .i64 k), (4, .string (strOf (itemsT (preG s k d j)))), (3, .int .i64 0), (2, .string ⟨#[]⟩), (1, .pointer (some ⟨g1, 0, none⟩))] ∧ R = [all w] ∧ H = [HP.blk g5 51 [.int .i64 d.clock, .int .i64 d.domain, .int .i64 d.reset, .int .u32 d.clamp, .slice Ar nr kr, .slice Ad nd kd], HP.blk g1 28 [.slice A1 n1 k1, .slice A2 n2 k2, .slice A3 n3 k3, .slice (some ⟨b, off, none⟩) n4 k4]]) nr ⟨0, by omega, rfl, rfl, rfl, rfl⟩ fun m e R H hI => ?_
            obtain ⟨j, hjn, rfl, rfl, rfl, rfl⟩ := hI
            refine XK.seq ?_
            refine XK.seq ?_

            refine XK.region ?_
            refine xk_move rfl (by decide) ?_
            refine xk_field (off := 4) (by kernel_rfl) rfl (by decide) ?_
            refine xk_ld rfl ?_
            refine xk_len (el := 57) (by kernel_rfl) rfl (by decide) ?_
            refine xk_lss rfl rfl (by decide) ?_
            refine XK.nilN ?_
            refine XK.if_ rfl (fun hltj => ?_) (fun hltj => ?_)
            ·
              refine XK.skip ?_
              refine XK.norm ?_
              refine XK.seq ?_
              refine XK.block ?_
              have hjs : j < nr := by omega
              obtain ⟨r0, hr0⟩ : ∃ r0, d.regs[j]? = some r0 := ⟨_, List.getElem?_eq_getElem (by omega)⟩
              have hr0m := List.mem_of_getElem? hr0
              obtain ⟨hy1, hy2⟩ := hx6 r0 hr0m
              have hSr' : SlS (all w) 2 Ar nr (d.regs.map Rg.cells).flatten := by rw [← List.flatMap_def]; exact hSr
              obtain ⟨b2, off2, rfl, hro2⟩ := SlS.row hSr' (by intro r hr; rw [List.mem_map] at hr; obtain ⟨x, _, rfl⟩ := hr; rfl) (k := j) (r := [.int .u32 r0.reset, .bool r0.kept]) (by rw [List.getElem?_map, hr0]; rfl) (by omega)
              clear hin hdl hdL hps hil0
              obtain ⟨hnx, suf, hsf⟩ := preG_next hd hr0
              have hps := pre_step _ hsf
              have hil0 : (joinW (Item.words (.reg r0))).length = (Item.line (.reg r0)).length := rfl
              have hin := itemsT_next (preG s k d j) (.reg r0)
              have hdl := reg_line r0
              have hdL := congrArg List.length hdl
              simp only [List.length_append, List.length_cons, List.length_nil] at hdL

              refine XK.draw 18 (by kernel_rfl) (by kernel_rfl) ?_
              refine XA.dA 0 rfl rfl rfl (does_move rfl) ?_
              refine XA.dA 1 rfl rfl rfl (does_addStr rfl rfl (by first | (simp only [ByteArray.size_append, strOf_size, hz7, hz6, hz5, hz4, hz1, hz1n]; omega) | omega)) ?_
              refine XA.dA 2 rfl rfl rfl (does_field (off := 4) (by kernel_rfl) rfl) ?_
              refine XA.dA 3 rfl rfl rfl (does_ld rfl) ?_
              refine XA.dA 4 rfl rfl rfl (does_move rfl) ?_
              refine XA.dA 5 rfl rfl rfl (does_at j (off2 + j * 2) (el := 57) (sz := 2) (by kernel_rfl) (by kernel_rfl) rfl rfl (by omega) (by omega) (by omega)) ?_
              refine XA.dA 6 rfl rfl rfl (does_field (off := 0) (by kernel_rfl) rfl) ?_
              refine XA.dA 7 rfl rfl rfl (does_load (by kernel_rfl) rfl (Rd.roc (by simp) (hro2.at_ (j := 0) rfl))) ?_
              refine XA.dA 8 rfl rfl rfl (does_conv (ds := .int .u32) (by kernel_rfl) (by kernel_rfl) rfl (wrap_u64 (by omega))) ?_
              refine XA.dA 11 rfl rfl rfl (does_field (off := 4) (by kernel_rfl) rfl) ?_
              refine XA.dA 12 rfl rfl rfl (does_ld rfl) ?_
              refine XA.dA 13 rfl rfl rfl (does_move rfl) ?_
              refine XA.dA 14 rfl rfl rfl (does_at j (off2 + j * 2) (el := 57) (sz := 2) (by kernel_rfl) (by kernel_rfl) rfl rfl (by omega) (by omega) (by omega)) ?_
              refine XA.dA 15 rfl rfl rfl (does_field (off := 1) (by kernel_rfl) rfl) ?_
              refine XA.dA 16 rfl rfl rfl (does_load (by kernel_rfl) rfl (Rd.roc (by simp) (hro2.at_ (j := 1) rfl))) ?_
              refine XA.next 9 rfl (by kernel_rfl) ?_
              refine xk_callR (f := 40) (fi := []) (ca := []) (by kernel_rfl) rfl rfl (by decide) (fun w1 st => refDigW_ok r0.reset hy1 (by omega) w1) ?_
              refine XA.bk ?_
              refine XA.dA 10 rfl rfl rfl (does_addStr rfl rfl (by first | (simp only [ByteArray.size_append, strOf_size, hz7, hz6, hz5, hz4, hz1, hz1n]; omega) | omega)) ?_
              refine XA.next 17 rfl (by kernel_rfl) ?_
              refine xk_callR (f := 42) (fi := []) (ca := []) (by kernel_rfl) rfl rfl (by decide) (fun w1 st => refKept_ok r0.kept w1) ?_
              refine XA.bk ?_
              refine XA.next 18 rfl (by kernel_rfl) ?_
              refine xk_addStr rfl rfl (by simp only [ByteArray.size_append, strOf_size, hz7, hz6, hz5, hz4, hz1, hz1n, List.length_append, List.length_cons, List.length_nil]; omega) (by decide) ?_
              rw [lit_g]
              simp only [strOf_append]
              rw [show itemsT (preG s k d j) ++ (kwG ++ [32]) ++ numW r0.reset ++ (32 :: keptW r0.kept ++ [10]) = itemsT (preG s k d (j + 1)) from by rw [hnx, hin, hdl]; simp]
              refine XA.bt ?_
              refine XA.next 19 rfl (by kernel_rfl) ?_
              refine xk_assign rfl (by decide) ?_
              refine XA.bt ?_
              refine XA.done (by kernel_rfl) ?_
              refine XK.norm ?_

              refine XK.region ?_
              refine xk_move rfl (by decide) ?_
              refine xk_add rfl rfl (wrap_in (by omega)) (by decide) ?_
              refine xk_assign rfl (by decide) ?_
              refine XK.nilN ?_
              exact XK.envS [(12, .int .i64 ((j : Int) + 1)), (11, .pointer (some ⟨g5, 0, none⟩)), (10, .int .i64 k), (4, .string (strOf (itemsT (preG s k d (j + 1))))), (3, .int .i64 0), (2, .string ⟨#[]⟩), (1, .pointer (some ⟨g1, 0, none⟩))] (XK.round (nr - (j + 1)) (by omega) ⟨j + 1, by omega, rfl, rfl, rfl, rfl⟩)
            ·
              refine XK.exit ?_
              refine XK.norm ?_
              have hje : j = d.regs.length := by omega
              subst hje
              rw [← preV_next hd]

              refine XK.region ?_
              refine xk_move rfl (by decide) ?_
              refine xk_add rfl rfl (wrap_in (by omega)) (by decide) ?_
              refine xk_assign rfl (by decide) ?_
              refine XK.nilN ?_
              exact XK.weak (R' := [all w]) [1] rfl (by decide) (by simp) (XK.envS [(10, .int .i64 ((k : Int) + 1)), (4, .string (strOf (itemsT (preV s (k + 1))))), (3, .int .i64 0), (2, .string ⟨#[]⟩), (1, .pointer (some ⟨g1, 0, none⟩))] (XK.round (n4 - (k + 1)) (by omega) ⟨k + 1, by omega, rfl, rfl, rfl, rfl⟩))
          ·
            refine XK.exit ?_
            refine XK.norm ?_
            refine XK.seq ?_
            obtain rfl : k = s.devs.length := by omega
            rw [preV_all]

            refine XK.region ?_
            refine xk_move rfl (by decide) ?_
            refine xk_assign rfl (by decide) ?_
            refine xk_assign rfl (by decide) ?_
            refine XK.nilN ?_
            refine XK.ret ?_
            refine XK.norm ?_
            exact XK.ret2 rfl rfl rfl fun w1 st => ⟨rfl, st.below (by simp)⟩

end Go.Proofs.YtgopaoidgcgalaaGreatDoor
/- A chip that came in, opened. -/
namespace Go.Proofs.YtgopaoidgcgalaaGreatDoor
set_option linter.all false
open Go.RowKit
section
variable {H : Type} {enc : TypeId × Value → H} {w : World} {fuel : Nat} {cs : List Value} {x : DataW H × List MemPlace}
theorem so_pick {α : Type} {l : List α} {n i : Nat} (h : l.length = n) (hi : i < n) : ∃ y, l[i]? = some y := ⟨l[i]'(by omega), List.getElem?_eq_getElem _⟩
theorem so_two {l : List Value} (h : l.length = 2) : ∃ a b, l = [a, b] := by
  match l, h with
  | [a, b], _ => exact ⟨a, b, rfl⟩
theorem so_three {l : List Value} (h : l.length = 3) : ∃ a b c, l = [a, b, c] := by
  match l, h with
  | [a, b, c], _ => exact ⟨a, b, c, rfl⟩
theorem so_one {l : List Value} (h : l.length = 1) : ∃ a, l = [a] := by
  match l, h with
  | [a], _ => exact ⟨a, rfl⟩
theorem so_four {l : List Value} (h : l.length = 4) : ∃ a b c d, l = [a, b, c, d] := by
  match l, h with
  | [a, b, c, d], _ => exact ⟨a, b, c, d, rfl⟩
theorem so_six {l : List Value} (h : l.length = 6) : ∃ a b c d e f, l = [a, b, c, d, e, f] := by
  match l, h with
  | [a, b, c, d, e, f], _ => exact ⟨a, b, c, d, e, f, rfl⟩
theorem soC : Tryz.prog.cellsOf 55 = 6 := by kernel_rfl
theorem soD : Tryz.prog.cellsOf 69 = 3 := by kernel_rfl
theorem soR : Tryz.prog.cellsOf 71 = 1 := by kernel_rfl
theorem soV : Tryz.prog.cellsOf 51 = 6 := by kernel_rfl
theorem soG : Tryz.prog.cellsOf 57 = 2 := by kernel_rfl
theorem soS : Tryz.prog.cellsOf 28 = 4 := by kernel_rfl
theorem soU8 : Tryz.prog.cellsOf 5 = 1 := by kernel_rfl
theorem soU32 : Tryz.prog.cellsOf 48 = 1 := by kernel_rfl
theorem soU64 : Tryz.prog.cellsOf 32 = 1 := by kernel_rfl
theorem soI : Tryz.prog.cellsOf 3 = 1 := by kernel_rfl
theorem soB : Tryz.prog.cellsOf 4 = 1 := by kernel_rfl
theorem soI_ : Tryz.prog.cellsOf 40 = 1 := by kernel_rfl
theorem soG_ : Tryz.prog.cellsOf 49 = 1 := by kernel_rfl
theorem soC_ : Tryz.prog.cellsOf 23 = 1 := by kernel_rfl
theorem soD_ : Tryz.prog.cellsOf 24 = 1 := by kernel_rfl
theorem soR_ : Tryz.prog.cellsOf 25 = 1 := by kernel_rfl
theorem soV_ : Tryz.prog.cellsOf 26 = 1 := by kernel_rfl
theorem wf64 {a : Int} (h : (Lit.int .i64 a).wf = true) : isI64 a := by
  simp [Lit.wf, IntKind.min, IntKind.max, IntKind.signed, IntKind.bits] at h
  exact ⟨by omega, by omega⟩
theorem wfU64 {a : Int} (h : (Lit.int .u64 a).wf = true) : 0 ≤ a ∧ a < 18446744073709551616 := by
  simp [Lit.wf, IntKind.min, IntKind.max, IntKind.signed, IntKind.bits] at h
  omega
theorem wfU32 {a : Int} (h : (Lit.int .u32 a).wf = true) : 0 ≤ a ∧ a ≤ 4294967295 := by
  simp [Lit.wf, IntKind.min, IntKind.max, IntKind.signed, IntKind.bits] at h
  omega
theorem wfU8 {a : Int} (h : (Lit.int .u8 a).wf = true) : 0 ≤ a ∧ a < 256 := by
  simp [Lit.wf, IntKind.min, IntKind.max, IntKind.signed, IntKind.bits] at h
  omega
theorem reg_of_trod (h : DataW.trod enc Tryz.prog w 0 (fun _ => true) true fuel 57 cs = some x) : ∃ r : Rg, cs = r.cells ∧ 0 ≤ r.reset ∧ r.reset ≤ 4294967295 := by
  obtain ⟨xs, n, rfl, _, hl, hxl, hf⟩ := DataW.trod_struct Tryz.underlying57 h
  rw [soG] at hl
  obtain ⟨a, b, rfl⟩ := so_two hl
  have h0 := hf 0 _ rfl
  have h1 := hf 1 _ rfl
  simp only [List.getElem_toArray, List.getElem_cons_zero, List.getElem_cons_succ, List.drop_succ_cons, List.drop_zero, soU32, soB, List.take_succ_cons, List.take_zero] at h0 h1
  obtain ⟨y0, e0⟩ := so_pick hxl (i := 0) (by simp)
  rw [e0] at h0
  obtain ⟨y1, e1⟩ := so_pick hxl (i := 1) (by simp)
  rw [e1] at h1
  obtain ⟨z0, g0, _, w0⟩ := DataW.trod_int Tryz.underlying48 h0
  obtain ⟨z1, g1, _⟩ := DataW.trod_bool Tryz.underlying4 h1
  simp at g0 g1
  subst g0; subst g1
  exact ⟨⟨z0, z1⟩, rfl, wfU32 w0⟩
abbrev ClkT : Type := Clk × Option Addr × Nat
def clkG (y : ClkT) : List Value := [.int .u8 y.1.kind, .slice y.2.1 y.1.src.length y.2.2, .int .u64 y.1.rate, .int .i64 y.1.mul, .int .i64 y.1.div, .int .i64 y.1.lock]
def ClkIn (w : World) (y : ClkT) : Prop := Sl w w.heap.size 1 y.2.1 y.1.src.length (intCells y.1.src) ∧ ((∀ x ∈ y.1.src, isI64 x) ∧ (0 ≤ y.1.kind ∧ y.1.kind < 256) ∧ (0 ≤ y.1.rate ∧ y.1.rate < 18446744073709551616) ∧ isI64 y.1.mul ∧ isI64 y.1.div ∧ isI64 y.1.lock)
theorem clk_of_trod (h : DataW.trod enc Tryz.prog w 0 (fun _ => true) true fuel 55 cs = some x) : ∃ y : ClkT, cs = clkG y ∧ ClkIn w y := by
  obtain ⟨xs, n, rfl, _, hl, hxl, hf⟩ := DataW.trod_struct Tryz.underlying55 h
  rw [soC] at hl
  obtain ⟨a, b, c, d, e, f, rfl⟩ := so_six hl
  have h0 := hf 0 _ rfl
  have h1 := hf 1 _ rfl
  have h2 := hf 2 _ rfl
  have h3 := hf 3 _ rfl
  have h4 := hf 4 _ rfl
  have h5 := hf 5 _ rfl
  simp only [List.getElem_toArray, List.getElem_cons_zero, List.getElem_cons_succ, List.drop_succ_cons, List.drop_zero, soU8, soI_, soU64, soI, List.take_succ_cons, List.take_zero] at h0 h1 h2 h3 h4 h5
  obtain ⟨y0, e0⟩ := so_pick hxl (i := 0) (by simp)
  rw [e0] at h0
  obtain ⟨y1, e1⟩ := so_pick hxl (i := 1) (by simp)
  rw [e1] at h1
  obtain ⟨y2, e2⟩ := so_pick hxl (i := 2) (by simp)
  rw [e2] at h2
  obtain ⟨y3, e3⟩ := so_pick hxl (i := 3) (by simp)
  rw [e3] at h3
  obtain ⟨y4, e4⟩ := so_pick hxl (i := 4) (by simp)
  rw [e4] at h4
  obtain ⟨y5, e5⟩ := so_pick hxl (i := 5) (by simp)
  rw [e5] at h5
  obtain ⟨z0, g0, _, w0⟩ := DataW.trod_int Tryz.underlying5 h0
  obtain ⟨A, nn, cc, zs, g1, hsl, hn, _, hwz⟩ := ints_sl Tryz.underlying40 Tryz.underlying3 soI h1
  obtain ⟨z2, g2, _, w2⟩ := DataW.trod_int Tryz.underlying32 h2
  obtain ⟨z3, g3, _, w3⟩ := DataW.trod_int Tryz.underlying3 h3
  obtain ⟨z4, g4, _, w4⟩ := DataW.trod_int Tryz.underlying3 h4
  obtain ⟨z5, g5, _, w5⟩ := DataW.trod_int Tryz.underlying3 h5
  simp at g0 g1 g2 g3 g4 g5
  subst g0; subst g1; subst g2; subst g3; subst g4; subst g5; subst hn
  exact ⟨⟨⟨z0, zs, z2, z3, z4, z5⟩, A, cc⟩, rfl, hsl, fun z hz => wf64 (hwz z hz), wfU8 w0, wfU64 w2, wf64 w3, wf64 w4, wf64 w5⟩
def domG (d : Dom) : List Value := [.int .i64 d.above, .int .i64 d.delay, .bool d.ret]
theorem dom_of_trod (h : DataW.trod enc Tryz.prog w 0 (fun _ => true) true fuel 69 cs = some x) : ∃ y : Dom, cs = domG y ∧ isI64 y.above ∧ isI64 y.delay := by
  obtain ⟨xs, n, rfl, _, hl, hxl, hf⟩ := DataW.trod_struct Tryz.underlying69 h
  rw [soD] at hl
  obtain ⟨a, b, c, rfl⟩ := so_three hl
  have h0 := hf 0 _ rfl
  have h1 := hf 1 _ rfl
  have h2 := hf 2 _ rfl
  simp only [List.getElem_toArray, List.getElem_cons_zero, List.getElem_cons_succ, List.drop_succ_cons, List.drop_zero, soB, soI, List.take_succ_cons, List.take_zero] at h0 h1 h2
  obtain ⟨y0, e0⟩ := so_pick hxl (i := 0) (by simp)
  rw [e0] at h0
  obtain ⟨y1, e1⟩ := so_pick hxl (i := 1) (by simp)
  rw [e1] at h1
  obtain ⟨y2, e2⟩ := so_pick hxl (i := 2) (by simp)
  rw [e2] at h2
  obtain ⟨z0, g0, _, w0⟩ := DataW.trod_int Tryz.underlying3 h0
  obtain ⟨z1, g1, _, w1⟩ := DataW.trod_int Tryz.underlying3 h1
  obtain ⟨z2, g2, _⟩ := DataW.trod_bool Tryz.underlying4 h2
  simp at g0 g1 g2
  subst g0; subst g1; subst g2
  exact ⟨⟨z0, z1, z2⟩, rfl, wf64 w0, wf64 w1⟩
theorem rst_of_trod (h : DataW.trod enc Tryz.prog w 0 (fun _ => true) true fuel 71 cs = some x) : ∃ y : Int, cs = [.int .i64 y] ∧ isI64 y := by
  obtain ⟨xs, n, rfl, _, hl, hxl, hf⟩ := DataW.trod_struct Tryz.underlying71 h
  rw [soR] at hl
  obtain ⟨a, rfl⟩ := so_one hl
  have h0 := hf 0 _ rfl
  simp only [List.getElem_toArray, List.getElem_cons_zero, List.getElem_cons_succ, List.drop_succ_cons, List.drop_zero, soI, List.take_succ_cons, List.take_zero] at h0
  obtain ⟨y0, e0⟩ := so_pick hxl (i := 0) (by simp)
  rw [e0] at h0
  obtain ⟨z0, g0, _, w0⟩ := DataW.trod_int Tryz.underlying3 h0
  simp at g0
  subst g0
  exact ⟨z0, rfl, wf64 w0⟩
abbrev DevT : Type := Dev × (Option Addr × Nat) × Option Addr × Nat
def devG (y : DevT) : List Value := [.int .i64 y.1.clock, .int .i64 y.1.domain, .int .i64 y.1.reset, .int .u32 y.1.clamp, .slice y.2.1.1 y.1.regs.length y.2.1.2, .slice y.2.2.1 y.1.needs.length y.2.2.2]
def DevIn (w : World) (y : DevT) : Prop := (Sl w w.heap.size 2 y.2.1.1 y.1.regs.length (y.1.regs.flatMap Rg.cells) ∧ Sl w w.heap.size 1 y.2.2.1 y.1.needs.length (intCells y.1.needs)) ∧
  (isI64 y.1.clock ∧ isI64 y.1.domain ∧ isI64 y.1.reset ∧ (0 ≤ y.1.clamp ∧ y.1.clamp ≤ 4294967295) ∧ (∀ x ∈ y.1.needs, isI64 x) ∧ ∀ r ∈ y.1.regs, 0 ≤ r.reset ∧ r.reset ≤ 4294967295)
theorem dev_of_trod (h : DataW.trod enc Tryz.prog w 0 (fun _ => true) true fuel 51 cs = some x) : ∃ y : DevT, cs = devG y ∧ DevIn w y := by
  obtain ⟨xs, n, rfl, _, hl, hxl, hf⟩ := DataW.trod_struct Tryz.underlying51 h
  rw [soV] at hl
  obtain ⟨a, b, c, d, e, f, rfl⟩ := so_six hl
  have h0 := hf 0 _ rfl
  have h1 := hf 1 _ rfl
  have h2 := hf 2 _ rfl
  have h3 := hf 3 _ rfl
  have h4 := hf 4 _ rfl
  have h5 := hf 5 _ rfl
  simp only [List.getElem_toArray, List.getElem_cons_zero, List.getElem_cons_succ, List.drop_succ_cons, List.drop_zero, soI, soU32, soG_, soI_, List.take_succ_cons, List.take_zero] at h0 h1 h2 h3 h4 h5
  obtain ⟨y0, e0⟩ := so_pick hxl (i := 0) (by simp)
  rw [e0] at h0
  obtain ⟨y1, e1⟩ := so_pick hxl (i := 1) (by simp)
  rw [e1] at h1
  obtain ⟨y2, e2⟩ := so_pick hxl (i := 2) (by simp)
  rw [e2] at h2
  obtain ⟨y3, e3⟩ := so_pick hxl (i := 3) (by simp)
  rw [e3] at h3
  obtain ⟨y4, e4⟩ := so_pick hxl (i := 4) (by simp)
  rw [e4] at h4
  obtain ⟨y5, e5⟩ := so_pick hxl (i := 5) (by simp)
  rw [e5] at h5
  obtain ⟨z0, g0, _, w0⟩ := DataW.trod_int Tryz.underlying3 h0
  obtain ⟨z1, g1, _, w1⟩ := DataW.trod_int Tryz.underlying3 h1
  obtain ⟨z2, g2, _, w2⟩ := DataW.trod_int Tryz.underlying3 h2
  obtain ⟨z3, g3, _, w3⟩ := DataW.trod_int Tryz.underlying48 h3
  obtain ⟨Ar, nr, cr, rs, g4, hsr, hnr, _, hwr⟩ := slice_sl Rg.cells (fun r => 0 ≤ r.reset ∧ r.reset ≤ 4294967295) Tryz.underlying49 soG (by omega) (fun _ => rfl) (fun _ _ _ h => reg_of_trod h) h4
  obtain ⟨A, nn, cc, zs, g5, hsl, hn, _, hwz⟩ := ints_sl Tryz.underlying40 Tryz.underlying3 soI h5
  simp at g0 g1 g2 g3 g4 g5
  subst g0; subst g1; subst g2; subst g3; subst g4; subst g5; subst hn; subst hnr
  exact ⟨⟨⟨z0, z1, z2, z3, rs, zs⟩, ⟨Ar, cr⟩, A, cc⟩, rfl, ⟨hsr, hsl⟩, wf64 w0, wf64 w1, wf64 w2, wfU32 w3, fun z hz => wf64 (hwz z hz), hwr⟩
theorem rows_map {α β : Type} {R : β → List Value → Prop} {sz : Nat} {f : α → β} {g : α → List Value} : ∀ ys : List α, (∀ y ∈ ys, (g y).length = sz ∧ R (f y) (g y)) → Rows R sz (ys.map f) (ys.map g)
  | [], _ => trivial
  | y :: ys, h => ⟨(h y (by simp)).1, (h y (by simp)).2, rows_map ys fun z hz => h z (by simp [hz])⟩
theorem rs_of {α β : Type} {R : β → List Value → Prop} {t : TypeId} {sz n : Nat} {f : α → β} {g : α → List Value} {A : Option Addr} {ys : List α} (hs : Sl w w.heap.size sz A n (ys.flatMap g)) (hn : n = ys.length) (h : ∀ y ∈ ys, (g y).length = sz ∧ R (f y) (g y)) : RsR (slq (all w)) R t sz A n (ys.map f) :=
  ⟨ys.map g, rows_map ys h, by simp [hn], by rw [← List.flatMap_def]; exact SlS.of_sl hs⟩
open Go.ChangeShapes Go.WideShapes Go.ChangeAt in
set_option maxRecDepth 100000 in
theorem open_soc {v : Value} {d : DataW H} {ps : List MemPlace} {base : Nat} (hval : Value.okWide Tryz.prog w .any base 28 v) (h : DataW.Trod enc Tryz.prog w 0 (fun _ => true) true 28 v d ps) :
    ∃ (s : Soc) (A1 A2 A3 A4 : Option Addr) (n1 k1 n2 k2 n3 k3 n4 k4 : Nat), v = .agg #[.slice A1 n1 k1, .slice A2 n2 k2, .slice A3 n3 k3, .slice A4 n4 k4] ∧ SocQ (all w) s A1 n1 A2 n2 A3 n3 A4 n4 ∧ s.in64 := by
  obtain ⟨cs, rfl, _⟩ := okWide_struct Tryz.underlying28 hval
  obtain ⟨fuel, hf⟩ := h
  obtain ⟨xs, n, _, _, hl, hxl, hf⟩ := DataW.trod_struct Tryz.underlying28 hf
  rw [soS] at hl
  simp only [Value.cells] at hl hf
  obtain ⟨l, rfl⟩ : ∃ l : List Value, cs = l.toArray := ⟨cs.toList, by simp⟩
  obtain ⟨a, b, c, d, rfl⟩ := so_four (by simpa using hl)
  have h0 := hf 0 _ rfl
  have h1 := hf 1 _ rfl
  have h2 := hf 2 _ rfl
  have h3 := hf 3 _ rfl
  simp only [List.getElem_toArray, List.getElem_cons_zero, List.getElem_cons_succ, List.drop_succ_cons, List.drop_zero, soC_, soD_, soR_, soV_, List.take_succ_cons, List.take_zero] at h0 h1 h2 h3
  obtain ⟨y0, e0⟩ := so_pick hxl (i := 0) (by simp)
  obtain ⟨y1, e1⟩ := so_pick hxl (i := 1) (by simp)
  obtain ⟨y2, e2⟩ := so_pick hxl (i := 2) (by simp)
  obtain ⟨y3, e3⟩ := so_pick hxl (i := 3) (by simp)
  rw [e0] at h0
  rw [e1] at h1
  rw [e2] at h2
  rw [e3] at h3
  obtain ⟨A1, n1, k1, cl, g0, hs0, hn0, _, hr0⟩ := slice_sl clkG (ClkIn w) Tryz.underlying23 soC (by omega) (fun _ => rfl) (fun _ _ _ h => clk_of_trod h) h0
  obtain ⟨A2, n2, k2, dl, g1, hs1, hn1, _, hr1⟩ := slice_sl domG (fun y => isI64 y.above ∧ isI64 y.delay) Tryz.underlying24 soD (by omega) (fun _ => rfl) (fun _ _ _ h => dom_of_trod h) h1
  obtain ⟨A3, n3, k3, rl, g2, hs2, hn2, _, hr2⟩ := slice_sl (fun y : Int => [.int .i64 y]) isI64 Tryz.underlying25 soR (by omega) (fun _ => rfl) (fun _ _ _ h => rst_of_trod h) h2
  obtain ⟨A4, n4, k4, vl, g3, hs3, hn3, _, hr3⟩ := slice_sl devG (DevIn w) Tryz.underlying26 soV (by omega) (fun _ => rfl) (fun _ _ _ h => dev_of_trod h) h3
  simp at g0 g1 g2 g3
  subst g0; subst g1; subst g2; subst g3
  refine ⟨⟨cl.map (·.1), dl, rl, vl.map (·.1)⟩, A1, A2, A3, A4, n1, k1, n2, k2, n3, k3, n4, k4, rfl, ⟨rs_of hs0 hn0 fun y hy => ⟨rfl, y.2.1, _, y.2.2, rfl, rfl, SlS.of_sl (hr0 y hy).1⟩, ?_, ?_, rs_of hs3 hn3 fun y hy => ⟨rfl, y.2.1.1, _, y.2.1.2, y.2.2.1, _, y.2.2.2, rfl, rfl, rfl, SlS.of_sl (hr3 y hy).1.1, SlS.of_sl (hr3 y hy).1.2⟩⟩, ⟨fun c hc => ?_, hr1, hr2, fun d hd => ?_⟩⟩
  · have := rs_of (R := DomR) (t := 69) (f := id) hs1 hn1 fun y hy => ⟨rfl, rfl⟩
    simpa using this
  · have := rs_of (R := RstR) (t := 71) (f := id) hs2 hn2 fun y hy => ⟨rfl, rfl⟩
    simpa using this
  · rw [List.mem_map] at hc
    obtain ⟨y, hy, rfl⟩ := hc
    exact (hr0 y hy).2
  · rw [List.mem_map] at hd
    obtain ⟨y, hy, rfl⟩ := hd
    exact (hr3 y hy).2
end
end Go.Proofs.YtgopaoidgcgalaaGreatDoor
/- The law LinesPrint. -/
namespace Go.Proofs.YtgopaoidgcgalaaGreatDoor
set_option linter.all false
open Go.RowKit
/-- what few asks -/
structure Few (s : Soc) : Prop where
  nc : s.clocks.length ≤ 40
  nd : s.domains.length ≤ 40
  nr : s.resets.length ≤ 100
  nv : s.devs.length ≤ 40
  clk : ∀ c ∈ s.clocks, c.src.length ≤ 20
  dev : ∀ d ∈ s.devs, d.needs.length ≤ 20 ∧ d.regs.length ≤ 50
theorem Few.small {s : Soc} (h : Few s) : s.small := by
  have h1 := h.nc
  have h2 := h.nd
  have h3 := h.nr
  have h4 := h.nv
  exact ⟨by omega, by omega, by omega, by omega, fun c hc => by have := h.clk c hc; omega, fun d hd => by have := (h.dev d hd).1; omega⟩
def FewV (s : Soc) (v : Value) : Prop := ∃ b : Bool, v = .bool b ∧ (b = true → Few s)

theorem few_ok (s : Soc) (A1 A2 A3 A4 : Option Addr) (n1 k1 n2 k2 n3 k3 n4 k4 : Nat) (w : World) (hSQ : SocQ (all w) s A1 n1 A2 n2 A3 n3 A4 n4) :
    Calls Tryz.prog 16 #[.agg #[.slice A1 n1 k1, .slice A2 n2 k2, .slice A3 n3 k3, .slice A4 n4 k4]] w fun y w' => (∃ v, y = .returned v ∧ FewV s v) ∧ Below w.heap.size w w' := by
  obtain ⟨hl1, hl2, hl3, hl4⟩ := hSQ.len
  refine XK.enter (vs := [.agg #[.slice A1 n1 k1, .slice A2 n2 k2, .slice A3 n3 k3, .slice A4 n4 k4]]) Tryz.func16 rfl Tryz.ntmps16 (by simp) ?_
  refine XK.seq ?_

  refine XK.region ?_
  refine xk_box rfl (by decide) fun g1 => ?_
  refine xk_assign rfl (by decide) ?_
  refine XK.nilN ?_
  refine XK.seq ?_
  refine XK.cutB 26 ((40 : Int) < n1 ∨ (40 : Int) < n2 ∨ (100 : Int) < n3 ∨ (40 : Int) < n4) ?_ ?_
  · skip

    refine XK.region ?_
    refine xk_field (off := 0) (by kernel_rfl) rfl (by decide) ?_
    refine xk_ld rfl ?_
    refine xk_len (el := 55) (by kernel_rfl) rfl (by decide) ?_
    refine xk_gtr rfl rfl (by decide) ?_
    refine xk_move rfl (by decide) ?_
    refine xk_split (t := 9) rfl (fun hg9 => ?_) (fun hg9 => ?_)
    ·
      refine xk_guardF rfl rfl rfl (by decide) ?_
      refine xk_guardF rfl rfl rfl (by decide) ?_
      refine xk_guardF rfl rfl rfl (by decide) ?_
      refine xk_guardF rfl rfl rfl (by decide) ?_
      (first | refine xk_pickT rfl rfl (by decide) ?_ | refine xk_pickF rfl rfl (by decide) ?_)
      refine xk_move rfl (by decide) ?_
      refine xk_guardF rfl rfl rfl (by decide) ?_
      refine xk_guardF rfl rfl rfl (by decide) ?_
      refine xk_guardF rfl rfl rfl (by decide) ?_
      refine xk_guardF rfl rfl rfl (by decide) ?_
      (first | refine xk_pickT rfl rfl (by decide) ?_ | refine xk_pickF rfl rfl (by decide) ?_)
      refine xk_move rfl (by decide) ?_
      refine xk_guardF rfl rfl rfl (by decide) ?_
      refine xk_guardF rfl rfl rfl (by decide) ?_
      refine xk_guardF rfl rfl rfl (by decide) ?_
      refine xk_guardF rfl rfl rfl (by decide) ?_
      (first | refine xk_pickT rfl rfl (by decide) ?_ | refine xk_pickF rfl rfl (by decide) ?_)
      refine XK.nilN ?_
      exact XK.meetB (by repeat (first | exact trivial | refine ⟨rfl, ?_⟩)) (by first | (refine get_iff rfl ?_; omega) | (refine get_true rfl ?_; omega) | (refine get_false rfl ?_; omega))
    ·
      refine xk_guardT rfl rfl ?_; refine xk_field (off := 1) (by kernel_rfl) rfl (by decide) ?_
      refine xk_guardT rfl rfl ?_; refine xk_ld rfl ?_
      refine xk_guardT rfl rfl ?_; refine xk_len (el := 69) (by kernel_rfl) rfl (by decide) ?_
      refine xk_guardT rfl rfl ?_; refine xk_gtr rfl rfl (by decide) ?_
      (first | refine xk_pickT rfl rfl (by decide) ?_ | refine xk_pickF rfl rfl (by decide) ?_)
      refine xk_move rfl (by decide) ?_
      refine xk_split (t := 15) rfl (fun hg15 => ?_) (fun hg15 => ?_)
      ·
        refine xk_guardF rfl rfl rfl (by decide) ?_
        refine xk_guardF rfl rfl rfl (by decide) ?_
        refine xk_guardF rfl rfl rfl (by decide) ?_
        refine xk_guardF rfl rfl rfl (by decide) ?_
        (first | refine xk_pickT rfl rfl (by decide) ?_ | refine xk_pickF rfl rfl (by decide) ?_)
        refine xk_move rfl (by decide) ?_
        refine xk_guardF rfl rfl rfl (by decide) ?_
        refine xk_guardF rfl rfl rfl (by decide) ?_
        refine xk_guardF rfl rfl rfl (by decide) ?_
        refine xk_guardF rfl rfl rfl (by decide) ?_
        (first | refine xk_pickT rfl rfl (by decide) ?_ | refine xk_pickF rfl rfl (by decide) ?_)
        refine XK.nilN ?_
        exact XK.meetB (by repeat (first | exact trivial | refine ⟨rfl, ?_⟩)) (by first | (refine get_iff rfl ?_; omega) | (refine get_true rfl ?_; omega) | (refine get_false rfl ?_; omega))
      ·
        refine xk_guardT rfl rfl ?_; refine xk_field (off := 2) (by kernel_rfl) rfl (by decide) ?_
        refine xk_guardT rfl rfl ?_; refine xk_ld rfl ?_
        refine xk_guardT rfl rfl ?_; refine xk_len (el := 71) (by kernel_rfl) rfl (by decide) ?_
        refine xk_guardT rfl rfl ?_; refine xk_gtr rfl rfl (by decide) ?_
        (first | refine xk_pickT rfl rfl (by decide) ?_ | refine xk_pickF rfl rfl (by decide) ?_)
        refine xk_move rfl (by decide) ?_
        refine xk_split (t := 21) rfl (fun hg21 => ?_) (fun hg21 => ?_)
        ·
          refine xk_guardF rfl rfl rfl (by decide) ?_
          refine xk_guardF rfl rfl rfl (by decide) ?_
          refine xk_guardF rfl rfl rfl (by decide) ?_
          refine xk_guardF rfl rfl rfl (by decide) ?_
          (first | refine xk_pickT rfl rfl (by decide) ?_ | refine xk_pickF rfl rfl (by decide) ?_)
          refine XK.nilN ?_
          exact XK.meetB (by repeat (first | exact trivial | refine ⟨rfl, ?_⟩)) (by first | (refine get_iff rfl ?_; omega) | (refine get_true rfl ?_; omega) | (refine get_false rfl ?_; omega))
        ·
          refine xk_guardT rfl rfl ?_; refine xk_field (off := 3) (by kernel_rfl) rfl (by decide) ?_
          refine xk_guardT rfl rfl ?_; refine xk_ld rfl ?_
          refine xk_guardT rfl rfl ?_; refine xk_len (el := 51) (by kernel_rfl) rfl (by decide) ?_
          refine xk_guardT rfl rfl ?_; refine xk_gtr rfl rfl (by decide) ?_
          (first | refine xk_pickT rfl rfl (by decide) ?_ | refine xk_pickF rfl rfl (by decide) ?_)
          refine XK.nilN ?_
          exact XK.meetB (by repeat (first | exact trivial | refine ⟨rfl, ?_⟩)) (by first | (refine get_iff rfl ?_; omega) | (refine get_true rfl ?_; omega) | (refine get_false rfl ?_; omega))
  refine XK.if_ rfl (fun hbig => ?_) (fun hbig => ?_)
  ·
    refine XK.seq ?_

    refine XK.region ?_
    refine xk_assign rfl (by decide) ?_
    refine XK.nilN ?_
    refine XK.ret ?_
    refine XK.norm ?_
    exact XK.ret1 rfl rfl fun w1 st => ⟨⟨_, rfl, false, rfl, fun h => by cases h⟩, st.below (by simp)⟩
  ·
    refine XK.skip ?_
    refine XK.norm ?_
    refine XK.seq ?_
    refine XK.seq ?_

    refine XK.region ?_
    refine xk_assign rfl (by decide) ?_
    refine XK.nilN ?_
    refine XK.envS [(3, .int .i64 0), (1, .pointer (some ⟨g1, 0, none⟩))] ?_
    refine XK.block ?_
    refine XK.loop (fun m e R H => ∃ i : Nat, i ≤ n1 ∧ (∀ x ∈ s.clocks.take i, x.src.length ≤ 20) ∧ m = n1 - i ∧ e = [(3, .int .i64 i), (1, .pointer (some ⟨g1, 0, none⟩))] ∧ R = [all w] ∧ H = [HP.blk g1 28 [.slice A1 n1 k1, .slice A2 n2 k2, .slice A3 n3 k3, .slice A4 n4 k4]]) n1 ⟨0, by omega, by simp, rfl, rfl, rfl, rfl⟩ fun m e R H hI => ?_
    obtain ⟨i, hi, hpre, rfl, rfl, rfl, rfl⟩ := hI
    refine XK.seq ?_
    refine XK.seq ?_

    refine XK.region ?_
    refine xk_move rfl (by decide) ?_
    refine xk_field (off := 0) (by kernel_rfl) rfl (by decide) ?_
    refine xk_ld rfl ?_
    refine xk_len (el := 55) (by kernel_rfl) rfl (by decide) ?_
    refine xk_lss rfl rfl (by decide) ?_
    refine XK.nilN ?_
    refine XK.if_ rfl (fun hil => ?_) (fun hil => ?_)
    ·
      refine XK.skip ?_
      refine XK.norm ?_
      refine XK.seq ?_
      refine XK.block ?_
      have hil' : i < n1 := by have h' : (i : Int) < (n1 : Int) := hil; omega
      obtain ⟨c, hc⟩ : ∃ c, s.clocks[i]? = some c := ⟨_, List.getElem?_eq_getElem (by omega)⟩
      obtain ⟨bV, oV, rV, rfl, hzV, _, hR, hcV⟩ := hSQ.clk.rowQ hc
      obtain ⟨Af, nf, kf, rfl, hnf, _⟩ := hR
      refine XK.cutB 41 ((20 : Int) < nf) ?_ ?_
      · skip

        refine XK.region ?_
        refine xk_field (off := 0) (by kernel_rfl) rfl (by decide) ?_
        refine xk_ld rfl ?_
        refine xk_move rfl (by decide) ?_
        refine xk_at (i) (oV + i * 6) (el := 55) (sz := 6) (by kernel_rfl) (by kernel_rfl) rfl rfl (by omega) (by omega) (by omega) (by decide) ?_
        refine xk_field (off := 1) (by kernel_rfl) rfl (by decide) ?_
        refine xk_load (by kernel_rfl) rfl (Rd.ro (p := all w) (by simp) hzV (hcV 1 _ rfl)) (by decide) ?_
        refine xk_len (el := 3) (by kernel_rfl) rfl (by decide) ?_
        refine xk_gtr rfl rfl (by decide) ?_
        refine XK.nilN ?_
        exact XK.meetB (by repeat (first | exact trivial | refine ⟨rfl, ?_⟩)) (by first | (refine get_iff rfl ?_; omega) | (refine get_true rfl ?_; omega) | (refine get_false rfl ?_; omega))
      refine XK.if_ rfl (fun hmd => ?_) (fun hmd => ?_)
      ·
        refine XK.seq ?_

        refine XK.region ?_
        refine xk_assign rfl (by decide) ?_
        refine XK.nilN ?_
        refine XK.ret ?_
        refine XK.norm ?_
        exact XK.ret1 rfl rfl fun w1 st => ⟨⟨_, rfl, false, rfl, fun h => by cases h⟩, st.below (by simp)⟩
      ·
        refine XK.skip ?_
        refine XK.norm ?_

        refine XK.region ?_
        refine xk_move rfl (by decide) ?_
        refine xk_add rfl rfl (wrap_in (by omega)) (by decide) ?_
        refine xk_assign rfl (by decide) ?_
        refine XK.nilN ?_
        exact XK.envS [(3, .int .i64 ((i : Int) + 1)), (1, .pointer (some ⟨g1, 0, none⟩))] (XK.round (n1 - (i + 1)) (by omega) ⟨i + 1, by omega, take_snoc hc hpre (by omega), rfl, rfl, rfl, rfl⟩)
    ·
      refine XK.exit ?_
      refine XK.norm ?_
      refine XK.seq ?_
      refine XK.seq ?_
      have hallC := take_all (by omega) hpre
      clear hpre

      refine XK.region ?_
      refine xk_assign rfl (by decide) ?_
      refine XK.nilN ?_
      refine XK.envS [(4, .int .i64 0), (1, .pointer (some ⟨g1, 0, none⟩))] ?_
      refine XK.block ?_
      refine XK.loop (fun m e R H => ∃ i : Nat, i ≤ n4 ∧ (∀ x ∈ s.devs.take i, x.needs.length ≤ 20 ∧ x.regs.length ≤ 50) ∧ m = n4 - i ∧ e = [(4, .int .i64 i), (1, .pointer (some ⟨g1, 0, none⟩))] ∧ R = [all w] ∧ H = [HP.blk g1 28 [.slice A1 n1 k1, .slice A2 n2 k2, .slice A3 n3 k3, .slice A4 n4 k4]]) n4 ⟨0, by omega, by simp, rfl, rfl, rfl, rfl⟩ fun m e R H hI => ?_
      obtain ⟨i, hi, hpre, rfl, rfl, rfl, rfl⟩ := hI
      refine XK.seq ?_
      refine XK.seq ?_

      refine XK.region ?_
      refine xk_move rfl (by decide) ?_
      refine xk_field (off := 3) (by kernel_rfl) rfl (by decide) ?_
      refine xk_ld rfl ?_
      refine xk_len (el := 51) (by kernel_rfl) rfl (by decide) ?_
      refine xk_lss rfl rfl (by decide) ?_
      refine XK.nilN ?_
      refine XK.if_ rfl (fun hil => ?_) (fun hil => ?_)
      ·
        refine XK.skip ?_
        refine XK.norm ?_
        refine XK.seq ?_
        refine XK.block ?_
        have hil' : i < n4 := by have h' : (i : Int) < (n4 : Int) := hil; omega
        obtain ⟨d, hd⟩ : ∃ d, s.devs[i]? = some d := ⟨_, List.getElem?_eq_getElem (by omega)⟩
        obtain ⟨bV, oV, rV, rfl, hzV, _, hR, hcV⟩ := hSQ.dev.rowQ hd
        obtain ⟨Ar, nr, kr, Ann, nn, knn, rfl, hnr, hnn, _⟩ := hR
        refine XK.cutB 66 ((20 : Int) < nn ∨ (50 : Int) < nr) ?_ ?_
        · skip

          refine XK.region ?_
          refine xk_field (off := 3) (by kernel_rfl) rfl (by decide) ?_
          refine xk_ld rfl ?_
          refine xk_move rfl (by decide) ?_
          refine xk_at (i) (oV + i * 6) (el := 51) (sz := 6) (by kernel_rfl) (by kernel_rfl) rfl rfl (by omega) (by omega) (by omega) (by decide) ?_
          refine xk_field (off := 5) (by kernel_rfl) rfl (by decide) ?_
          refine xk_load (by kernel_rfl) rfl (Rd.ro (p := all w) (by simp) hzV (hcV 5 _ rfl)) (by decide) ?_
          refine xk_len (el := 3) (by kernel_rfl) rfl (by decide) ?_
          refine xk_gtr rfl rfl (by decide) ?_
          refine xk_move rfl (by decide) ?_
          refine xk_split (t := 57) rfl (fun hg57 => ?_) (fun hg57 => ?_)
          ·
            refine xk_guardF rfl rfl rfl (by decide) ?_
            refine xk_guardF rfl rfl rfl (by decide) ?_
            refine xk_guardF rfl rfl rfl (by decide) ?_
            refine xk_guardF rfl rfl rfl (by decide) ?_
            refine xk_guardF rfl rfl rfl (by decide) ?_
            refine xk_guardF rfl rfl rfl (by decide) ?_
            refine xk_guardF rfl rfl rfl (by decide) ?_
            refine xk_guardF rfl rfl rfl (by decide) ?_
            (first | refine xk_pickT rfl rfl (by decide) ?_ | refine xk_pickF rfl rfl (by decide) ?_)
            refine XK.nilN ?_
            exact XK.meetB (by repeat (first | exact trivial | refine ⟨rfl, ?_⟩)) (by first | (refine get_iff rfl ?_; omega) | (refine get_true rfl ?_; omega) | (refine get_false rfl ?_; omega))
          ·
            refine xk_guardT rfl rfl ?_; refine xk_field (off := 3) (by kernel_rfl) rfl (by decide) ?_
            refine xk_guardT rfl rfl ?_; refine xk_ld rfl ?_
            refine xk_guardT rfl rfl ?_; refine xk_move rfl (by decide) ?_
            refine xk_guardT rfl rfl ?_; refine xk_at (i) (oV + i * 6) (el := 51) (sz := 6) (by kernel_rfl) (by kernel_rfl) rfl rfl (by omega) (by omega) (by omega) (by decide) ?_
            refine xk_guardT rfl rfl ?_; refine xk_field (off := 4) (by kernel_rfl) rfl (by decide) ?_
            refine xk_guardT rfl rfl ?_; refine xk_load (by kernel_rfl) rfl (Rd.ro (p := all w) (by simp) hzV (hcV 4 _ rfl)) (by decide) ?_
            refine xk_guardT rfl rfl ?_; refine xk_len (el := 57) (by kernel_rfl) rfl (by decide) ?_
            refine xk_guardT rfl rfl ?_; refine xk_gtr rfl rfl (by decide) ?_
            (first | refine xk_pickT rfl rfl (by decide) ?_ | refine xk_pickF rfl rfl (by decide) ?_)
            refine XK.nilN ?_
            exact XK.meetB (by repeat (first | exact trivial | refine ⟨rfl, ?_⟩)) (by first | (refine get_iff rfl ?_; omega) | (refine get_true rfl ?_; omega) | (refine get_false rfl ?_; omega))
        refine XK.if_ rfl (fun hmd => ?_) (fun hmd => ?_)
        ·
          refine XK.seq ?_

          refine XK.region ?_
          refine xk_assign rfl (by decide) ?_
          refine XK.nilN ?_
          refine XK.ret ?_
          refine XK.norm ?_
          exact XK.ret1 rfl rfl fun w1 st => ⟨⟨_, rfl, false, rfl, fun h => by cases h⟩, st.below (by simp)⟩
        ·
          refine XK.skip ?_
          refine XK.norm ?_

          refine XK.region ?_
          refine xk_move rfl (by decide) ?_
          refine xk_add rfl rfl (wrap_in (by omega)) (by decide) ?_
          refine xk_assign rfl (by decide) ?_
          refine XK.nilN ?_
          exact XK.envS [(4, .int .i64 ((i : Int) + 1)), (1, .pointer (some ⟨g1, 0, none⟩))] (XK.round (n4 - (i + 1)) (by omega) ⟨i + 1, by omega, take_snoc hd hpre (by omega), rfl, rfl, rfl, rfl⟩)
      ·
        refine XK.exit ?_
        refine XK.norm ?_
        refine XK.seq ?_

        refine XK.region ?_
        refine xk_assign rfl (by decide) ?_
        refine XK.nilN ?_
        refine XK.ret ?_
        refine XK.norm ?_
        exact XK.ret1 rfl rfl fun w1 st => ⟨⟨_, rfl, true, rfl, fun _ => ⟨by omega, by omega, by omega, by omega, hallC, take_all (by omega) hpre⟩⟩, st.below (by simp)⟩

set_option maxHeartbeats 1000000 in
theorem lprint_any (s : Soc) (A1 A2 A3 A4 : Option Addr) (n1 k1 n2 k2 n3 k3 n4 k4 : Nat) (mm : Int) (w : World) (hSQ : SocQ (all w) s A1 n1 A2 n2 A3 n3 A4 n4) (h64 : s.in64) (hM : ROc w 0 0 (.int .i64 mm)) (htab : PowTab w) :
    Calls Tryz.prog 4 #[.agg #[.slice A1 n1 k1, .slice A2 n2 k2, .slice A3 n3 k3, .slice A4 n4 k4]] w (Rt (.bool true) w) := by
  refine XK.enter (vs := [.agg #[.slice A1 n1 k1, .slice A2 n2 k2, .slice A3 n3 k3, .slice A4 n4 k4]]) Tryz.func4 rfl Tryz.ntmps4 (by simp) ?_
  refine XK.seq ?_

  refine XK.region ?_
  refine xk_box rfl (by decide) fun g1 => ?_
  refine xk_assign rfl (by decide) ?_
  refine XK.nilN ?_
  refine XK.seq ?_

  refine XK.region ?_
  refine xk_callR (f := 10) (fi := []) (ca := []) (by kernel_rfl) rfl rfl (by decide) (fun w1 st => shown5_ok mm w1 ⟨Nat.lt_of_lt_of_le hM.1 (st.below (by simp)).size, hM.go (st.below (by simp))⟩) ?_
  refine xk_assign rfl (by decide) ?_
  refine XK.nilN ?_
  refine XK.seq ?_

  refine XK.region ?_
  refine xk_ldN 4 rfl ?_
  refine xk_callV (f := 16) (fi := []) (ca := []) (by kernel_rfl) rfl rfl (by decide) (FewV s) (fun w1 st => few_ok s A1 A2 A3 A4 n1 k1 n2 k2 n3 k3 n4 k4 w1 (hSQ.le (st.le (by simp)))) ?_
  rintro _ ⟨bf, rfl, hbf⟩
  refine xk_assign rfl (by decide) ?_
  refine XK.nilN ?_
  refine XK.seq ?_
  refine XK.seq ?_

  refine XK.region ?_
  refine xk_move rfl (by decide) ?_
  (first | refine xk_notD rfl (by decide) ?_ | refine xk_not rfl (by decide) ?_)
  refine xk_move rfl (by decide) ?_
  refine xk_isV (t := 14) false rfl (by first | (exact decide_eq_true (by omega)) | (exact decide_eq_false (by omega)) | rfl | assumption | (simp_all; done)) ?_
  refine xk_guardT rfl rfl ?_; refine xk_move rfl (by decide) ?_
  refine xk_guardT rfl rfl ?_; (first | refine xk_notD rfl (by decide) ?_ | refine xk_not rfl (by decide) ?_)
  (first | refine xk_pickT rfl rfl (by decide) ?_ | refine xk_pickF rfl rfl (by decide) ?_)
  refine XK.nilN ?_
  refine XK.cond rfl (fun hnf => ?_) (fun hnf => ?_)
  ·
    refine XK.seq ?_

    refine XK.region ?_
    refine xk_move rfl (by decide) ?_
    refine xk_assign rfl (by decide) ?_
    refine XK.nilN ?_
    refine XK.ret ?_
    refine XK.norm ?_
    exact XK.ret1 rfl rfl fun w1 st => ⟨rfl, st.below (by simp)⟩
  ·
    refine XK.skip ?_
    refine XK.norm ?_
    refine XK.seq ?_
    have hfew : Few s := hbf (by simpa using hnf)
    have hsm := hfew.small

    refine XK.region ?_
    refine xk_ldN 4 rfl ?_
    refine xk_callR (f := 17) (fi := []) (ca := []) (by kernel_rfl) rfl rfl (by decide) (fun w1 st => print_ok s A1 A2 A3 A4 n1 k1 n2 k2 n3 k3 n4 k4 w1 (hSQ.W (st.le (by simp)) hsm) h64 (fun d hd => by have := (hfew.dev d hd).2; omega) (fun hk => by have := print_len (check_ok hk) h64; omega) (PowTab.go htab (st.below (by simp)))) ?_
    refine xk_move rfl (by decide) ?_
    refine xk_extract rfl rfl (by decide) ?_
    refine xk_extract rfl rfl (by decide) ?_
    refine xk_assign rfl (by decide) ?_
    refine xk_assign rfl (by decide) ?_
    refine XK.nilN ?_
    refine XK.seq ?_

    refine XK.region ?_
    refine xk_ldN 4 rfl ?_
    refine xk_callR (f := 18) (fi := []) (ca := []) (by kernel_rfl) rfl rfl (by decide) (fun w1 st => refPrint_ok s A1 A2 A3 A4 n1 k1 n2 k2 n3 k3 n4 k4 w1 (hSQ.W (st.le (by simp)) hsm) h64) ?_
    refine xk_move rfl (by decide) ?_
    refine xk_extract rfl rfl (by decide) ?_
    refine xk_extract rfl rfl (by decide) ?_
    refine xk_assign rfl (by decide) ?_
    refine xk_assign rfl (by decide) ?_
    refine XK.nilN ?_
    refine XK.seq ?_

    refine XK.region ?_
    refine xk_move rfl (by decide) ?_
    refine xk_move rfl (by decide) ?_
    refine xk_eqlStr (by kernel_rfl) rfl rfl (by decide) ?_
    refine xk_move rfl (by decide) ?_
    refine xk_isV (t := 32) true rfl (by first | (exact decide_eq_true (by omega)) | (exact decide_eq_false (by omega)) | rfl | assumption | (simp_all; done)) ?_
    refine xk_guardT rfl rfl ?_; refine xk_move rfl (by decide) ?_
    refine xk_guardT rfl rfl ?_; refine xk_move rfl (by decide) ?_
    refine xk_guardT rfl rfl ?_; refine xk_eql rfl rfl (by decide) ?_
    (first | refine xk_pickT rfl rfl (by decide) ?_ | refine xk_pickF rfl rfl (by decide) ?_)
    refine xk_assign rfl (by decide) ?_
    refine XK.nilN ?_
    refine XK.ret ?_
    refine XK.norm ?_
    exact XK.ret1 rfl rfl fun w1 st => ⟨by simp, st.below (by simp)⟩

end Go.Proofs.YtgopaoidgcgalaaGreatDoor
