/- The steps of a chip that is made: which stands ahead of which. No walk in sight; and rows, as a piece shows them. -/
import Derived.Test.YtbgibbbggajgaaaLaw17
import Derived.Test.YtbgibbbggajgaaaDrawG
namespace Go.Proofs.Ytbgibbbggajgaaa
set_option linter.all false
open Go.RowKit
theorem get_b {e : Env} {u : Nat} {b : Bool} {q : Prop} [Decidable q] (h : e.get u = some (.bool b)) (hq : b = true ↔ q) : e.get u = some (.bool (decide q)) := by
  rw [h]
  congr 2
  cases b <;> simp at hq <;> simp [hq]
/-- element k of a row that a piece shows -/
theorem RsR.rowP {α : Type} {p : Piece} {R : α → List Value → Prop} {t : TypeId} {sz n : Nat} {A : Option Addr} {es : List α} (h : RsR (slq p) R t sz A n es) {k : Nat} {e : α} (hk : es[k]? = some e) :
    ∃ b off r, A = some ⟨b, off, none⟩ ∧ p.Z b ∧ r.length = sz ∧ R e r ∧ ∀ f u, r[f]? = some u → p.w.cell? ⟨b, off + k * sz + f, none⟩ = some u := by
  obtain ⟨rows, h1, h2, h3⟩ := h
  have hlt : k < n := by
    rw [h2]
    rcases Nat.lt_or_ge k es.length with h | h
    · exact h
    · rw [List.getElem?_eq_none h] at hk; cases hk
  obtain ⟨b, off, hA, hb, hc⟩ := SlS.at_ h3 hlt
  obtain ⟨r, h4, h5, h6⟩ := h1.get hk
  refine ⟨b, off, r, hA, hb, h4, h5, fun f u hu => hc f u ?_⟩
  have hf : f < sz := by
    rw [← h4]
    rcases Nat.lt_or_ge f r.length with h | h
    · exact h
    · rw [List.getElem?_eq_none h] at hu; cases hu
  rw [h6 f hf, hu]
theorem Stp.cells_len (p : Stp) : p.cells.length = 4 := rfl
/-- step k of a row of steps -/
theorem SlS.step {p : Piece} {A : Option Addr} {L : List Stp} (h : SlS p 4 A L.length (L.flatMap Stp.cells)) {k : Nat} {x : Stp} (hk : L[k]? = some x) :
    ∃ b off, A = some ⟨b, off, none⟩ ∧ p.Z b ∧ ∀ f u, x.cells[f]? = some u → p.w.cell? ⟨b, off + k * 4 + f, none⟩ = some u := by
  have hlt := (List.getElem?_eq_some_iff.1 hk).1
  obtain ⟨b, off, hA, hb, hc⟩ := SlS.at_ h hlt
  refine ⟨b, off, hA, hb, fun f u hu => hc f u ?_⟩
  have hf : f < 4 := by
    rw [← Stp.cells_len x]
    rcases Nat.lt_or_ge f x.cells.length with h | h
    · exact h
    · rw [List.getElem?_eq_none h] at hu; cases hu
  rw [flat_get Stp.cells 4 L (fun _ _ => rfl) k f x hk hf, hu]
/-- of two steps, the one ahead and the one behind -/
structure PairOk (s : Soc) (a b : Stp) : Prop where
  up : ((¬ b.pr = 22 ∧ b.v = 1) ∨ (b.pr = 22 ∧ b.v = 0)) → ((¬ a.pr = 22 ∧ a.v = 1) ∨ (a.pr = 22 ∧ a.v = 0))
  dom : a.pr = b.pr → ((a.v = 1) ↔ (b.v = 1)) → b.pr = 17 → ∀ x y : Int, ((((¬ b.pr = 22 ∧ b.v = 1) ∨ (b.pr = 22 ∧ b.v = 0)) ∧ x = a.id ∧ y = b.id) ∨ (¬ ((¬ b.pr = 22 ∧ b.v = 1) ∨ (b.pr = 22 ∧ b.v = 0)) ∧ x = b.id ∧ y = a.id)) →
    ∃ (k : Nat) (d : Dom), x = k ∧ s.domains[k]? = some d ∧ ¬ d.above = y
  clk : a.pr = b.pr → ((a.v = 1) ↔ (b.v = 1)) → b.pr = 20 → ∀ x y : Int, ((((¬ b.pr = 22 ∧ b.v = 1) ∨ (b.pr = 22 ∧ b.v = 0)) ∧ x = a.id ∧ y = b.id) ∨ (¬ ((¬ b.pr = 22 ∧ b.v = 1) ∨ (b.pr = 22 ∧ b.v = 0)) ∧ x = b.id ∧ y = a.id)) →
    ∃ (k : Nat) (c : Clk), x = k ∧ s.clocks[k]? = some c ∧ c.src.contains y = false
theorem pair_far {s : Soc} {a b : Stp} (h1 : ((¬ b.pr = 22 ∧ b.v = 1) ∨ (b.pr = 22 ∧ b.v = 0)) → ((¬ a.pr = 22 ∧ a.v = 1) ∨ (a.pr = 22 ∧ a.v = 0))) (h2 : a.pr = b.pr → ((a.v = 1) ↔ (b.v = 1)) → b.pr = 22) : PairOk s a b :=
  ⟨h1, fun e1 e2 e3 => by have := h2 e1 e2; omega, fun e1 e2 e3 => by have := h2 e1 e2; omega⟩
theorem dom_less {s : Soc} (hm : s.made) {i j : Nat} (h : i < j) (hj : j < s.domains.length) : ∃ (k : Nat) (d : Dom), (i : Int) = k ∧ s.domains[k]? = some d ∧ ¬ d.above = (j : Int) := by
  have hd : s.domains[i]? = some (s.domains[i]'(by omega)) := List.getElem?_eq_getElem _
  have := (hm.domains i _ hd).1
  exact ⟨i, _, rfl, hd, by omega⟩
theorem clk_less {s : Soc} (hm : s.made) {i j : Nat} (h : i < j) (hj : j < s.clocks.length) : ∃ (k : Nat) (c : Clk), (i : Int) = k ∧ s.clocks[k]? = some c ∧ c.src.contains (j : Int) = false := by
  have hd : s.clocks[i]? = some (s.clocks[i]'(by omega)) := List.getElem?_eq_getElem _
  have := (hm.clocks i _ hd).1
  refine ⟨i, _, rfl, hd, ?_⟩
  cases hc : (s.clocks[i]'(by omega)).src.contains (j : Int) with
  | false => rfl
  | true =>
    have := this _ (by simpa using hc)
    omega
/-- two of one segment -/
theorem pair_near {s : Soc} (hm : s.made) {pr msg : Int} {val : Nat → Int} {i j : Nat} (hu : ∀ k, ((¬ pr = 22 ∧ val k = 1) ∨ (pr = 22 ∧ val k = 0)) ↔ ((¬ pr = 22 ∧ val i = 1) ∨ (pr = 22 ∧ val i = 0)))
    (hlt : if ((¬ pr = 22 ∧ val i = 1) ∨ (pr = 22 ∧ val i = 0)) then i < j else j < i) (h17 : pr = 17 → i < s.domains.length ∧ j < s.domains.length) (h20 : pr = 20 → i < s.clocks.length ∧ j < s.clocks.length) : PairOk s ⟨pr, msg, i, val i⟩ ⟨pr, msg, j, val j⟩ := by
  have huj := hu j
  refine ⟨fun h => huj.1 h, fun _ _ e x y hxy => ?_, fun _ _ e x y hxy => ?_⟩
  · obtain ⟨h1, h2⟩ := h17 e
    rcases hxy with ⟨hb, hx, hy⟩ | ⟨hb, hx, hy⟩
    · rw [if_pos (huj.1 hb)] at hlt
      dsimp only at hx hy
      subst hx; subst hy
      exact dom_less hm hlt h2
    · rw [if_neg (fun h => hb (huj.2 h))] at hlt
      dsimp only at hx hy
      subst hx; subst hy
      exact dom_less hm hlt h1
  · obtain ⟨h1, h2⟩ := h20 e
    rcases hxy with ⟨hb, hx, hy⟩ | ⟨hb, hx, hy⟩
    · rw [if_pos (huj.1 hb)] at hlt
      dsimp only at hx hy
      subst hx; subst hy
      exact clk_less hm hlt h2
    · rw [if_neg (fun h => hb (huj.2 h))] at hlt
      dsimp only at hx hy
      subst hx; subst hy
      exact clk_less hm hlt h1
theorem mem_stepL {p : Stp} {pr msg : Int} {val : Nat → Int} {ids : List Nat} (h : p ∈ stepL pr msg val ids) : ∃ i ∈ ids, p = ⟨pr, msg, i, val i⟩ := by
  simp only [stepL, List.mem_map] at h
  obtain ⟨i, hi, rfl⟩ := h
  exact ⟨i, hi, rfl⟩
theorem seg_up {s : Soc} (hm : s.made) {pr msg : Int} {val : Nat → Int} {n : Nat} {fr to : List Bool} (hu : ∀ k, (¬ pr = 22 ∧ val k = 1) ∨ (pr = 22 ∧ val k = 0)) (h17 : pr = 17 → n = s.domains.length) (h20 : pr = 20 → n = s.clocks.length) :
    (stepL pr msg val (moreL (List.range n) fr to)).Pairwise (PairOk s) := by
  unfold stepL
  rw [List.pairwise_map]
  refine List.Pairwise.imp_of_mem ?_ (List.Pairwise.filter _ List.pairwise_lt_range)
  intro i j hi hj hlt
  have h1 := List.mem_range.1 (List.mem_filter.1 hi).1
  have h2 := List.mem_range.1 (List.mem_filter.1 hj).1
  exact pair_near hm (fun k => ⟨fun _ => hu i, fun _ => hu k⟩) (by rw [if_pos (hu i)]; exact hlt) (fun e => by have := h17 e; omega) (fun e => by have := h20 e; omega)
theorem seg_down {s : Soc} (hm : s.made) {pr msg : Int} {val : Nat → Int} {n : Nat} {fr to : List Bool} (hu : ∀ k, ¬ ((¬ pr = 22 ∧ val k = 1) ∨ (pr = 22 ∧ val k = 0))) (h17 : pr = 17 → n = s.domains.length) (h20 : pr = 20 → n = s.clocks.length) :
    (stepL pr msg val (moreL (List.range n).reverse fr to)).Pairwise (PairOk s) := by
  unfold stepL
  rw [List.pairwise_map]
  refine List.Pairwise.imp_of_mem ?_ (List.Pairwise.filter _ (List.pairwise_reverse.2 List.pairwise_lt_range))
  intro i j hi hj hlt
  have h1 := List.mem_range.1 (List.mem_reverse.1 (List.mem_filter.1 hi).1)
  have h2 := List.mem_range.1 (List.mem_reverse.1 (List.mem_filter.1 hj).1)
  exact pair_near hm (fun k => ⟨fun h => absurd h (hu k), fun h => absurd h (hu i)⟩) (by rw [if_neg (hu i)]; exact hlt) (fun e => by have := h17 e; omega) (fun e => by have := h20 e; omega)
theorem seg_lines {s : Soc} {val : Nat → Int} {ids : List Nat} (hu : ∀ k, val k = val 0) : (stepL 22 4 val ids).Pairwise (PairOk s) := by
  refine List.pairwise_iff_getElem.2 fun i j hi hj hlt => ?_
  obtain ⟨a, _, ha⟩ := mem_stepL (List.getElem_mem hi)
  obtain ⟨b, _, hb⟩ := mem_stepL (List.getElem_mem hj)
  rw [ha, hb]
  have h1 := hu a
  have h2 := hu b
  exact pair_far (fun h => by dsimp only at h ⊢; omega) (fun _ _ => rfl)
theorem retV_01 (s : Soc) (k : Nat) : retV s k = 0 ∨ retV s k = 2 := by unfold retV; split <;> simp
theorem allM_pairs {s : Soc} (hm : s.made) (x y : Wsh) : (allM s x y).Pairwise (PairOk s) := by
  have m1 := fun (p : Stp) (h : p ∈ stepL 17 4 (fun _ => 1) (moreL (List.range s.domains.length) x.d y.d)) => mem_stepL h
  have m2 := fun (p : Stp) (h : p ∈ stepL 20 7 (fun _ => 1) (moreL (List.range s.clocks.length) x.c y.c)) => mem_stepL h
  have m3 := fun (p : Stp) (h : p ∈ stepL 22 4 (fun _ => 0) (moreL (List.range s.resets.length) x.l y.l)) => mem_stepL h
  have m4 := fun (p : Stp) (h : p ∈ stepL 22 4 (fun _ => 1) (moreL (List.range s.resets.length) y.l x.l)) => mem_stepL h
  have m5 := fun (p : Stp) (h : p ∈ stepL 20 7 (fun _ => 0) (moreL (List.range s.clocks.length).reverse y.c x.c)) => mem_stepL h
  have m6 := fun (p : Stp) (h : p ∈ stepL 17 4 (retV s) (moreL (List.range s.domains.length).reverse y.d x.d)) => mem_stepL h
  unfold allM allL
  refine List.pairwise_append.2 ⟨seg_up hm (fun _ => .inl ⟨by decide, rfl⟩) (fun _ => rfl) (fun e => by cases e), List.pairwise_append.2 ⟨seg_up hm (fun _ => .inl ⟨by decide, rfl⟩) (fun e => by cases e) (fun _ => rfl), List.pairwise_append.2 ⟨seg_lines (fun _ => rfl), List.pairwise_append.2 ⟨seg_lines (fun _ => rfl),
    List.pairwise_append.2 ⟨seg_down hm (fun _ => by omega) (fun e => by cases e) (fun _ => rfl), seg_down hm (fun k => by have := retV_01 s k; omega) (fun _ => rfl) (fun e => by cases e), ?_⟩, ?_⟩, ?_⟩, ?_⟩, ?_⟩
  all_goals
    intro a ha b hb
    try simp only [List.mem_append] at hb
  · obtain ⟨i, _, rfl⟩ := m5 a ha
    obtain ⟨j, _, rfl⟩ := m6 b hb
    exact pair_far (fun h => by dsimp only at h ⊢; have := retV_01 s j; omega) (fun h => by dsimp only at h; omega)
  · obtain ⟨i, _, rfl⟩ := m4 a ha
    rcases hb with hb | hb
    · obtain ⟨j, _, rfl⟩ := m5 b hb
      exact pair_far (fun h => by dsimp only at h ⊢; omega) (fun h => by dsimp only at h; omega)
    · obtain ⟨j, _, rfl⟩ := m6 b hb
      exact pair_far (fun h => by dsimp only at h ⊢; have := retV_01 s j; omega) (fun h => by dsimp only at h; omega)
  · obtain ⟨i, _, rfl⟩ := m3 a ha
    exact pair_far (fun h => by dsimp only; omega) (fun h => by
      rcases hb with hb | hb | hb
      · obtain ⟨j, _, rfl⟩ := m4 b hb; intro _; rfl
      · obtain ⟨j, _, rfl⟩ := m5 b hb; dsimp only at h; omega
      · obtain ⟨j, _, rfl⟩ := m6 b hb; dsimp only at h; omega)
  · obtain ⟨i, _, rfl⟩ := m2 a ha
    exact pair_far (fun h => by dsimp only; omega) (fun h => by
      rcases hb with hb | hb | hb | hb
      · obtain ⟨j, _, rfl⟩ := m3 b hb; intro _; rfl
      · obtain ⟨j, _, rfl⟩ := m4 b hb; intro _; rfl
      · obtain ⟨j, _, rfl⟩ := m5 b hb; dsimp only; intro h2; exfalso; omega
      · obtain ⟨j, _, rfl⟩ := m6 b hb; dsimp only at h; omega)
  · obtain ⟨i, _, rfl⟩ := m1 a ha
    exact pair_far (fun h => by dsimp only; omega) (fun h => by
      rcases hb with hb | hb | hb | hb | hb
      · obtain ⟨j, _, rfl⟩ := m2 b hb; dsimp only at h; omega
      · obtain ⟨j, _, rfl⟩ := m3 b hb; intro _; rfl
      · obtain ⟨j, _, rfl⟩ := m4 b hb; intro _; rfl
      · obtain ⟨j, _, rfl⟩ := m5 b hb; dsimp only at h; omega
      · obtain ⟨j, _, rfl⟩ := m6 b hb; dsimp only; have := retV_01 s j; intro h2; exfalso; omega)
theorem pair_at {α : Type} {R : α → α → Prop} {L : List α} (h : L.Pairwise R) {i j : Nat} {a b : α} (hj : L[j]? = some a) (hi : L[i]? = some b) (hlt : j < i) : R a b := by
  have h1 := List.pairwise_iff_getElem.1 h
  obtain ⟨l1, e1⟩ := List.getElem?_eq_some_iff.1 hj
  obtain ⟨l2, e2⟩ := List.getElem?_eq_some_iff.1 hi
  rw [← e1, ← e2]
  exact h1 j i l1 l2 hlt
theorem stepL_ok {pr msg : Int} {val : Nat → Int} {ids : List Nat} (h1 : pr = 17 ∨ pr = 20 ∨ pr = 22) (h2 : msg = 4 ∨ msg = 7) (hv : ∀ k, val k = 0 ∨ val k = 1 ∨ val k = 2) (hi : ∀ i ∈ ids, i < 1000) : ∀ p ∈ stepL pr msg val ids, p.ok := by
  intro p hp
  obtain ⟨i, hi', rfl⟩ := mem_stepL hp
  have h3 := hi i hi'
  have h4 := hv i
  exact ⟨by dsimp only; omega, by dsimp only; omega, by dsimp only; omega, by dsimp only; omega⟩
theorem allM_ok {s : Soc} (hm : s.made) (x y : Wsh) : ∀ p ∈ allM s x y, p.ok := by
  have h1 := hm.nc
  have h2 := hm.nd
  have h3 := hm.nr
  have mr : ∀ (n : Nat) (fr to : List Bool), n ≤ 9 → ∀ i ∈ moreL (List.range n) fr to, i < 1000 := fun n fr to hn i hi => by have := List.mem_range.1 (List.mem_filter.1 hi).1; omega
  have mv : ∀ (n : Nat) (fr to : List Bool), n ≤ 9 → ∀ i ∈ moreL (List.range n).reverse fr to, i < 1000 := fun n fr to hn i hi => by have := List.mem_range.1 (List.mem_reverse.1 (List.mem_filter.1 hi).1); omega
  intro p hp
  simp only [allM, allL, List.mem_append] at hp
  rcases hp with hp | hp | hp | hp | hp | hp
  · exact stepL_ok (by omega) (by omega) (fun _ => by omega) (mr _ _ _ (by omega)) p hp
  · exact stepL_ok (by omega) (by omega) (fun _ => by omega) (mr _ _ _ (by omega)) p hp
  · exact stepL_ok (by omega) (by omega) (fun _ => by omega) (mr _ _ _ (by omega)) p hp
  · exact stepL_ok (by omega) (by omega) (fun _ => by omega) (mr _ _ _ (by omega)) p hp
  · exact stepL_ok (by omega) (by omega) (fun _ => by omega) (mv _ _ _ (by omega)) p hp
  · exact stepL_ok (by omega) (by omega) (fun k => by have := retV_01 s k; omega) (mv _ _ _ (by omega)) p hp
theorem allM_len {s : Soc} (hm : s.made) (x y : Wsh) : (allM s x y).length ≤ 32 := by
  have h1 := hm.nc
  have h2 := hm.nd
  have h3 := hm.nr
  refine Nat.le_trans (allL_len _ _ _ _ _ _ _ _ _ _) ?_
  simp only [List.length_range]
  omega
end Go.Proofs.Ytbgibbbggajgaaa
