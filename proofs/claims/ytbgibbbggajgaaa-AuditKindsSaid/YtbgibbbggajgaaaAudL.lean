/- What is found in the beginning of a row of events; events of kinds that there are not. No walk in sight. -/
import Derived.Test.YtbgibbbggajgaaaOrd
import Derived.Test.YtbgibbbggajgaaaAdds
import Derived.Test.YtbgibbbggajgaaaReplies
import Derived.Test.YtbgibbbggajgaaaOpen
namespace Go.Proofs.Ytbgibbbggajgaaa
set_option linter.all false
open Go.RowKit
def frontP (a b k : Int) : Prop := if 0 ≤ a then a = b ∧ a < k else a = -1 ∧ (b = -1 ∨ k ≤ b)
instance (a b k : Int) : Decidable (frontP a b k) := by unfold frontP; infer_instance
def movedF (a k : Int) : Int := if k ≤ a then a + 1 else a
theorem selI_left {a b : List Ev} {i : Nat} (h : i < a.length) : selI (a ++ b) i = selI a i := by rw [selI, selI, List.getElem?_append_left h]
theorem selI_right {a b : List Ev} {i : Nat} : selI (a ++ b) (a.length + i) = selI b i := by rw [selI, selI, List.getElem?_append_right (by omega), Nat.add_sub_cancel_left]
theorem selIds_append (a b : List Ev) : selIds (a ++ b) = selIds a ++ (selIds b).map (a.length + ·) := by
  unfold selIds
  rw [List.length_append, List.range_add, List.filter_append]
  congr 1
  · exact List.filter_congr fun i hi => selI_left (List.mem_range.1 hi)
  · rw [List.filter_map]
    congr 1
    exact List.filter_congr fun i _ => selI_right
theorem selIds_lt {a : List Ev} {k i : Nat} (h : (selIds a)[k]? = some i) : i < a.length := by
  have := List.mem_of_getElem? h
  unfold selIds at this
  exact List.mem_range.1 (List.mem_filter.1 this).1
theorem selE_append (a b : List Ev) : selE (a ++ b) = selE a ++ selE b := by
  unfold selE
  rw [selIds_append, List.map_append, List.map_map]
  congr 1
  · refine List.map_congr_left fun i hi => ?_
    obtain ⟨k, hk⟩ := List.getElem?_of_mem hi
    rw [List.getElem?_append_left (selIds_lt hk)]
  · refine List.map_congr_left fun i _ => ?_
    simp only [Function.comp]
    rw [List.getElem?_append_right (by omega), Nat.add_sub_cancel_left]
theorem firstB_not {p : Nat → Bool} {n : Nat} (h : firstB p n = none) : ∀ j, j < n → p j = false := fun j hj => by
  cases hp : p j with
  | false => rfl
  | true =>
    exfalso
    have : ∀ (m : Nat), j < m → firstB p m ≠ none := by
      intro m
      induction m with
      | zero => intro h; omega
      | succ m ih =>
        intro h hf
        unfold firstB at hf
        cases hm : firstB p m with
        | some x => rw [hm] at hf; cases hf
        | none =>
          rw [hm] at hf
          rcases Nat.lt_or_ge j m with h1 | h1
          · exact ih h1 hm
          · obtain rfl : j = m := by omega
            simp [hp] at hf
    exact this n hj h
theorem firstB_at {p : Nat → Bool} : ∀ {n k : Nat}, firstB p n = some k → k < n ∧ p k = true ∧ ∀ j, j < k → p j = false
  | 0, k, h => by cases h
  | n + 1, k, h => by
    unfold firstB at h
    cases hn : firstB p n with
    | some j =>
      rw [hn] at h
      simp at h
      subst h
      obtain ⟨h1, h2, h3⟩ := firstB_at hn
      exact ⟨by omega, h2, h3⟩
    | none =>
      rw [hn] at h
      by_cases hp : p n = true
      · simp [hp] at h
        subst h
        exact ⟨by omega, hp, firstB_not hn⟩
      · simp [hp] at h
theorem badAt_left {devs : List Dev} {a b : List Ev} {j : Nat} (h : j < a.length) : badAt devs (a ++ b) j = badAt devs a j := by
  rw [badAt, badAt, List.getElem?_append_left h]
  have : oSt devs (a ++ b) j = oSt devs a j := by
    rw [oSt, oSt, List.take_append_of_le_length (by omega)]
  rw [this]
/-- the places of what is found, in all and in the beginning -/
theorem ord_front (devs : List Dev) (a b : List Ev) : frontP (ordF devs a) (ordF devs (a ++ b)) a.length := by
  unfold frontP ordF
  rw [selE_append, selIds_append]
  cases ha : ordK devs (selE a) with
  | some k =>
    obtain ⟨h1, h2, h3⟩ := firstB_at (show firstB (badAt devs (selE a)) (selE a).length = some k from ha)
    have hab : ordK devs (selE a ++ selE b) = some k := firstB_some (fun j hj => by rw [badAt_left (by omega)]; exact h3 j hj) (by rw [badAt_left h1]; exact h2) (by rw [List.length_append]; omega)
    rw [hab]
    rw [selE_len] at h1
    obtain ⟨i, hi⟩ : ∃ i, (selIds a)[k]? = some i := ⟨_, List.getElem?_eq_getElem h1⟩
    have hlt := selIds_lt hi
    simp only [List.getElem?_append_left h1, hi, Option.getD_some]
    rw [if_pos (by omega)]
    exact ⟨by simp, by omega⟩
  | none =>
    have hno := firstB_not (show firstB (badAt devs (selE a)) (selE a).length = none from ha)
    simp only
    rw [if_neg (by omega)]
    refine ⟨by simp, ?_⟩
    cases hb : ordK devs (selE a ++ selE b) with
    | none => exact .inl rfl
    | some k =>
      right
      obtain ⟨h1, h2, _⟩ := firstB_at (show firstB _ (selE a ++ selE b).length = some k from hb)
      have hk : (selE a).length ≤ k := by
        rcases Nat.lt_or_ge k (selE a).length with h | h
        · rw [badAt_left h, hno k h] at h2; cases h2
        · exact h
      rw [List.length_append, selE_len, selE_len] at h1
      rw [selE_len] at hk
      obtain ⟨i, hi⟩ : ∃ i, (selIds b)[k - (selIds a).length]? = some i := ⟨_, List.getElem?_eq_getElem (by omega)⟩
      simp only [List.getElem?_append_right hk, List.getElem?_map, hi, Option.map_some, Option.getD_some]
      omega
theorem safe_front (a b : List Ev) : frontP (safeF a) (safeF (a ++ b)) a.length := by
  have h1 := safeF_bd a
  have h2 := safeF_bd b
  rw [safeF_append]
  unfold frontP
  split <;> split <;> omega
theorem repG_append {st : Bool × Int} {a b : List Ev} {k : Nat} : repG st (a ++ b) k = match repRun st a with | none => repG st a k | some st' => repG st' b (k + a.length) := by
  induction a generalizing st k with
  | nil => simp [repRun]
  | cons x a ih =>
    simp only [List.cons_append, repG, repRun]
    cases hs : repStep st x with
    | none => rfl
    | some st' =>
      simp only
      rw [ih]
      cases repRun st' a with
      | none => rfl
      | some st2 => simp only [List.length_cons]; congr 1; omega
theorem repG_bd {st : Bool × Int} {l : List Ev} {k : Nat} : repG st l k = -1 ∨ (k ≤ repG st l k ∧ repG st l k < k + l.length) := by
  induction l generalizing st k with
  | nil => exact .inl rfl
  | cons x l ih =>
    simp only [repG, List.length_cons]
    cases repStep st x with
    | none => right; simp only; omega
    | some st' =>
      simp only
      rcases ih (st := st') (k := k + 1) with h | h
      · exact .inl h
      · right; omega
theorem repG_none {st : Bool × Int} {l : List Ev} {k : Nat} (h : repRun st l = none) : 0 ≤ repG st l k := by
  induction l generalizing st k with
  | nil => cases h
  | cons x l ih =>
    simp only [repRun] at h
    simp only [repG]
    cases hs : repStep st x with
    | none => simp only; omega
    | some st' => rw [hs] at h; exact ih h
theorem rep_front (a b : List Ev) : frontP (repliesF a) (repliesF (a ++ b)) a.length := by
  unfold repliesF frontP
  rw [repG_append]
  have h1 := repG_bd (st := (false, 0)) (l := a) (k := 0)
  cases hr : repRun (false, 0) a with
  | none =>
    have := repG_none (k := 0) hr
    simp only
    rw [if_pos this]
    exact ⟨by simp, by omega⟩
  | some st' =>
    simp only
    rw [repG_all hr, if_neg (by omega)]
    refine ⟨by simp, ?_⟩
    have := repG_bd (st := st') (l := b) (k := 0 + a.length)
    omega
/-! an event of no kind -/
def evQ (q : Ev) : Prop := q.kind = 113
theorem q_sel {q : Ev} (h : evQ q) : sel q = false := by simp [sel, show q.kind = 113 from h]
theorem q_ids {q : Ev} (h : evQ q) : selIds [q] = [] := by
  unfold selIds
  simp [selI, q_sel h, List.range_succ]
theorem q_selE {q : Ev} (h : evQ q) : selE [q] = [] := by unfold selE; rw [q_ids h]; rfl
theorem ord_moved (devs : List Dev) (a b : List Ev) (q : Ev) (h : evQ q) : movedF (ordF devs (a ++ b)) a.length = ordF devs (a ++ ([q] ++ b)) := by
  unfold movedF ordF
  rw [selE_append, selE_append, selE_append, q_selE h, List.nil_append, selIds_append, selIds_append, selIds_append, q_ids h, List.nil_append]
  cases hb : ordK devs (selE a ++ selE b) with
  | none => simp only; rw [if_neg (by omega)]
  | some k =>
    obtain ⟨h1, _, _⟩ := firstB_at (show firstB _ (selE a ++ selE b).length = some k from hb)
    rw [List.length_append, selE_len, selE_len] at h1
    simp only
    rcases Nat.lt_or_ge k (selIds a).length with hk | hk
    · obtain ⟨i, hi⟩ : ∃ i, (selIds a)[k]? = some i := ⟨_, List.getElem?_eq_getElem hk⟩
      have hlt := selIds_lt hi
      simp only [List.getElem?_append_left hk, hi, Option.getD_some]
      rw [if_neg (by omega)]
    · obtain ⟨i, hi⟩ : ∃ i, (selIds b)[k - (selIds a).length]? = some i := ⟨_, List.getElem?_eq_getElem (by omega)⟩
      simp only [List.getElem?_append_right hk, List.getElem?_map, hi, Option.map_some, Option.getD_some, List.length_cons, List.length_nil]
      rw [if_pos (by omega)]
      omega
theorem q_safe {q : Ev} (h : evQ q) : safeF [q] = -1 := by
  refine safeF_none fun e he => ?_
  simp at he
  subst he
  simp [isDead, show e.kind = 113 from h]
theorem safe_moved (a b : List Ev) (q : Ev) (h : evQ q) : movedF (safeF (a ++ b)) a.length = safeF (a ++ ([q] ++ b)) := by
  have h1 := safeF_bd a
  have h2 := safeF_bd b
  rw [safeF_append, safeF_append, safeF_append, q_safe h]
  unfold movedF
  simp only [List.length_cons, List.length_nil]
  repeat' split
  all_goals omega
theorem repG_off {st : Bool × Int} {l : List Ev} {k : Nat} : repG st l (k + 1) = if repG st l k = -1 then -1 else repG st l k + 1 := by
  induction l generalizing st k with
  | nil => rfl
  | cons x l ih =>
    have e : ∀ k, repG st (x :: l) k = (match repStep st x with | none => (k : Int) | some st' => repG st' l (k + 1)) := fun k => rfl
    cases hs : repStep st x with
    | none =>
      rw [e, e, hs]
      show ((k + 1 : Nat) : Int) = if (k : Int) = -1 then -1 else (k : Int) + 1
      rw [if_neg (by omega)]
      omega
    | some st' =>
      rw [e, e, hs]
      exact ih
theorem q_rep {q : Ev} (h : evQ q) (st : Bool × Int) : repStep st q = some st := by simp [repStep, show q.kind = 113 from h]
theorem rep_moved (a b : List Ev) (q : Ev) (h : evQ q) : movedF (repliesF (a ++ b)) a.length = repliesF (a ++ ([q] ++ b)) := by
  unfold repliesF movedF
  rw [repG_append, repG_append]
  have h1 := repG_bd (st := (false, 0)) (l := a) (k := 0)
  cases hr : repRun (false, 0) a with
  | none =>
    simp only
    rw [if_neg (by omega)]
  | some st' =>
    have h2 := repG_bd (st := st') (l := b) (k := 0 + a.length)
    simp only [List.cons_append, List.nil_append, repG, q_rep h]
    rw [repG_off]
    repeat' split
    all_goals omega
theorem look_q (a b : List Ev) (q : Ev) (h : evQ q) : lookF (a ++ ([q] ++ b)) = lookF (a ++ b) := by
  have hq : ∀ r : Rp, r.step q = r := fun r => by simp [Rp.step, show q.kind = 113 from h]
  simp [lookF, hq]
theorem open_q (a b : List Ev) (q : Ev) (h : evQ q) : openF (a ++ ([q] ++ b)) = openF (a ++ b) := by
  have hq : [q].filter sel = [] := by simp [q_sel h]
  have e : (a ++ ([q] ++ b)).filter sel = (a ++ b).filter sel := by rw [List.filter_append, List.filter_append, hq, List.nil_append, List.filter_append]
  unfold openF
  rw [e]
/-! events, cut -/
theorem flat_take {α : Type} (g : α → List Value) (sz : Nat) : ∀ (l : List α) (k : Nat), (∀ e ∈ l, (g e).length = sz) → (l.take k).flatMap g = (l.flatMap g).take (k * sz)
  | [], k, _ => by simp
  | x :: l, 0, _ => by simp
  | x :: l, k + 1, h => by
    have hx := h x (by simp)
    rw [List.take_succ_cons, List.flatMap_cons, List.flatMap_cons, flat_take g sz l k (fun e he => h e (by simp [he])), List.take_append, List.take_of_length_le (l := g x) (by rw [hx, Nat.add_mul]; omega)]
    congr 2
    rw [hx, Nat.add_mul]; omega
theorem flat_drop {α : Type} (g : α → List Value) (sz : Nat) : ∀ (l : List α) (k : Nat), (∀ e ∈ l, (g e).length = sz) → (l.drop k).flatMap g = (l.flatMap g).drop (k * sz)
  | [], k, _ => by simp
  | x :: l, 0, _ => by simp
  | x :: l, k + 1, h => by
    have hx := h x (by simp)
    rw [List.drop_succ_cons, List.flatMap_cons, flat_drop g sz l k (fun e he => h e (by simp [he])), List.drop_append, List.drop_of_length_le (l := g x) (by rw [hx, Nat.add_mul]; omega), List.nil_append]
    congr 1
    rw [hx, Nat.add_mul]; omega
theorem evs_take {w : World} {B : Nat} {A A' : Option Addr} {evs : List Ev} (h : Evs w B A evs) (k : Nat) (hA : 0 < k → (∃ b off, A = some ⟨b, off, none⟩) → A' = A) : Evs w B A' (evs.take k) := by
  refine ⟨⟨?_, fun hn => ?_⟩, fun e he => h.2 e (List.mem_of_mem_take he)⟩
  · exact flat_len Ev.cells 14 _ (fun _ _ => Ev.cells_len _)
  · rw [List.length_take] at hn
    obtain ⟨b, off, rfl, hb, hc⟩ := h.1.2 (by omega)
    rw [hA (by omega) ⟨b, off, rfl⟩]
    refine ⟨b, off, rfl, hb, fun j u hu => hc j u ?_⟩
    rw [flat_take Ev.cells 14 _ _ (fun _ _ => Ev.cells_len _), List.getElem?_take] at hu
    split at hu
    · exact hu
    · cases hu
theorem evs_drop {w : World} {B : Nat} {A A' : Option Addr} {evs : List Ev} (h : Evs w B A evs) (k : Nat) (hA : k < evs.length → ∀ b off, A = some ⟨b, off, none⟩ → A' = some ⟨b, off + k * 14, none⟩) : Evs w B A' (evs.drop k) := by
  refine ⟨⟨?_, fun hn => ?_⟩, fun e he => h.2 e (List.mem_of_mem_drop he)⟩
  · exact flat_len Ev.cells 14 _ (fun _ _ => Ev.cells_len _)
  · rw [List.length_drop] at hn
    obtain ⟨b, off, rfl, hb, hc⟩ := h.1.2 (by omega)
    rw [hA (by omega) b off rfl]
    refine ⟨b, off + k * 14, rfl, hb, fun j u hu => ?_⟩
    rw [Nat.add_assoc]
    refine hc (k * 14 + j) u ?_
    rw [flat_drop Ev.cells 14 _ _ (fun _ _ => Ev.cells_len _), List.getElem?_drop] at hu
    exact hu
theorem Evs.S {w : World} {A : Option Addr} {evs : List Ev} (h : Evs w w.heap.size A evs) : EvS (all w) A evs := ⟨h.1.1, fun hn => by
  obtain ⟨b, off, hA, hb, hc⟩ := h.1.2 hn
  exact ⟨b, off, hA, hb, hc⟩⟩
end Go.Proofs.Ytbgibbbggajgaaa
