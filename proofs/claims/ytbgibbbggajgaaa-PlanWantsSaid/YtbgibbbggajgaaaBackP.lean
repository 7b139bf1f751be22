/- The steps from some wishes to others lead there, and are as many as those back. No walk in sight. -/
import Derived.Test.YtbgibbbggajgaaaOrdersP
namespace Go.Proofs.Ytbgibbbggajgaaa
set_option linter.all false
open Go.RowKit
theorem turn_same (l : List Bool) (i : Nat) : turnB l l i = false := by unfold turnB; cases hasB l i <;> rfl
theorem moreL_same (ids : List Nat) (l : List Bool) : moreL ids l l = [] := by
  unfold moreL
  rw [List.filter_eq_nil_iff]
  intro i _
  rw [turn_same]
  simp
theorem allM_same (s : Soc) (x : Wsh) : allM s x x = [] := by simp [allM, allL, moreL_same, stepL]
theorem moreL_rev_len (n : Nat) (a b : List Bool) : (moreL (List.range n).reverse a b).length = (moreL (List.range n) a b).length := by
  unfold moreL
  rw [List.filter_reverse, List.length_reverse]
theorem allM_len_eq (s : Soc) (x y : Wsh) : (allM s x y).length = (allM s y x).length := by
  simp only [allM, allL, stepL, List.length_append, List.length_map, moreL_rev_len]
  omega
/-- many bits are as they are to be -/
theorem putB_get (l : List Bool) (i j : Nat) (b : Bool) : (putB l (i : Int) b)[j]? = if i = j then (l[j]?).map (fun _ => b) else l[j]? := by
  unfold putB
  rw [Int.toNat_natCast, List.getElem?_set]
  by_cases h : i = j
  · subst h
    rw [if_pos rfl, if_pos rfl]
    by_cases hl : i < l.length
    · rw [if_pos hl, List.getElem?_eq_getElem hl]; rfl
    · rw [if_neg hl, List.getElem?_eq_none (by omega)]; rfl
  · rw [if_neg h, if_neg h]
theorem putB_fold (b : Bool) : ∀ (ids : List Nat) (l : List Bool) (j : Nat), (ids.foldl (fun d (i : Nat) => putB d (i : Int) b) l)[j]? = if j ∈ ids then (l[j]?).map (fun _ => b) else l[j]?
  | [], l, j => by simp
  | i :: ids, l, j => by
    rw [List.foldl_cons, putB_fold b ids, putB_get]
    by_cases h2 : i = j
    · subst h2
      by_cases h1 : i ∈ ids <;> simp [h1] <;> (cases l[i]? <;> rfl)
    · have h3 : ¬ j = i := fun e => h2 e.symm
      by_cases h1 : j ∈ ids <;> simp [h1, h2, h3]
theorem fold_d {val : Nat → Int} {b : Bool} (h : ∀ k, val k ≤ 2 ∧ decide (val k = 1) = b) : ∀ (ids : List Nat) (x : Wsh), (stepL 17 4 val ids).foldl applyW x = ⟨ids.foldl (fun d (i : Nat) => putB d (i : Int) b) x.d, x.c, x.l⟩
  | [], x => rfl
  | i :: ids, x => by
    have h1 := h i
    have e : applyW x ⟨17, 4, (i : Int), val i⟩ = ⟨putB x.d (i : Int) b, x.c, x.l⟩ := by
      unfold applyW
      dsimp only
      rw [if_pos ⟨rfl, rfl, h1.1⟩, h1.2]
    show (stepL 17 4 val ids).foldl applyW (applyW x ⟨17, 4, (i : Int), val i⟩) = _
    rw [e, fold_d h ids]
    rfl
theorem fold_c {val : Nat → Int} {b : Bool} (h : ∀ k, val k ≤ 1 ∧ decide (val k = 1) = b) : ∀ (ids : List Nat) (x : Wsh), (stepL 20 7 val ids).foldl applyW x = ⟨x.d, ids.foldl (fun d (i : Nat) => putB d (i : Int) b) x.c, x.l⟩
  | [], x => rfl
  | i :: ids, x => by
    have h1 := h i
    have e : applyW x ⟨20, 7, (i : Int), val i⟩ = ⟨x.d, putB x.c (i : Int) b, x.l⟩ := by
      unfold applyW
      dsimp only
      rw [if_neg (by omega), if_pos ⟨rfl, rfl, h1.1⟩, h1.2]
    show (stepL 20 7 val ids).foldl applyW (applyW x ⟨20, 7, (i : Int), val i⟩) = _
    rw [e, fold_c h ids]
    rfl
theorem fold_l {val : Nat → Int} {b : Bool} (h : ∀ k, val k ≤ 1 ∧ decide (val k = 0) = b) : ∀ (ids : List Nat) (x : Wsh), (stepL 22 4 val ids).foldl applyW x = ⟨x.d, x.c, ids.foldl (fun d (i : Nat) => putB d (i : Int) b) x.l⟩
  | [], x => rfl
  | i :: ids, x => by
    have h1 := h i
    have e : applyW x ⟨22, 4, (i : Int), val i⟩ = ⟨x.d, x.c, putB x.l (i : Int) b⟩ := by
      unfold applyW
      dsimp only
      rw [if_neg (by omega), if_neg (by omega), if_pos ⟨rfl, rfl, h1.1⟩, h1.2]
    show (stepL 22 4 val ids).foldl applyW (applyW x ⟨22, 4, (i : Int), val i⟩) = _
    rw [e, fold_l h ids]
    rfl
theorem mem_more {n i : Nat} {a b : List Bool} : i ∈ moreL (List.range n) a b ↔ i < n ∧ turnB a b i = true := by simp [moreL]
theorem mem_moreR {n i : Nat} {a b : List Bool} : i ∈ moreL (List.range n).reverse a b ↔ i < n ∧ turnB a b i = true := by simp [moreL]
/-- up, and down: there -/
theorem turned {n : Nat} {a b : List Bool} {up dn : List Nat} (ha : a.length = n) (hb : b.length = n) (hu : ∀ i, i ∈ up ↔ i < n ∧ turnB a b i = true) (hd : ∀ i, i ∈ dn ↔ i < n ∧ turnB b a i = true) :
    dn.foldl (fun d (i : Nat) => putB d (i : Int) false) (up.foldl (fun d (i : Nat) => putB d (i : Int) true) a) = b := by
  apply List.ext_getElem?
  intro j
  rw [putB_fold, putB_fold]
  rcases Nat.lt_or_ge j n with h | h
  · have h1 := hu j
    have h2 := hd j
    have e1 : a[j]? = some (a[j]'(by omega)) := List.getElem?_eq_getElem _
    have e2 : b[j]? = some (b[j]'(by omega)) := List.getElem?_eq_getElem _
    simp only [turnB, hasB, e1, e2, Option.getD_some] at h1 h2 ⊢
    cases ha' : a[j]'(by omega) <;> cases hb' : b[j]'(by omega) <;> simp [ha', hb', h, h1, h2] at h1 h2 ⊢ <;> simp [h1, h2]
  · rw [List.getElem?_eq_none (by omega), List.getElem?_eq_none (by omega)]
    simp
structure Wsh.of (x : Wsh) (s : Soc) : Prop where
  d : x.d.length = s.domains.length
  c : x.c.length = s.clocks.length
  l : x.l.length = s.resets.length
theorem fold_all {s : Soc} {x y : Wsh} (hx : x.of s) (hy : y.of s) : (allM s x y).foldl applyW x = y := by
  unfold allM allL
  simp only [List.foldl_append]
  rw [fold_d (val := fun _ => 1) (b := true) (fun _ => ⟨by decide, rfl⟩), fold_c (val := fun _ => 1) (b := true) (fun _ => ⟨by decide, rfl⟩), fold_l (val := fun _ => 0) (b := true) (fun _ => ⟨by decide, rfl⟩), fold_l (val := fun _ => 1) (b := false) (fun _ => ⟨by decide, rfl⟩), fold_c (val := fun _ => 0) (b := false) (fun _ => ⟨by decide, rfl⟩),
    fold_d (val := retV s) (b := false) (fun k => by have := retV_01 s k; exact ⟨by omega, decide_eq_false (by omega)⟩)]
  dsimp only
  rw [turned hx.d hy.d (fun i => mem_more) (fun i => mem_moreR), turned hx.c hy.c (fun i => mem_more) (fun i => mem_moreR), turned hx.l hy.l (fun i => mem_more) (fun i => mem_more)]
theorem fold_sm {L : List Stp} {x : Wsh} (h : x.sm) : (L.foldl applyW x).sm := by
  induction L generalizing x with
  | nil => exact h
  | cons p L ih => exact ih (applyW_sm h p)
theorem fold_next {L : List Stp} {k : Nat} {p : Stp} {x : Wsh} (h : L[k]? = some p) : (L.take (k + 1)).foldl applyW x = applyW ((L.take k).foldl applyW x) p := by
  rw [List.take_add_one, h, List.foldl_append]
  rfl
end Go.Proofs.Ytbgibbbggajgaaa
