/- A graph in which all sources are lesser ones: its order is 0, 1, 2, .. No program in sight. -/
import Derived.Test.YtbgibbbggajgaaaGraphO
namespace Go.Proofs.Ytbgibbbggajgaaa
set_option linter.all false
def LessG (g : List (List Int)) : Prop := ∀ (k : Nat) (l : List Int), g[k]? = some l → ∀ u ∈ l, 0 ≤ u ∧ u < (k : Int)
theorem LessG.in {g : List (List Int)} (h : LessG g) : InG g := by
  intro l hl u hu
  obtain ⟨k, hk⟩ := List.getElem?_of_mem hl
  have := h k l hk u hu
  have := (List.getElem?_eq_some_iff.1 hk).1
  omega
theorem LessG.next {g : List (List Int)} (h : LessG g) {k : Nat} (hk : k < g.length) : nextG g (List.range k) = some k := by
  refine nextG_some hk (fun j hj => okN_met (by simpa using hj)) ?_
  unfold okN
  obtain ⟨l, hl⟩ : ∃ l, g[k]? = some l := ⟨_, List.getElem?_eq_getElem hk⟩
  rw [hl]
  simp only [Option.getD_some, Bool.and_eq_true, Bool.not_eq_true', List.all_eq_true]
  refine ⟨by simp, fun u hu => ?_⟩
  have := h k l hl u hu
  simp; omega
theorem LessG.order {g : List (List Int)} (h : LessG g) : ∀ (m k : Nat), k + m = g.length → orderG g m (List.range k) = some (List.range g.length)
  | 0, k, hk => by rw [orderG]; simp at hk; rw [hk]
  | m + 1, k, hk => by
    rw [orderG, h.next (by omega)]
    have := LessG.order h m (k + 1) (by omega)
    rw [List.range_succ] at this
    exact this
theorem LessG.orderE {g : List (List Int)} (h : LessG g) (hl : g.length ≤ 100) : orderE g = (0, List.range g.length) := by
  have h1 : badG g = false := badG_no fun k l hk j u hj => by
    have := h.in l (List.mem_of_getElem? hk) u (List.mem_of_getElem? hj)
    exact this
  have h2 : numbersG g = 0 := by unfold numbersG; rw [if_neg (by omega), h1]; rfl
  have h3 := h.order g.length 0 (by omega)
  unfold Go.Proofs.Ytbgibbbggajgaaa.orderE
  rw [if_neg (by simp [h2])]
  simp only [List.range_zero] at h3
  rw [h3]
end Go.Proofs.Ytbgibbbggajgaaa
