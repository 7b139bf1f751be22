/- A chip that is made is right; its orders are 0, 1, 2, .. No walk in sight. -/
import Derived.Test.YtbgibbbggajgaaaConf4
import Derived.Test.YtbgibbbggajgaaaGraphM
namespace Go.Proofs.Ytbgibbbggajgaaa
set_option linter.all false
theorem firstE_all {es : List Int} (h : ∀ e ∈ es, e = 0) : firstE es = 0 := firstE_none fun j hj => by rw [List.getElem?_eq_getElem hj, h _ (List.getElem_mem hj)]
theorem withinB_of {n lo hi : Int} (h1 : lo ≤ n) (h2 : n ≤ hi) : withinB n lo hi = true := by simp [withinB, h1, h2]
theorem whenE_of {b : Bool} {e : Int} (h : b = false) : whenE b e = 0 := by rw [h]; rfl
section
variable {s : Soc} (h : s.made)
include h
theorem made_clocks : LessG (clocksG s) := by
  intro k l hl u hu
  simp only [clocksG, List.getElem?_map, Option.map_eq_some_iff] at hl
  obtain ⟨c, hc, rfl⟩ := hl
  exact (h.clocks k c hc).1 u hu
theorem made_doms : LessG (domsG s) := by
  intro k l hl u hu
  simp only [domsG, List.getElem?_map, Option.map_eq_some_iff] at hl
  obtain ⟨d, hd, rfl⟩ := hl
  have := (h.domains k d hd).1
  split at hu
  · cases hu
  · rename_i hne
    simp at hu
    subst hu
    exact this.resolve_left hne
theorem made_needs : LessG (needsG s) := by
  intro k l hl u hu
  simp only [needsG, List.getElem?_map, Option.map_eq_some_iff] at hl
  obtain ⟨d, hd, rfl⟩ := hl
  obtain ⟨_, _, _, _, _, _, _, _, _, _, _, h1⟩ := h.devs k d hd
  exact h1 u hu
theorem made_small : s.small := by
  refine ⟨by have := h.nc; omega, by have := h.nd; omega, by have := h.nr; omega, by have := h.nv; omega, fun c hc => ?_, fun d hd => ?_⟩
  · obtain ⟨k, hk⟩ := List.getElem?_of_mem hc
    rcases (h.clocks k c hk).2 with h1 | h1 | h1 | h1 | h1
    · rw [h1.2.1]; simp
    all_goals (have := h1.2.1; omega)
  · obtain ⟨k, hk⟩ := List.getElem?_of_mem hd
    obtain ⟨_, _, _, _, _, _, _, _, _, _, h1, _⟩ := h.devs k d hk
    omega
theorem made_orders : orderE (clocksG s) = (0, List.range s.clocks.length) ∧ orderE (domsG s) = (0, List.range s.domains.length) ∧ orderE (needsG s) = (0, List.range s.devs.length) := by
  refine ⟨?_, ?_, ?_⟩
  · have := (made_clocks h).orderE (by simp [clocksG]; have := h.nc; omega)
    simpa [clocksG] using this
  · have := (made_doms h).orderE (by simp [domsG]; have := h.nd; omega)
    simpa [domsG] using this
  · have := (made_needs h).orderE (by simp [needsG]; have := h.nv; omega)
    simpa [needsG] using this
theorem made_clock {k : Nat} {c : Clk} (hc : s.clocks[k]? = some c) : clockE s.clocks.length c = 0 := by
  have hk := (List.getElem?_eq_some_iff.1 hc).1
  obtain ⟨h1, h2⟩ := h.clocks k c hc
  refine firstE_all fun e he => ?_
  simp only [List.mem_cons, List.not_mem_nil, or_false] at he
  rcases he with rfl | rfl | rfl
  · refine whenE_of ?_
    rcases h2 with h2 | h2 | h2 | h2 | h2
    · simp [shapeB, h2.1, h2.2.1]
    · simp [shapeB, h2.1, h2.2.1]
    · simp [shapeB, h2.1, h2.2.1]
    · simp [shapeB, h2.1, h2.2.1]
    · simp [shapeB, h2.1, h2.2.1, withinB]
  · refine firstE_all fun e he => ?_
    simp only [List.mem_map] at he
    obtain ⟨f, hf, rfl⟩ := he
    have := h1 f hf
    exact whenE_of (by rw [withinB_of (by omega) (by omega)]; rfl)
  · refine whenE_of ?_
    rcases h2 with h2 | h2 | h2 | h2 | h2
    · obtain ⟨h3, _, h4, h5, _⟩ := h2
      simp [numbersB, h3]; omega
    · obtain ⟨h3, _, _, h4, h5, h6, h7, h8, h9⟩ := h2
      simp [numbersB, h3, withinB]; omega
    · obtain ⟨h3, _, _, _, h4, h5, _⟩ := h2
      simp [numbersB, h3, withinB]; omega
    · simp [numbersB, h2.1]
    · simp [numbersB, h2.1]
theorem made_domain {k : Nat} {d : Dom} (hd : s.domains[k]? = some d) : domainE s.domains.length d = 0 := by
  have hk := (List.getElem?_eq_some_iff.1 hd).1
  obtain ⟨h1, h2, h3⟩ := h.domains k d hd
  refine firstE_all fun e he => ?_
  simp only [List.mem_cons, List.not_mem_nil, or_false] at he
  rcases he with rfl | rfl
  · refine whenE_of ?_
    rcases h1 with h1 | h1
    · simp [h1]
    · rw [withinB_of (by omega) (by omega)]; simp
  · exact whenE_of (by rw [withinB_of (by omega) (by omega)]; rfl)
theorem made_device {k : Nat} {d : Dev} (hd : s.devs[k]? = some d) : deviceE s.clocks.length s.domains.length s.resets.length s.devs.length d = 0 ∧ manyE d = 0 := by
  have hk := (List.getElem?_eq_some_iff.1 hd).1
  obtain ⟨a1, a2, a3, a4, a5, a6, _, _, a7, _, a8, a9⟩ := h.devs k d hd
  refine ⟨firstE_all fun e he => ?_, ?_⟩
  · simp only [List.mem_cons, List.not_mem_nil, or_false] at he
    rcases he with rfl | rfl | rfl | rfl
    · exact whenE_of (by rw [withinB_of (by omega) (by omega)]; rfl)
    · exact whenE_of (by rw [withinB_of (by omega) (by omega)]; rfl)
    · exact whenE_of (by rw [withinB_of (by omega) (by omega)]; rfl)
    · refine firstE_all fun e he => ?_
      simp only [List.mem_map] at he
      obtain ⟨f, hf, rfl⟩ := he
      have := a9 f hf
      exact whenE_of (by rw [withinB_of (by omega) (by omega)]; rfl)
  · refine whenE_of ?_
    simp
    omega
theorem made_check : checkS s = 0 := by
  obtain ⟨o1, o2, o3⟩ := made_orders h
  refine firstE_all fun e he => ?_
  simp only [checkL, List.mem_cons, List.not_mem_nil, or_false] at he
  have h1 := h.nc
  have h2 := h.nd
  have h3 := h.nr
  have h4 := h.nv
  rcases he with rfl | rfl | rfl | rfl | rfl | rfl | rfl | rfl
  · rw [fullE, if_neg (by omega)]
    refine firstE_all fun e he => ?_
    obtain ⟨d, hd, rfl⟩ := List.mem_map.1 he
    obtain ⟨k, hk⟩ := List.getElem?_of_mem hd
    exact (made_device h hk).2
  · refine firstE_all fun e he => ?_
    obtain ⟨d, hd, rfl⟩ := List.mem_map.1 he
    obtain ⟨k, hk⟩ := List.getElem?_of_mem hd
    exact made_clock h hk
  · rw [cycE, o1]; rfl
  · refine firstE_all fun e he => ?_
    obtain ⟨d, hd, rfl⟩ := List.mem_map.1 he
    obtain ⟨k, hk⟩ := List.getElem?_of_mem hd
    exact made_domain h hk
  · rw [cycE, o2]; rfl
  · refine firstE_all fun e he => ?_
    obtain ⟨d, hd, rfl⟩ := List.mem_map.1 he
    have := h.resets d hd
    exact whenE_of (by rw [withinB_of (by omega) (by omega)]; rfl)
  · refine firstE_all fun e he => ?_
    obtain ⟨d, hd, rfl⟩ := List.mem_map.1 he
    obtain ⟨k, hk⟩ := List.getElem?_of_mem hd
    exact (made_device h hk).1
  · rw [cycE, o3]; rfl
end
end Go.Proofs.Ytbgibbbggajgaaa
