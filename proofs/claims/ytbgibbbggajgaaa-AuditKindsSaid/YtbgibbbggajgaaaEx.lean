/- The small logic: a chunk that is one of many, not told which. -/
import Derived.Test.YtbgibbbggajgaaaNear
namespace Go.Proofs.Ytbgibbbggajgaaa
set_option linter.all false
open Go.RowKit
def HP.ex {α : Type} (f : α → HP) : HP := ⟨fun F w => ∃ a, (f a).sat F w, fun F w w' ⟨a, h⟩ hk => ⟨a, (f a).loc F w w' h hk⟩⟩
section
variable {N : Nat} {w0 : World} {e : Env} {R : List Piece} {H : List HP} {K : Act → World → Prop}
theorem XK.openEx (i : Nat) {α : Type} {f : α → HP} (hi : H[i]? = some (HP.ex f)) (h : ∀ a, XK N w0 K e R (H.set i (f a))) : XK N w0 K e R H := fun a w hr st => by
  obtain ⟨Z, F, hz, hrr, hs, hff, hdd⟩ := st.ex
  obtain ⟨x, hx⟩ := hs i _ hi
  have hlt : i < H.length := by
    rcases Nat.lt_or_ge i H.length with h | h
    · exact h
    · rw [List.getElem?_eq_none h] at hi; cases hi
  refine h x a w hr ⟨st.os, st.tape, st.output, st.size, Z, F, hz, hrr, fun j p hj => ?_, hff, hdd⟩
  rw [List.getElem?_set] at hj
  split at hj
  · rename_i e; subst e
    first | (rw [if_pos hlt] at hj; cases hj) | cases hj
    exact hx
  · exact hs j p hj
theorem XK.toEx (i : Nat) {α : Type} {f : α → HP} (x : α) (hi : H[i]? = some (f x)) (h : XK N w0 K e R (H.set i (HP.ex f))) : XK N w0 K e R H := fun a w hr st =>
  h a w hr (st.turn hi (Nat.le_refl _) rfl rfl rfl fun F hF hlt => ⟨F, ⟨x, hF⟩, fun b hb => ⟨.inl hb, hlt b hb⟩, fun _ _ _ => rfl⟩)
/-- two chunks as one -/
theorem XK.pair {p q : HP} (h : XK N w0 K e R (HP.many [p, q] :: H)) : XK N w0 K e R (p :: q :: H) := fun a w hr st => by
  obtain ⟨Z, F, hz, hrr, hs, hff, hdd⟩ := st.ex
  refine h a w hr ⟨st.os, st.tape, st.output, st.size, Z, fun j => match j with | 0 => fun b => F 0 b ∨ F 1 b | j + 1 => F (j + 2), hz, hrr, fun j r hj => ?_, fun j b hb => ?_, fun j k b hjk hj hk => ?_⟩
  · cases j with
    | zero =>
      simp at hj
      subst hj
      refine ⟨fun i b => i < 2 ∧ F i b, fun i r hi => ?_, fun i b hb => ?_, fun i k b hik h1 h2 => hdd i k b hik h1.2 h2.2⟩
      · have key : ∀ k, k < 2 → (fun b => k < 2 ∧ F k b) = F k := fun k hk => by funext b; simp [hk]
        match i, hi with
        | 0, hi => simp at hi; subst hi; show p.sat (fun b => 0 < 2 ∧ F 0 b) w; rw [key 0 (by omega)]; exact hs 0 _ rfl
        | 1, hi => simp at hi; subst hi; show q.sat (fun b => 1 < 2 ∧ F 1 b) w; rw [key 1 (by omega)]; exact hs 1 _ rfl
        | i + 2, hi => simp at hi
      · obtain ⟨hlt, hb⟩ := hb
        match i, hlt, hb with
        | 0, _, hb => exact .inl hb
        | 1, _, hb => exact .inr hb
    | succ j => exact hs (j + 2) r (by simpa using hj)
  · cases j with
    | zero => rcases hb with hb | hb <;> exact hff _ b hb
    | succ j => exact hff _ b hb
  · cases j with
    | zero => cases k with
      | zero => exact hjk rfl
      | succ k => rcases hj with hj | hj
                  · exact hdd 0 (k + 2) b (by omega) hj hk
                  · exact hdd 1 (k + 2) b (by omega) hj hk
    | succ j => cases k with
      | zero => rcases hk with hk | hk
                · exact hdd 0 (j + 2) b (by omega) hk hj
                · exact hdd 1 (j + 2) b (by omega) hk hj
      | succ k => exact hdd (j + 2) (k + 2) b (by omega) hj hk
end
end Go.Proofs.Ytbgibbbggajgaaa
