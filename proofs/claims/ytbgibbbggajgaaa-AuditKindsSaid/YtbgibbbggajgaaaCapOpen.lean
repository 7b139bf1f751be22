/- A slice that came in is no longer than its room. -/
import Derived.Test.YtbgibbbggajgaaaEvOpen
import Derived.Deep.Slices
namespace Go.Proofs.Ytbgibbbggajgaaa
set_option linter.all false
open Go.RowKit Go.ChangeShapes Go.WideShapes Go.ChangeAt
theorem open_cap {H : Type} {enc : TypeId × Value → H} {P : Program} {w : World} {t e : TypeId} {A : Option Addr} {n c : Nat} {d : DataW H} {ps : List MemPlace} {held : Nat → Bool} {b : Bool} (ht : P.underlying t = some (.slice e)) (h : DataW.Trod enc P w 0 held b t (.slice A n c) d ps) : n ≤ c := by
  obtain ⟨fuel, hf⟩ := h
  rcases Go.Deep.open_slice ht hf with ⟨h0, _⟩ | ⟨a, len, cap, m, k, D, Pl, h0, _, hl, _⟩
  · simp [Value.cells] at h0
    omega
  · simp [Value.cells] at h0
    omega
end Go.Proofs.Ytbgibbbggajgaaa
