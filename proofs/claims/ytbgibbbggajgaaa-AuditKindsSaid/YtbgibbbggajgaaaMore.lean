/- The small logic: more words. -/
import Derived.Test.YtbgibbbggajgaaaMany
namespace Go.Proofs.Ytbgibbbggajgaaa
set_option linter.all false
open Go.RowKit
section
variable {P : Program} {N : Nat} {w0 w : World} {e : Env} {R : List Piece} {H : List HP} {Q : Exit → Act → World → Prop} {ops : Array Oper} {rest : List Oper}
variable {d : Nat} {ty : TypeId} {pos : String} {aft : Array Edge}
/-- what hangs on an operation that was left out is left out -/
theorem xk_guardU {op : Op} {j : Nat} {want : Bool} {t : Nat} (hj : (ops[j]?).bind (·.dst) = some t) (ht : e.get t = some undef) (hd : d < N)
    (k : XK N w0 (wpList P ops Q rest) ((d, undef) :: e) R H) : XK N w0 (wpList P ops Q (⟨some d, op, ty, pos, aft, some (j, want)⟩ :: rest)) e R H := fun a w hr st => by
  have hw : Region.wanted (⟨some d, op, ty, pos, aft, some (j, want)⟩ : Oper) (yielded ops a.tmps) = false := by
    simp only [Region.wanted, yielded, hj, Option.bind_some, hr.get t _ ht]
    simp [undef]
  unfold wpList
  rw [if_neg (by rw [hw]; simp)]
  exact k _ _ (hr.put hd undef) st
end
/-- row k of a graph that a piece shows -/
theorem GrS.rowP {p : Piece} {A : Option Addr} {n : Nat} {g : List (List Int)} (h : GrS p A n g) {k : Nat} {l : List Int} (hk : g[k]? = some l) :
    ∃ b off B c, A = some ⟨b, off, none⟩ ∧ p.Z b ∧ p.w.cell? ⟨b, off + k, none⟩ = some (.slice B l.length c) ∧ SlS p 1 B l.length (intCells l) := by
  obtain ⟨rows, h1, h2, h3⟩ := h
  obtain ⟨r, hr, hR, hf⟩ := h1.get hk
  obtain ⟨B, m, c, rfl, hm, hs⟩ := hR
  have hlt : k < n := by
    rw [h2]
    rcases Nat.lt_or_ge k g.length with h | h
    · exact h
    · rw [List.getElem?_eq_none h] at hk; cases hk
  obtain ⟨b, off, hA, hz, hc⟩ := SlS.at_ h3 hlt
  subst hm
  refine ⟨b, off, B, c, hA, hz, ?_, hs⟩
  have h4 := hc 0 (.slice B l.length c) (by rw [hf 0 (by omega)]; rfl)
  rw [Nat.mul_one, Nat.add_zero] at h4
  exact h4
end Go.Proofs.Ytbgibbbggajgaaa
