/- What the makers of descriptions need: numbers that are drawn. -/
import Derived.Test.YtbgibbbggajgaaaDraw
import Derived.Test.YtbgibbbggajgaaaSoc
import Derived.KernelRfl
namespace Go.Proofs.Ytbgibbbggajgaaa
set_option linter.all false
open Go.RowKit

theorem tdiv_bd {z d lo hi : Int} (hd : 1 ≤ d) (hlo : lo ≤ 0) (hhi : 0 ≤ hi) (h : lo ≤ z ∧ z ≤ hi) : lo ≤ z.tdiv d ∧ z.tdiv d ≤ hi := by
  obtain ⟨d, rfl⟩ : ∃ e : Nat, d = e := ⟨d.toNat, by omega⟩
  rcases z with m | m
  · have h1 : Int.tdiv (Int.ofNat m) (d : Int) = ((m / d : Nat) : Int) := rfl
    have h2 : m / d ≤ m := Nat.div_le_self _ _
    have h3 : (Int.ofNat m : Int) = (m : Int) := rfl
    rw [h1]
    generalize m / d = q at *
    omega
  · have h1 : Int.tdiv (Int.negSucc m) (d : Int) = -(((m + 1) / d : Nat) : Int) := rfl
    have h2 : (m + 1) / d ≤ m + 1 := Nat.div_le_self _ _
    have h3 : (Int.negSucc m : Int) = -((m : Int) + 1) := rfl
    rw [h1]
    generalize (m + 1) / d = q at *
    omega
/-- the drawn numbers -/
def Draw (ds : List Int) : Prop := ds.length = 120 ∧ ∀ k : Nat, 0 ≤ ds[k]?.getD 0 ∧ ds[k]?.getD 0 < 1000000
theorem Draw.zero : Draw (List.replicate 120 0) := ⟨by simp, fun k => by rw [List.getElem?_replicate]; split <;> simp⟩
theorem Draw.set_ {ds : List Int} (h : Draw ds) (i : Nat) {r : Int} (h0 : 0 ≤ r) (h1 : r < 1000000) : Draw (ds.set i r) :=
  ⟨by simp [h.1], fun k => by
    rw [List.getElem?_set]
    split
    · split
      · simp; omega
      · simp
    · exact h.2 k⟩
/-- number k -/
def dv (ds : List Int) (k : Nat) : Int := ds[k]?.getD 0
theorem Draw.at_ {ds : List Int} (h : Draw ds) (k : Nat) (hk : k < 120) : (intCells ds)[k]? = some (.int .i64 (dv ds k)) := intCells_get ds k (by rw [h.1]; exact hk)
theorem Draw.bd {ds : List Int} (h : Draw ds) (k : Nat) : 0 ≤ dv ds k ∧ dv ds k < 1000000 := h.2 k
/-- slices in a picture -/
def slq (q : Piece) : SlP := fun _ sz A n xs => SlS q sz A n xs
theorem slq_le {p q : Piece} (h : p.Le q) : ∀ t sz A n xs, slq p t sz A n xs → slq q t sz A n xs := fun _ _ _ _ _ k => SlS.le k h
theorem tmod_neg_bd {a n : Int} (ha : a ≤ 0) (hn : 0 < n) : 0 ≤ -(a.tmod n) ∧ -(a.tmod n) < n := by
  rw [← Int.neg_tmod, Int.tmod_eq_emod_of_nonneg (by omega)]
  exact ⟨Int.emod_nonneg _ (by omega), Int.emod_lt_of_pos _ hn⟩
theorem kinds_at {q : Nat} (h : q < 5) : ∃ b : UInt8, (⟨#[112, 100, 103, 109, 103]⟩ : ByteArray)[q]? = some b ∧ (b.toNat = 112 ∨ b.toNat = 100 ∨ b.toNat = 103 ∨ b.toNat = 109) := by
  match q, h with
  | 0, _ => exact ⟨112, rfl, by decide⟩
  | 1, _ => exact ⟨100, rfl, by decide⟩
  | 2, _ => exact ⟨103, rfl, by decide⟩
  | 3, _ => exact ⟨109, rfl, by decide⟩
  | 4, _ => exact ⟨103, rfl, by decide⟩
theorem emod_bd (a : Int) {n : Int} (hn : 0 < n) : 0 ≤ a % n ∧ a % n < n := ⟨Int.emod_nonneg _ (by omega), Int.emod_lt_of_pos _ hn⟩

end Go.Proofs.Ytbgibbbggajgaaa
