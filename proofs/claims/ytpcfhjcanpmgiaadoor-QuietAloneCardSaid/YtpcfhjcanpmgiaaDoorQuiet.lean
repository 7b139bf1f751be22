/- The channel's methods, each walked once. -/
import Derived.Test.YtpcfhjcanpmgiaaDoorBase
namespace Go.Proofs.YtpcfhjcanpmgiaaDoor
open Go.RowKit

/-- a channel's block -/
def Ch (w : World) (g : Nat) (s d : Int) : Prop := Blk w g 36 #[.int .i64 s, .int .i64 d]
def PutCh (w : World) (g : Nat) (s d : Int) (w' : World) : Prop := Put w g 36 #[.int .i64 s, .int .i64 d] w'
theorem PutCh.same {w : World} {g : Nat} {s d : Int} (h : Ch w g s d) : PutCh w g s d w := ⟨Eff.refl _ _, rfl, h⟩
theorem PutCh.set0 {w w' : World} {g : Nat} {s d : Int} (h : PutCh w g s d w') (s' : Int) : PutCh w g s' d (w'.setCell ⟨g, 0, none⟩ (.int .i64 s')) :=
  ⟨h.eff.setCell (.inl rfl) _, by simp [h.size], by simpa using h.blk.set_ 0 (.int .i64 s')⟩
theorem PutCh.set1 {w w' : World} {g : Nat} {s d : Int} (h : PutCh w g s d w') (d' : Int) : PutCh w g s d' (w'.setCell ⟨g, 1, none⟩ (.int .i64 d')) :=
  ⟨h.eff.setCell (.inl rfl) _, by simp [h.size], by simpa using h.blk.set_ 1 (.int .i64 d')⟩

/-- what a tick makes of state and count -/
def tickS (s d : Int) (x y : Bool) : Int × Int := if s = 1 then (if y then (3, d + 1) else if x then (s, d) else (2, 0)) else (s, d)

section
variable (g : Nat) (s d : Int) (w : World)
set_option maxHeartbeats 400000 in
theorem tick_no (x y : Bool) (h : Ch w g s d) (hs : (s != 1) = true) :
    Calls Tryd.prog 8 #[.pointer (some ⟨g, 0, none⟩), .bool x, .bool y] w fun e w' => e = .returned (.tuple #[]) ∧ PutCh w g s d w' := by
  have h0 := h.cell 0
  simp at h0
  go_enter Tryd.func8, Tryd.ntmps8
  go_wp2
  refine bodyPost_ret (results_none rfl _ _ _) rfl ?_
  exact ⟨rfl, .same h⟩
set_option maxHeartbeats 400000 in
theorem tick_deny (x : Bool) (h : Ch w g 1 d) (hd : 0 ≤ d) (hd2 : d ≤ 1000000) :
    Calls Tryd.prog 8 #[.pointer (some ⟨g, 0, none⟩), .bool x, .bool true] w fun e w' => e = .returned (.tuple #[]) ∧ PutCh w g 3 (d + 1) w' := by
  have h0 := h.cell 0
  have h1 := h.cell 1
  simp at h0 h1
  have hf := fun i => h.frozen i
  have h1' : (w.setCell ⟨g, 0, none⟩ (.int .i64 3)).cell? ⟨g, 1, none⟩ = some (.int .i64 d) := by simpa using (h.set_ 0 (.int .i64 3)).cell 1
  go_enter Tryd.func8, Tryd.ntmps8
  go_wp2
  go_end0
  exact ⟨rfl, ((PutCh.same h).set0 3).set1 (d + 1)⟩
set_option maxHeartbeats 400000 in
theorem tick_stop (h : Ch w g 1 d) :
    Calls Tryd.prog 8 #[.pointer (some ⟨g, 0, none⟩), .bool false, .bool false] w fun e w' => e = .returned (.tuple #[]) ∧ PutCh w g 2 0 w' := by
  have h0 := h.cell 0
  have h1 := h.cell 1
  simp at h0 h1
  have hf := fun i => h.frozen i
  have h1' : (w.setCell ⟨g, 0, none⟩ (.int .i64 2)).cell? ⟨g, 1, none⟩ = some (.int .i64 d) := by simpa using (h.set_ 0 (.int .i64 2)).cell 1
  go_enter Tryd.func8, Tryd.ntmps8
  go_wp2
  go_end0
  exact ⟨rfl, ((PutCh.same h).set0 2).set1 0⟩
set_option maxHeartbeats 400000 in
theorem tick_on (h : Ch w g 1 d) :
    Calls Tryd.prog 8 #[.pointer (some ⟨g, 0, none⟩), .bool true, .bool false] w fun e w' => e = .returned (.tuple #[]) ∧ PutCh w g 1 d w' := by
  have h0 := h.cell 0
  simp at h0
  go_enter Tryd.func8, Tryd.ntmps8
  go_wp2
  go_end0
  exact ⟨rfl, .same h⟩
/-- Tick, whatever it is told. -/
theorem tick_any (x y : Bool) (h : Ch w g s d) (hd : 0 ≤ d) (hd2 : d ≤ 1000000) :
    Calls Tryd.prog 8 #[.pointer (some ⟨g, 0, none⟩), .bool x, .bool y] w fun e w' => e = .returned (.tuple #[]) ∧ PutCh w g (tickS s d x y).1 (tickS s d x y).2 w' := by
  by_cases hs : s = 1
  · subst hs
    cases y
    · cases x
      · simpa [tickS] using tick_stop g d w h
      · simpa [tickS] using tick_on g d w h
    · simpa [tickS] using tick_deny g d w x h hd hd2
  · simpa [tickS, hs] using tick_no g s d w x y h (by simpa using hs)

/-- New: a channel that runs, in a block of its own. -/
theorem new_any : Calls Tryd.prog 6 #[] w fun e w' => e = .returned (.pointer (some ⟨w.heap.size, 0, none⟩)) ∧ w' = w.alloc (.cells #[.int .i64 0, .int .i64 0] 36) := by
  go_enter Tryd.func6, Tryd.ntmps6
  go_wp2
  go_ret
  exact ⟨rfl, rfl⟩

theorem ret_int {k : IntKind} {a b : Int} (h : a = b) : Ending.returned (.int k a) = .returned (.int k b) := by rw [h]
/-- pick -/
def pickI (c n : Int) : Int := if c < 0 then (-(c + 1)) % n else c % n
set_option maxHeartbeats 400000 in
theorem pick_any (c n : Int) (h1 : -9223372036854775808 ≤ c) (h2 : c ≤ 9223372036854775807) (h3 : 1 ≤ n) (h4 : n ≤ 1000000000) :
    Calls Tryd.prog 7 #[.int .i64 c, .int .i64 n] w fun e w' => e = .returned (.int .i64 (pickI c n)) ∧ w = w' := by
  by_cases hc : c < 0
  · go_enter Tryd.func7, Tryd.ntmps7
    go_wp2
    go_ret
    exact ⟨ret_int (by rw [pickI, if_pos (by omega), ← Int.neg_tmod]; exact Int.tmod_eq_emod_of_nonneg (by omega)), rfl⟩
  · go_enter Tryd.func7, Tryd.ntmps7
    go_wp2
    go_ret
    exact ⟨ret_int (by rw [pickI, if_neg (by omega)]), rfl⟩

def askS (s : Int) : Int × Int := if s = 0 then (1, 0) else (s, 6)
def leaveS (s : Int) : Int × Int := if s = 2 ∨ s = 3 then (0, 0) else (s, 6)
set_option maxHeartbeats 400000 in
theorem ask_any (h : Ch w g s d) :
    Calls Tryd.prog 11 #[.pointer (some ⟨g, 0, none⟩)] w fun e w' => e = .returned (.int .i64 (askS s).2) ∧ PutCh w g (askS s).1 d w' := by
  have h0 := h.cell 0
  simp at h0
  have hf := fun i => h.frozen i
  by_cases hs : s = 0
  · subst hs
    go_enter Tryd.func11, Tryd.ntmps11
    go_wp2
    go_ret
    exact ⟨rfl, (PutCh.same h).set0 1⟩
  · have hs' : (s != 0) = true := by simpa using hs
    simp only [askS, hs, if_false]
    go_enter Tryd.func11, Tryd.ntmps11
    go_wp2
    go_ret
    exact ⟨rfl, .same h⟩
set_option maxHeartbeats 400000 in
theorem leave_any (h : Ch w g s d) :
    Calls Tryd.prog 12 #[.pointer (some ⟨g, 0, none⟩)] w fun e w' => e = .returned (.int .i64 (leaveS s).2) ∧ PutCh w g (leaveS s).1 d w' := by
  have h0 := h.cell 0
  simp at h0
  have hf := fun i => h.frozen i
  by_cases hs : s = 2
  · subst hs
    go_enter Tryd.func12, Tryd.ntmps12
    go_wp2
    go_ret
    exact ⟨rfl, (PutCh.same h).set0 0⟩
  · by_cases hs3 : s = 3
    · subst hs3
      go_enter Tryd.func12, Tryd.ntmps12
      go_wp2
      go_ret
      exact ⟨rfl, (PutCh.same h).set0 0⟩
    · have hs' : (s != 2) = true := by simpa using hs
      have hs3' : (s != 3) = true := by simpa using hs3
      simp only [leaveS, hs, hs3, or_self, if_false]
      go_enter Tryd.func12, Tryd.ntmps12
      go_wp2
      go_ret
      exact ⟨rfl, .same h⟩
theorem denied_any (h : Ch w g s d) :
    Calls Tryd.prog 10 #[.pointer (some ⟨g, 0, none⟩)] w fun e w' => e = .returned (.int .i64 d) ∧ w = w' := by
  have h1 := h.cell 1
  simp at h1
  go_enter Tryd.func10, Tryd.ntmps10
  go_wp2
  go_ret
  exact ⟨rfl, rfl⟩
/-- the table of letters -/
def Letters (w : World) : Prop := w.cell? ⟨0, 0, none⟩ = some (.int .u8 114) ∧ w.cell? ⟨0, 1, none⟩ = some (.int .u8 97) ∧ w.cell? ⟨0, 2, none⟩ = some (.int .u8 115) ∧ w.cell? ⟨0, 3, none⟩ = some (.int .u8 100)
def letter (s : Int) : Int := if s = 0 then 114 else if s = 1 then 97 else if s = 2 then 115 else 100
theorem state_any (h : Ch w g s d) (hl : Letters w) (h0 : 0 ≤ s) (h3 : s ≤ 3) :
    Calls Tryd.prog 9 #[.pointer (some ⟨g, 0, none⟩)] w fun e w' => e = .returned (.int .u8 (letter s)) ∧ w = w' := by
  have hc := h.cell 0
  simp at hc
  obtain ⟨l0, l1, l2, l3⟩ := hl
  have : s = 0 ∨ s = 1 ∨ s = 2 ∨ s = 3 := by omega
  rcases this with rfl | rfl | rfl | rfl
  all_goals
    go_enter Tryd.func9, Tryd.ntmps9
    go_wp2
    go_ret
    exact ⟨rfl, rfl⟩
end
end Go.Proofs.YtpcfhjcanpmgiaaDoor
