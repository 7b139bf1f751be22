/- QuietAlone, walked. -/
import Derived.Test.YtpcfhjcanpmgiaaDoorQuiet
namespace Go.Proofs.YtpcfhjcanpmgiaaDoor
open Go.RowKit

theorem new_eff (w : World) : Calls Tryd.prog 6 #[] w fun e w' => ∃ g, e = .returned (.pointer (some ⟨g, 0, none⟩)) ∧ w.heap.size ≤ g ∧ Ch w' g 0 0 ∧ Eff (fun _ => False) w w' :=
  (new_any w).mono fun _ _ ⟨he, hw⟩ => ⟨w.heap.size, he, Nat.le_refl _, by subst hw; exact Blk.new _ _ _, by subst hw; exact (Eff.refl _ _).alloc _⟩
theorem Letters.lt {w : World} (h : Letters w) : 0 < w.heap.size := World.block_lt_of_cell? _ _ h.1
theorem Letters.eff {w w' : World} {F : Nat → Prop} (h : Letters w) (he : Eff F w w') (hF : ¬ F 0) : Letters w' := by
  have hb := he.block 0 h.lt hF
  obtain ⟨a, b, c, d⟩ := h
  exact ⟨(World.cell?_of_block (w := w) hb).trans a, (World.cell?_of_block (w := w) hb).trans b, (World.cell?_of_block (w := w) hb).trans c, (World.cell?_of_block (w := w) hb).trans d⟩
theorem state_is {g : Nat} {s d : Int} {w : World} (c : Int) (h : Ch w g s d) (hl : Letters w) (h0 : 0 ≤ s) (h3 : s ≤ 3) (hc : letter s = c) :
    Calls Tryd.prog 9 #[.pointer (some ⟨g, 0, none⟩)] w fun e w' => e = .returned (.int .u8 c) ∧ w = w' := hc ▸ state_any g s d w h hl h0 h3
theorem ask_ok {g : Nat} {d : Int} {w : World} (h : Ch w g 0 d) :
    Calls Tryd.prog 11 #[.pointer (some ⟨g, 0, none⟩)] w fun e w' => e = .returned (.int .i64 0) ∧ PutCh w g 1 d w' := ask_any g 0 d w h
theorem leave_no {g : Nat} {d : Int} {w : World} (h : Ch w g 1 d) :
    Calls Tryd.prog 12 #[.pointer (some ⟨g, 0, none⟩)] w fun e w' => e = .returned (.int .i64 6) ∧ PutCh w g 1 d w' := leave_any g 1 d w h
theorem tick_run {g : Nat} {d : Int} {w : World} (x y : Bool) (h : Ch w g 0 d) :
    Calls Tryd.prog 8 #[.pointer (some ⟨g, 0, none⟩), .bool x, .bool y] w fun e w' => e = .returned (.tuple #[]) ∧ PutCh w g 0 d w' := tick_no g 0 d w x y h rfl

set_option maxHeartbeats 400000 in
theorem shown_any (w : World) (hl : Letters w) : Calls Tryd.prog 5 #[] w fun e w' => e = .returned (.bool true) ∧ Eff (fun _ => False) w w' := by
  go_enter Tryd.func5, Tryd.ntmps5
  go_wp2_with fail
  refine (new_eff _).mono ?_
  rintro e w1 ⟨g, rfl, hg, hc, he⟩
  have hl1 := hl.eff he id
  have hlt := hl.lt
  go_wp2_with fail
  refine (state_is 114 hc hl1 (by omega) (by omega) rfl).mono ?_
  rintro e w' ⟨rfl, rfl⟩
  go_wp2_with fail
  refine (ask_ok hc).mono ?_
  rintro e w2 ⟨rfl, hp2⟩
  have he2 := he.put hp2 (.inl hg)
  go_wp2_with fail
  refine (tick_stop _ _ _ hp2.blk).mono ?_
  rintro e w3 ⟨rfl, hp3⟩
  have he3 := he2.put hp3 (.inl hg)
  go_wp2_with fail
  refine (state_is 115 hp3.blk (hl.eff he3 id) (by omega) (by omega) rfl).mono ?_
  rintro e w' ⟨rfl, rfl⟩
  go_wp2_with fail
  go_ret
  exact ⟨rfl, he3⟩

theorem pickI_bd (c n : Int) (h3 : 1 ≤ n) : 0 ≤ pickI c n ∧ pickI c n < n := by
  unfold pickI
  split
  · exact ⟨Int.emod_nonneg _ (by omega), Int.emod_lt_of_pos _ (by omega)⟩
  · exact ⟨Int.emod_nonneg _ (by omega), Int.emod_lt_of_pos _ (by omega)⟩

set_option maxHeartbeats 1000000 in
theorem alone_any (c1 c2 : Int) (w : World) (hl : Letters w) (h1 : -9223372036854775808 ≤ c1) (h2 : c1 ≤ 9223372036854775807) (h3 : -9223372036854775808 ≤ c2) (h4 : c2 ≤ 9223372036854775807) :
    Calls Tryd.prog 3 #[.int .i64 c1, .int .i64 c2] w fun e w' => e = .returned (.bool true) ∧ Eff (fun _ => False) w w' := by
  go_enter Tryd.func3, Tryd.ntmps3
  go_wp2_with fail
  refine (shown_any _ hl).mono ?_
  rintro e w1 ⟨rfl, he1⟩
  go_wp2_with fail
  refine (new_eff _).mono ?_
  rintro e w2 ⟨A, rfl, hA, hcA, he2⟩
  go_wp2_with fail
  refine (new_eff _).mono ?_
  rintro e w3 ⟨B, rfl, hB, hcB, he3⟩
  have hcA3 := hcA.eff he3 id
  have hAB : A < B := by have := hcA.lt; omega
  have heA := (he1.trans he2).trans he3
  have hwA : w.heap.size ≤ A := by have := he1.size; omega
  have hwB : w.heap.size ≤ B := by omega
  clear hcA he1 he2 he3
  have hl3 := hl.eff heA id
  go_wp2_with fail
  refine (pick_any _ _ _ h1 h2 (by omega) (by omega)).mono ?_
  rintro e w' ⟨rfl, rfl⟩
  obtain ⟨hn0, hn1⟩ := pickI_bd c1 40 (by omega)
  generalize pickI c1 40 = n at *
  go_wp2_with fail
  refine (pick_any _ _ _ h3 h4 (by omega) (by omega)).mono ?_
  rintro e w' ⟨rfl, rfl⟩
  obtain ⟨hm0, hm1⟩ := pickI_bd c2 40 (by omega)
  generalize pickI c2 40 = m at *
  go_wp2_with fail
  go_loopw [10] (fun i wr => ∃ k : Int, i = .int .i64 k ∧ 0 ≤ k ∧ k ≤ m ∧ Ch wr A 0 0 ∧ Ch wr B 0 0 ∧ Eff (fun _ => False) w wr) (fun i _ => (m - intOf i).toNat)
  case atStart => exact ⟨0, rfl, by omega, hm0, hcA3, hcB, heA⟩
  case round =>
    clear hcA3 hcB heA hl3
    obtain ⟨k, rfl, hk0, hk1, hcA, hcB, he⟩ := hrel
    by_cases hlt : k < m
    · go_wp2_with fail
      refine (tick_run _ _ hcA).mono ?_
      rintro e w4 ⟨rfl, hp⟩
      have he4 := he.put hp (.inl hwA)
      have hcB4 := hcB.eff hp.eff (by omega)
      go_wp2_with fail
      go_roundw
      case rel => exact ⟨k + 1, by go_num, by omega, by omega, hp.blk, hcB4, he4⟩
      case measure => simp [intOf]; omega
    · have hl4 := hl.eff he id
      go_wp2_with fail
      refine (state_is 114 hcA hl4 (by omega) (by omega) rfl).mono ?_
      rintro e w' ⟨rfl, rfl⟩
      go_wp2_with fail
      refine (denied_any _ _ _ _ hcA).mono ?_
      rintro e w' ⟨rfl, rfl⟩
      go_wp2_with fail
      refine (ask_ok hcA).mono ?_
      rintro e w4 ⟨rfl, hp⟩
      have he4 := he.put hp (.inl hwA)
      have hcB4 := hcB.eff hp.eff (by omega)
      have hcA4 := hp.blk
      clear hp hcA hcB he hl4
      go_wp2_with fail
      go_loopw [11] (fun i wr => ∃ k : Int, i = .int .i64 k ∧ 0 ≤ k ∧ k ≤ n ∧ Ch wr A 1 0 ∧ Ch wr B 0 0 ∧ Eff (fun _ => False) w wr) (fun i _ => (n - intOf i).toNat)
      case atStart => exact ⟨0, rfl, by omega, hn0, hcA4, hcB4, he4⟩
      case round =>
        clear hcA4 hcB4 he4
        obtain ⟨j, rfl, hj0, hj1, hcA, hcB, he⟩ := hrel
        by_cases hlt : j < n
        · go_wp2_with fail
          refine (tick_on _ _ _ hcA).mono ?_
          rintro e w4 ⟨rfl, hp⟩
          have he4 := he.put hp (.inl hwA)
          have hcB4 := hcB.eff hp.eff (by omega)
          go_wp2_with fail
          refine (tick_run _ _ hcB4).mono ?_
          rintro e w5 ⟨rfl, hq⟩
          have he5 := he4.put hq (.inl hwB)
          have hcA5 := Blk.eff hp.blk hq.eff (by omega)
          go_wp2_with fail
          go_roundw
          case rel => exact ⟨j + 1, by go_num, by omega, by omega, hcA5, hq.blk, he5⟩
          case measure => simp [intOf]; omega
        · go_wp2_with fail
          refine (state_is 97 hcA (hl.eff he id) (by omega) (by omega) rfl).mono ?_
          rintro e w' ⟨rfl, rfl⟩
          go_wp2_with fail
          refine (state_is 114 hcB (hl.eff he id) (by omega) (by omega) rfl).mono ?_
          rintro e w' ⟨rfl, rfl⟩
          go_wp2_with fail
          refine (tick_stop _ _ _ hcA).mono ?_
          rintro e w4 ⟨rfl, hp⟩
          have he4 := he.put hp (.inl hwA)
          have hcB4 := hcB.eff hp.eff (by omega)
          go_wp2_with fail
          refine (state_is 115 hp.blk (hl.eff he4 id) (by omega) (by omega) rfl).mono ?_
          rintro e w' ⟨rfl, rfl⟩
          go_wp2_with fail
          refine (state_is 114 hcB4 (hl.eff he4 id) (by omega) (by omega) rfl).mono ?_
          rintro e w' ⟨rfl, rfl⟩
          go_wp2_with fail
          refine (ask_ok hcB4).mono ?_
          rintro e w5 ⟨rfl, hq⟩
          have he5 := he4.put hq (.inl hwB)
          have hcA5 := Blk.eff hp.blk hq.eff (by omega)
          go_wp2_with fail
          refine (state_is 97 hq.blk (hl.eff he5 id) (by omega) (by omega) rfl).mono ?_
          rintro e w' ⟨rfl, rfl⟩
          go_wp2_with fail
          refine (state_is 115 hcA5 (hl.eff he5 id) (by omega) (by omega) rfl).mono ?_
          rintro e w' ⟨rfl, rfl⟩
          go_wp2_with fail
          refine (leave_no hq.blk).mono ?_
          rintro e w6 ⟨rfl, hr⟩
          have he6 := he5.put hr (.inl hwB)
          go_wp2_with fail
          go_ret
          exact ⟨rfl, he6⟩
end Go.Proofs.YtpcfhjcanpmgiaaDoor
