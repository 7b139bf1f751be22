/- QuietLeaves, walked. -/
import Derived.Test.YtpcfhjcanpmgiaaDoorAlone
import Derived.Deep.RegionHeld3
namespace Go.Proofs.YtpcfhjcanpmgiaaDoor
open Go.RowKit

def doesE (s a : Int) : Int := if a = 0 then (askS s).2 else if a = 1 then (leaveS s).2 else 0
def doesS (s d a : Int) : Int × Int := if a = 0 then ((askS s).1, d) else if a = 1 then ((leaveS s).1, d) else tickS s d (decide (a = 3 ∨ a = 5)) (decide (3 < a))

set_option maxHeartbeats 400000 in
theorem does_any (g : Nat) (s d a : Int) (w : World) (h : Ch w g s d) (ha : 0 ≤ a) (ha5 : a < 6) (hd : 0 ≤ d) (hd2 : d ≤ 1000000) :
    Calls Tryd.prog 13 #[.pointer (some ⟨g, 0, none⟩), .int .i64 a] w fun e w' => e = .returned (.int .i64 (doesE s a)) ∧ PutCh w g (doesS s d a).1 (doesS s d a).2 w' := by
  have : a = 0 ∨ a = 1 ∨ a = 2 ∨ a = 3 ∨ a = 4 ∨ a = 5 := by omega
  rcases this with rfl | rfl | rfl | rfl | rfl | rfl
  · go_enter Tryd.func13, Tryd.ntmps13
    go_wp2_with fail
    refine (ask_any _ _ _ _ h).mono ?_
    rintro e w1 ⟨rfl, hp⟩
    go_wp2_with fail
    go_ret
    exact ⟨rfl, hp⟩
  · go_enter Tryd.func13, Tryd.ntmps13
    go_wp2_with fail
    refine (leave_any _ _ _ _ h).mono ?_
    rintro e w1 ⟨rfl, hp⟩
    go_wp2_with fail
    go_ret
    exact ⟨rfl, hp⟩
  all_goals
    go_enter Tryd.func13, Tryd.ntmps13
    go_wp2_with fail
    refine (tick_any _ _ _ _ _ _ h hd hd2).mono ?_
    rintro e w1 ⟨rfl, hp⟩
    go_wp2_with fail
    go_ret
    exact ⟨rfl, hp⟩

theorem doesS_bd (s d a : Int) (k : Int) (h0 : 0 ≤ s) (h3 : s ≤ 3) (hd : 0 ≤ d) (hk : d ≤ k) : 0 ≤ (doesS s d a).1 ∧ (doesS s d a).1 ≤ 3 ∧ 0 ≤ (doesS s d a).2 ∧ (doesS s d a).2 ≤ k + 1 := by
  simp only [doesS, askS, leaveS, tickS]
  split
  · split <;> simp <;> omega
  · split
    · split <;> simp <;> omega
    · split
      · split
        · simp; omega
        · split <;> simp <;> omega
      · simp; omega

/-- what is done to two channels of one state tells the same of both -/
theorem does_same (s d d' a : Int) (hd : d' ≤ d) : (doesS s d a).1 = (doesS s d' a).1 ∧ (doesS s d' a).2 ≤ (doesS s d a).2 := by
  simp only [doesS, askS, leaveS, tickS]
  split
  · exact ⟨rfl, hd⟩
  · split
    · exact ⟨rfl, hd⟩
    · split
      · split
        · simp; omega
        · split <;> simp; omega
      · exact ⟨rfl, hd⟩

theorem leave_ok {g : Nat} {s d : Int} {w : World} (h : Ch w g s d) (hs : s = 2 ∨ s = 3) :
    Calls Tryd.prog 12 #[.pointer (some ⟨g, 0, none⟩)] w fun e w' => e = .returned (.int .i64 0) ∧ PutCh w g 0 d w' := by
  have := leave_any g s d w h
  simpa [leaveS, hs] using this
theorem letter_ne {s : Int} (h : s ≠ 1) : letter s ≠ 97 := by
  unfold letter
  rw [if_neg h]
  split
  · decide
  · split <;> decide
/-- does the channel ask? (a measure) -/
def asks (w : World) (g : Nat) : Nat := (w.cell? ⟨g, 0, none⟩).elim 0 fun v => if intOf v = 1 then 1 else 0
theorem asks_one {w : World} {g : Nat} {d : Int} (h : Ch w g 1 d) : asks w g = 1 := by
  unfold asks
  rw [h.cell 0]
  rfl
theorem asks_two {w : World} {g : Nat} {d : Int} (h : Ch w g 2 d) : asks w g = 0 := by
  unfold asks
  rw [h.cell 0]
  rfl

set_option maxHeartbeats 1000000 in
theorem leaves_any (A1 A2 : Option Addr) (n1 n2 c1 c2 : Nat) (xs ys : List Int) (w : World) (hl : Letters w) (hx : Ints w A1 xs) (hy : Ints w A2 ys) (hn1 : n1 = xs.length) (hn2 : n2 = ys.length)
    (hm1 : n1 ≤ 9223372036854775807) (hm2 : n2 ≤ 9223372036854775807) :
    Calls Tryd.prog 4 #[.slice A1 n1 c1, .slice A2 n2 c2] w fun e w' => e = .returned (.bool true) ∧ Eff (fun _ => False) w w' := by
  have HN1 := Lib.hid hn1
  have HN2 := Lib.hid hn2
  clear hn1 hn2
  go_enter Tryd.func4, Tryd.ntmps4
  go_wp2_with fail
  refine (shown_any _ hl).mono ?_
  rintro e w1 ⟨rfl, he1⟩
  go_wp2_with fail
  refine (new_eff _).mono ?_
  rintro e w2 ⟨C, rfl, hC, hcC, he2⟩
  go_wp2_with fail
  refine (new_eff _).mono ?_
  rintro e w3 ⟨D, rfl, hD, hcD, he3⟩
  have hcC3 := hcC.eff he3 id
  have hCD : C < D := by have := hcC.lt; omega
  have heA := (he1.trans he2).trans he3
  have hwC : w.heap.size ≤ C := by have := he1.size; omega
  have hwD : w.heap.size ≤ D := by omega
  clear hcC he1 he2 he3
  by_cases hbig : 100 < n1
  · go_wp2_with fail
    go_ret
    exact ⟨rfl, heA⟩
  by_cases hbig2 : 100 < n2
  · go_wp2_with fail
    go_ret
    exact ⟨rfl, heA⟩
  have hb1 : decide ((100 : Int) < (n1 : Int)) = false := by simp; omega
  have hb2 : decide ((100 : Int) < (n2 : Int)) = false := by simp; omega
  go_wp2_with fail
  go_loopw [8] (fun i wr => ∃ k : Nat, ∃ s d : Int, i = .int .i64 k ∧ k ≤ n1 ∧ Ch wr C s d ∧ 0 ≤ s ∧ s ≤ 3 ∧ 0 ≤ d ∧ d ≤ k ∧ Ch wr D 0 0 ∧ Eff (fun _ => False) w wr) (fun i _ => n1 - (intOf i).toNat)
  case atStart => exact ⟨0, 0, 0, rfl, by omega, hcC3, by omega, by omega, by omega, by simp, hcD, heA⟩
  case round =>
    clear hcC3 hcD heA
    obtain ⟨k, s, d, rfl, hk, hcC, hs0, hs3, hd0, hdk, hcD, he⟩ := hrel
    have hxr := hx.eff he
    by_cases hlt : k < n1
    · obtain ⟨b, off, rfl, hb, hcell⟩ := hxr.at_ k (by have := HN1.out; omega)
      have hck := hcell k (by have := HN1.out; omega)
      have hbd := hx.bd k
      clear hcell hxr
      go_wp2_with fail
      refine (pick_any _ _ _ hbd.1 hbd.2 (by omega) (by omega)).mono ?_
      rintro e w' ⟨rfl, rfl⟩
      obtain ⟨hp0, hp1⟩ := pickI_bd (xs[k]?.getD 0) 6 (by omega)
      generalize pickI (xs[k]?.getD 0) 6 = a at *
      go_wp2_with fail
      refine (does_any _ _ _ _ _ hcC hp0 hp1 hd0 (by omega)).mono ?_
      rintro e w4 ⟨rfl, hp⟩
      have he4 := he.put hp (.inl hwC)
      have hcD4 := hcD.eff hp.eff (by omega)
      obtain ⟨b1, b2, b3, b4⟩ := doesS_bd s d a k hs0 hs3 hd0 hdk
      go_wp2_with fail
      go_roundw
      case rel => exact ⟨k + 1, _, _, by go_num, by omega, hp.blk, b1, b2, b3, by omega, hcD4, he4⟩
      case measure => simp [intOf]; omega
    · go_wp2_with fail
      go_loopw [57] (fun _ wr => ∃ s d : Int, Ch wr C s d ∧ 0 ≤ s ∧ s ≤ 3 ∧ 0 ≤ d ∧ d ≤ 100 ∧ Ch wr D 0 0 ∧ Eff (fun _ => False) w wr) (fun _ wr => asks wr C)
      case atStart => exact ⟨s, d, hcC, hs0, hs3, hd0, by omega, hcD, he⟩
      case round =>
        clear hcC hcD he hxr hs0 hs3 hd0 hdk s d
        obtain ⟨s, d, hcC, hs0, hs3, hd0, hdk, hcD, he⟩ := hrel
        have hl4 := hl.eff he id
        by_cases hs : s = 1
        · subst hs
          go_wp2_with fail
          refine (state_is 97 hcC hl4 hs0 hs3 rfl).mono ?_
          rintro e w' ⟨rfl, rfl⟩
          go_wp2_with fail
          refine (tick_stop _ _ _ hcC).mono ?_
          rintro e w4 ⟨rfl, hp⟩
          have he4 := he.put hp (.inl hwC)
          have hcD4 := hcD.eff hp.eff (by omega)
          have hm1 := asks_one hcC
          have hm2 := asks_two hp.blk
          go_wp2_with fail
          go_roundw
          case rel => exact ⟨_, _, hp.blk, by omega, by omega, by omega, by omega, hcD4, he4⟩
          case measure => rw [hm1, hm2]; omega
        · have hs97 := letter_ne hs
          go_wp2_with fail
          refine (state_any _ _ _ _ hcC hl4 hs0 hs3).mono ?_
          rintro e w' ⟨rfl, rfl⟩
          have hs97' : (letter s == 97) = false := by simpa using hs97
          go_wp2_with fail
          clear hs97 hs97'
          have hs023 : s = 0 ∨ s = 2 ∨ s = 3 := by omega
          rcases hs023 with rfl | rfl | rfl
          focus
            refine (state_is 114 hcC hl4 hs0 hs3 rfl).mono ?_
            rintro e w5 ⟨rfl, rfl⟩
            have hcC5 := hcC
            have hcD5 := hcD
            have he5 := he
            go_wp2_with fail
          rotate_left
          focus
            refine (state_is 115 hcC hl4 hs0 hs3 rfl).mono ?_
            rintro e w' ⟨rfl, rfl⟩
            go_wp2_with fail
            refine (leave_ok hcC (by decide)).mono ?_
            rintro e w5 ⟨rfl, hp⟩
            have he5 := he.put hp (.inl hwC)
            have hcD5 := hcD.eff hp.eff (by omega)
            have hcC5 := hp.blk
            clear hp
            go_wp2_with fail
          rotate_left
          focus
            refine (state_is 100 hcC hl4 hs0 hs3 rfl).mono ?_
            rintro e w' ⟨rfl, rfl⟩
            go_wp2_with fail
            refine (leave_ok hcC (by decide)).mono ?_
            rintro e w5 ⟨rfl, hp⟩
            have he5 := he.put hp (.inl hwC)
            have hcD5 := hcD.eff hp.eff (by omega)
            have hcC5 := hp.blk
            clear hp
            go_wp2_with fail
          rotate_left
          all_goals
            clear hcC hcD he hl4 hs
            go_loopw [9] (fun i wr => ∃ k : Nat, ∃ s d d' : Int, i = .int .i64 k ∧ k ≤ n2 ∧ Ch wr C s d ∧ 0 ≤ s ∧ s ≤ 3 ∧ 0 ≤ d' ∧ d' ≤ d ∧ d ≤ 100 + k ∧ Ch wr D s d' ∧ Eff (fun _ => False) w wr) (fun i _ => n2 - (intOf i).toNat)
            case atStart => exact ⟨0, 0, d, 0, rfl, by omega, hcC5, by omega, by omega, by omega, by omega, by simpa using hdk, hcD5, he5⟩
            case round =>
              clear hcC5 hcD5 he5 hs0 hs3 hd0 hdk d
              obtain ⟨j, s, d, d', rfl, hj, hcC, hs0, hs3, hd0, hdd, hdk, hcD, he⟩ := hrel
              have hyr := hy.eff he
              by_cases hlt2 : j < n2
              · obtain ⟨b, off, rfl, hb, hcell⟩ := hyr.at_ j (by have := HN2.out; omega)
                have hck := hcell j (by have := HN2.out; omega)
                have hbd := hy.bd j
                have hbw : b < w.heap.size := by
                  obtain ⟨b2, off2, e2, hb2, _⟩ := hy.at_ j (by have := HN2.out; omega)
                  injection e2 with e2
                  injection e2 with e2
                  omega
                clear hcell hyr hb
                obtain ⟨hp0, hp1⟩ := pickI_bd (ys[j]?.getD 0) 6 (by omega)
                generalize ys[j]?.getD 0 = z at *
                obtain ⟨a, ha⟩ : ∃ a, pickI z 6 = a := ⟨_, rfl⟩
                rw [ha] at hp0 hp1
                have HPK := Lib.hid ha
                clear ha
                obtain ⟨b1, b2, b3, b4⟩ := doesS_bd s d a (100 + j) hs0 hs3 (by omega) hdk
                obtain ⟨e1, e2⟩ := does_same s d d' a hdd
                obtain ⟨b5, b6, b7, b8⟩ := doesS_bd s d' a (100 + j) hs0 hs3 (by omega) (by omega)
                have E1 := Lib.hid e1
                clear e1
                go_wp2_with fail
                have gcC : Ch wr.drew C s d := hcC
                have gcD : Ch wr.drew D s d' := hcD
                have gck : wr.drew.cell? ⟨b, off + j, none⟩ = some (.int .i64 z) := hck
                have ge := he.drew
                have gl := hl.eff ge id
                clear hcC hcD hck he
                go_region_held3 (fun w' => w'.cell? ⟨b, off + j, none⟩ = some (.int .i64 z)) (first | assumption | go_keep)
                  (first
                    | (go_at_call 7; refine (pick_any _ _ _ hbd.1 hbd.2 (by omega) (by omega)).mono ?_; rw [HPK.out]; rintro e w6 ⟨rfl, rfl⟩)
                    | (go_at_call_of 13 (Value.pointer (some ⟨C, 0, none⟩)); refine (does_any _ _ _ _ _ gcC hp0 hp1 (by omega) (by omega)).mono ?_; rintro e w6 ⟨rfl, hp⟩; have hcD6 := gcD.eff hp.eff (by omega); have hcC6 := hp.blk; have ge6 := ge.put hp (.inl hwC); have gck6 := (World.cell?_of_block (a := ⟨b, off + j, none⟩) (hp.eff.block b (by have := ge.size; omega) (by omega))).trans gck)
                    | (go_at_call_of 13 (Value.pointer (some ⟨D, 0, none⟩)); refine (does_any _ _ _ _ _ hcD6 hp0 hp1 (by omega) (by omega)).mono ?_; rintro e w7 ⟨rfl, hq⟩; have hcC7 := hcC6.eff hq.eff (by omega); rw [E1.out] at hcC7; have hcD7 := hq.blk; have ge7 := ge6.put hq (.inl hwD); have gck7 := (World.cell?_of_block (a := ⟨b, off + j, none⟩) (hq.eff.block b (by have := ge6.size; omega) (by omega))).trans gck6)
                    | (go_at_call_of 9 (Value.pointer (some ⟨C, 0, none⟩)); refine (state_any _ _ _ _ hcC7 (hl.eff ge7 id) (by omega) (by omega)).mono ?_; rintro e w' ⟨rfl, rfl⟩)
                    | (go_at_call_of 9 (Value.pointer (some ⟨D, 0, none⟩)); refine (state_any _ _ _ _ hcD7 (hl.eff ge7 id) (by omega) (by omega)).mono ?_; rintro e w' ⟨rfl, rfl⟩)
                    | (go_at_call_of 10 (Value.pointer (some ⟨C, 0, none⟩)); refine (denied_any _ _ _ _ hcC7).mono ?_; rintro e w' ⟨rfl, rfl⟩)
                    | (go_at_call_of 10 (Value.pointer (some ⟨D, 0, none⟩)); refine (denied_any _ _ _ _ hcD7).mono ?_; rintro e w' ⟨rfl, rfl⟩))
                go_wp2_with fail
                go_roundw
                case rel => exact ⟨j + 1, _, _, _, by go_num, by omega, hcC7, b5, b6, b7, e2, by omega, hcD7, ge7⟩
                case measure => simp [intOf]; omega
              · go_wp2_with fail
                go_ret
                exact ⟨rfl, he⟩
end Go.Proofs.YtpcfhjcanpmgiaaDoor
