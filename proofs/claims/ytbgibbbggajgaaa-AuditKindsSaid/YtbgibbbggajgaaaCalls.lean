/- calls: the iterator that goes through those events that begin or end a call of a task from 0 to 2; it ranges over each. -/
import Derived.Test.YtbgibbbggajgaaaLook
namespace Go.Proofs.Ytbgibbbggajgaaa
set_option linter.all false
open Go.RowKit Go.Shelf
attribute [local go_sem] Oper.semAt_some

/-- is it one of those? -/
def sel (e : Ev) : Bool := (e.kind == 98 || e.kind == 101) && decide (0 ≤ e.task ∧ e.task < 3)
def selAt (evs : List Ev) (x : Fin evs.length) : Bool := sel evs[x]

set_option maxHeartbeats 1000000 in
theorem calls_any (A : Option Addr) (n cap : Nat) (w : World) :
    Calls Try.prog 41 #[.slice A n cap] w fun e w' => e = .returned (.func (.func 64) #[] #[.pointer (some ⟨w.heap.size, 0, none⟩)]) ∧ w' = w.alloc (.cells #[.slice A n cap] 22) := by
  go_enter Try.func41, Try.ntmps41
  go_wp2
  go_ret
  exact ⟨rfl, rfl⟩

set_option maxRecDepth 100000 in
set_option maxHeartbeats 2000000 in
theorem calls1_in (l Bs n₀ B₁ B₂ b off cap : Nat) (A : Option Addr) (evs : List Ev) (hA : 0 < evs.length → A = some ⟨b, off, none⟩) (hb : evs.length ≤ 9223372036854775807) (J Jx : List (Fin evs.length) → World → Prop)
    (W : World) (hbB : 0 < evs.length → b < n₀) (hcells : ∀ x : Fin evs.length, EvAt W b (off + x.1 * 14) evs[x]) (hn₀ : n₀ ≤ W.heap.size)
    (hBs : Blk W Bs 22 #[.slice A evs.length cap]) (hB : B₁ ≤ Bs) (hB2 : B₂ ≤ W.heap.size)
    (hJ : OwnFrom W.heap.size J) (hJx : OwnFrom W.heap.size Jx)
    (hY : ∀ pre x W, selAt evs x = true → J pre W → pre.length < evs.length → YieldAt Fence.wide 9 Try.prog l (evEnc b off evs.length x) W fun e W' =>
      (e = .returned (.bool true) ∧ J (pre ++ [x]) W' ∧ Keeps n₀ B₁ B₂ W W') ∨ (e = .returned (.bool false) ∧ Jx (pre ++ [x]) W' ∧ KeepsFrom B₂ W W'))
    (h0 : J [] W) :
    CallsIn Fence.wide 9 Try.prog 64 #[.func (.yield l) #[] #[], .pointer (some ⟨Bs, 0, none⟩)] W fun e W' => (∃ v, e = .returned v) ∧
      ((∃ ys, ys = (List.finRange evs.length).filter (selAt evs) ∧ J ys W') ∨ (∃ pre, (∃ k, ∃ hk : k < evs.length, selAt evs ⟨k, hk⟩ = true ∧ pre = (ixs evs.length k).filter (selAt evs) ++ [⟨k, hk⟩]) ∧ Jx pre W')) := by
  refine callsIn_of_wp_marks Try.func64 rfl trivial ?_ rfl
  simp only [Try.ntmps64, List.size_toArray, List.length_cons, List.length_nil, Nat.reduceAdd, Nat.reduceSub, Array.replicate_succ, Array.replicate_zero, List.push_toArray, List.append_toArray, List.nil_append, List.cons_append]
  have hc0 : ∀ o, (W.alloc o).cell? ⟨Bs, 0, none⟩ = some (.slice A evs.length cap) := fun o => (hBs.alloc o).cell 0
  gi_wp2_with (refine ⟨trivial, ?_⟩; gi_at_call 39; refine (callsIn_wide.2 (each_any _ _ _ _)).mono ?_; rintro e w' ⟨rfl, rfl⟩)
  clear hc0
  have bY := Blk.new W 137 #[.func (.yield l) #[] #[]]
  have bN := Blk.new (W.alloc (.cells #[.func (.yield l) #[] #[]] 137)) 22 #[.slice A evs.length cap]
  rw [World.size_alloc] at bN
  obtain ⟨W0, hW0⟩ : ∃ W0, (W.alloc (.cells #[.func (.yield l) #[] #[]] 137)).alloc (.cells #[.slice A evs.length cap] 22) = W0 := ⟨_, rfl⟩
  have hB0 : Below W.heap.size W W0 := by rw [← hW0]; exact ((Below.refl _ W).alloc (Nat.le_refl _) _).alloc (by simp) _
  have hsz : W0.heap.size = W.heap.size + 1 + 1 := by rw [← hW0]; simp
  have cY : Blk W0 W.heap.size 137 #[.func (.yield l) #[] #[]] := by rw [← hW0]; exact bY.alloc _
  have cN : Blk W0 (W.heap.size + 1) 22 #[.slice A evs.length cap] := by rw [← hW0]; exact bN
  have hJ0 : J [] W0 := by rw [← hW0]; exact hJ.alloc _ (hJ.alloc _ h0)
  have hK0 : Keeps n₀ B₁ B₂ W W0 := Keeps.of_below hn₀ hB0
  have hBsl := hBs.lt
  rw [hW0]
  clear bY bN hW0 h0
  refine range_law (gf := 63) (lb := #[.pointer (some ⟨W.heap.size + 1, 0, none⟩)]) rfl (enters_of Try.func63 (by kernel_rfl) rfl)
    (each_stops (W.heap.size + 1) n₀ B₁ (W0.heap.size + 1 + 1) (W0.heap.size + 1 + 1) b off evs.length cap A hA hb W0 (by omega) cN) Keeps.trans (keeps_b (by omega) (by omega)) (Below.refl _ _) (fun _ => rfl)
    (fun pre W' => (J (pre.filter (selAt evs)) W' ∧ Blk W' W.heap.size 137 #[.func (.yield l) #[] #[]]) ∧ Keeps n₀ B₁ B₂ W W')
    (fun c pre W' => c = .ret ∧ ∃ ini x, pre = ini ++ [x] ∧ selAt evs x = true ∧ Jx (ini.filter (selAt evs) ++ [x]) W')
    (OwnFrom.and (OwnFrom.and (fun s X Y row hs hg hr => own_more hJ (by omega : W.heap.size ≤ W0.heap.size) (s.filter (selAt evs)) X Y row hs hg hr) ((blk_own _ _ _).from _)) (keeps_own hn₀ (by omega)))
    (fun c s X Y row hs hg hr => by
      obtain ⟨h1, ini, x, h2, h3, h4⟩ := hs
      exact ⟨h1, ini, x, h2, h3, own_more hJx (by omega : W.heap.size ≤ W0.heap.size) _ X Y row h4 hg hr⟩)
    ⟨⟨hJ0, cY⟩, hK0⟩
    (fun x => { tmps := #[.func (.yield l) #[] #[], .pointer (some ⟨Bs, 0, none⟩), .pointer (some ⟨W.heap.size, 0, none⟩), .int .i64 (x.1 : Int), .pointer (some ⟨b, off + x.1 * 14, none⟩), .slice A evs.length cap, .func (.func 63) #[] #[.pointer (some ⟨W.heap.size + 1, 0, none⟩)], .int .i64 (x.1 : Int), .pointer (some ⟨b, off + x.1 * 14, none⟩), undef, undef, undef, undef, undef, undef, undef, undef, undef, undef, undef, undef, undef, undef, undef, undef, undef, undef, undef, undef, undef, undef, undef, undef, undef, undef, undef, undef, undef, undef, undef], defers := [] }) ?assign ?body ?done ?stop
  case assign =>
    intro l x W K hK
    unfold evEnc
    gi_wp2
    exact hK
  case body =>
    rintro l2 pre x W' ⟨⟨hJ', hYb⟩, hK⟩ hlen
    have hbx : b < n₀ := hbB (by have := x.2; omega)
    have hev := hcells x
    obtain ⟨e, he⟩ : ∃ e, evs[x] = e := ⟨_, rfl⟩
    rw [he] at hev
    have hc : ∀ f u, e.cells[f]? = some u → W'.cell? ⟨b, off + x.1 * 14 + f, none⟩ = some u := fun f u hu => (hK.low.cell (p := ⟨b, off + x.1 * 14 + f, none⟩) hbx).trans (hev f u hu)
    have h0 := hc 0 _ rfl
    have h1 := hc 1 _ rfl
    simp only [Nat.add_zero] at h0
    have hy0 := hYb.cell 0
    simp at hy0
    have no : sel e = false → (pre ++ [x]).filter (selAt evs) = pre.filter (selAt evs) := fun h => by
      rw [List.filter_append]
      simp [selAt, he, h]
    have yes : sel e = true → (pre ++ [x]).filter (selAt evs) = pre.filter (selAt evs) ++ [x] := fun h => by
      rw [List.filter_append]
      simp [selAt, he, h]
    have yes2 : sel e = true → selAt evs x = true := fun h => by rw [selAt, he]; exact h
    have stay : sel e = false → KeepsFrom W0.heap.size W' W' ∧ Keeps n₀ B₁ (W0.heap.size + 1 + 1) W' W' ∧ (J ((pre ++ [x]).filter (selAt evs)) W' ∧ Blk W' W.heap.size 137 #[.func (.yield l) #[] #[]]) ∧ Keeps n₀ B₁ B₂ W W' := fun h =>
      ⟨KeepsFrom.refl _ _, Keeps.refl _ _ _ _, ⟨by rw [no h]; exact hJ', hYb⟩, hK⟩
    have hlen2 : (pre.filter (selAt evs)).length < evs.length := Nat.lt_of_le_of_lt (List.length_filter_le _ _) hlen
    have STAY := Lib.hid stay
    have YES := Lib.hid yes
    have YES2 := Lib.hid yes2
    clear stay yes yes2 no he hev hc
    by_cases hk : e.kind = 98 ∨ e.kind = 101
    · by_cases ht : 0 ≤ e.task ∧ e.task < 3
      · have hs : sel e = true := by rcases hk with hk | hk <;> simp [sel, hk, ht]
        have HS := Lib.hid hs
        clear hs
        obtain ⟨fn, tmps, assign, body, hy, hR⟩ := hY _ x W' (YES2.out HS.out) hJ' hlen2
        unfold evEnc at hy
        obtain ⟨ht0, ht3⟩ := ht
        have g1 : decide (0 ≤ e.task) = true := by simpa using ht0
        have g2 : decide (e.task < 3) = true := by simpa using ht3
        rcases hk with hk | hk
        · have q : (e.kind != 98) = false := by simp [hk]
          clear hk
          gi_wp2
          refine (round_in hR).mono ?_
          rintro e3 W3 (⟨rfl, hJ3, hk3⟩ | ⟨rfl, hJx3, hk3⟩)
          · gi_wp2
            exact ⟨hk3.from (by omega) (by omega), hk3.more (by omega), ⟨by rw [YES.out HS.out]; exact hJ3, hYb.keeps hk3 (by omega)⟩, hK.trans hk3⟩
          · gi_wp2
            exact ⟨⟨hk3.size, fun k o hk1 h1 h2 => hk3.same k o (by omega) h1 h2⟩, rfl, pre, x, rfl, YES2.out HS.out, hJx3⟩
        · have q : (e.kind != 98) = true := by simp [hk]
          have q2 : (e.kind != 101) = false := by simp [hk]
          clear hk
          gi_wp2
          refine (round_in hR).mono ?_
          rintro e3 W3 (⟨rfl, hJ3, hk3⟩ | ⟨rfl, hJx3, hk3⟩)
          · gi_wp2
            exact ⟨hk3.from (by omega) (by omega), hk3.more (by omega), ⟨by rw [YES.out HS.out]; exact hJ3, hYb.keeps hk3 (by omega)⟩, hK.trans hk3⟩
          · gi_wp2
            exact ⟨⟨hk3.size, fun k o hk1 h1 h2 => hk3.same k o (by omega) h1 h2⟩, rfl, pre, x, rfl, YES2.out HS.out, hJx3⟩
      · have hs : sel e = false := by simp only [sel, ht]; simp
        have ST := STAY.out hs
        clear hs
        by_cases ht0 : 0 ≤ e.task
        · have ht3 : decide (e.task < 3) = false := by simp; omega
          have g1 : decide (0 ≤ e.task) = true := by simpa using ht0
          clear ht ht0
          rcases hk with hk | hk
          · have q : (e.kind != 98) = false := by simp [hk]
            clear hk
            gi_wp2
            refine ⟨fun _ h => (by cases h), ?_⟩
            gi_wp2
            exact ST
          · have q : (e.kind != 98) = true := by simp [hk]
            have q2 : (e.kind != 101) = false := by simp [hk]
            clear hk
            gi_wp2
            refine ⟨fun _ h => (by cases h), ?_⟩
            gi_wp2
            exact ST
        · have g1 : decide (0 ≤ e.task) = false := by simpa using ht0
          clear ht ht0
          rcases hk with hk | hk
          · have q : (e.kind != 98) = false := by simp [hk]
            clear hk
            gi_wp2
            refine ⟨fun _ h => (by cases h), ?_⟩
            gi_wp2
            exact ST
          · have q : (e.kind != 98) = true := by simp [hk]
            have q2 : (e.kind != 101) = false := by simp [hk]
            clear hk
            gi_wp2
            refine ⟨fun _ h => (by cases h), ?_⟩
            gi_wp2
            exact ST
    · have hs : sel e = false := by
        simp only [sel]
        rw [Bool.and_eq_false_iff]
        left
        simpa using hk
      have ST := STAY.out hs
      have q : (e.kind != 98) = true := by simp; omega
      have q2 : (e.kind != 101) = true := by simp; omega
      clear hs hk
      gi_wp2
      exact ST
  case done =>
    rintro D ys W' hD rfl ⟨⟨hJ', hYb⟩, hK⟩ hKD
    gi_wp2
    refine ⟨by simp, .inl ⟨_, _, rfl, run_takeDeferred hKD, ?_⟩⟩
    exact ⟨_, results_none rfl _ _ _, ⟨_, rfl⟩, .inl ⟨_, rfl, hJ.putObj _ hJ' (by omega) hKD rfl⟩⟩
  case stop =>
    rintro D k pre W' hD ⟨j', hj, rfl⟩ ⟨rfl, ini, x, hi, hx, hJx'⟩ hKD
    rw [ixs_succ hj] at hi
    obtain ⟨rfl, e5⟩ := List.append_inj' hi rfl
    obtain rfl : (⟨j', hj⟩ : Fin evs.length) = x := by simpa using e5
    gi_wp2
    refine ⟨by simp, .inl ⟨_, _, rfl, run_takeDeferred hKD, ?_⟩⟩
    exact ⟨_, results_none rfl _ _ _, ⟨_, rfl⟩, .inr ⟨_, ⟨j', hj, hx, rfl⟩, hJx.putObj _ hJx' (by omega) hKD rfl⟩⟩

/-- a place at which there is one of those -/
abbrev Sx (evs : List Ev) : Type := { x : Fin evs.length // selAt evs x = true }
/-- the contract of the iterator that calls hands back -/
theorem calls_stops (Bs n₀ B₁ B₂ b off cap : Nat) (A : Option Addr) (evs : List Ev) (hA : 0 < evs.length → A = some ⟨b, off, none⟩) (hb : evs.length ≤ 9223372036854775807)
    (w : World) (hbB : 0 < evs.length → b < n₀) (hcells : ∀ x : Fin evs.length, EvAt w b (off + x.1 * 14) evs[x]) (hn₀ : n₀ ≤ w.heap.size) (hB : B₁ ≤ Bs) (hc : Blk w Bs 22 #[.slice A evs.length cap]) :
    Seq Try.prog 64 #[.pointer (some ⟨Bs, 0, none⟩)] (fun x : Sx evs => evEnc b off evs.length x.1) (Keeps n₀ B₁ B₂) B₂ (fun ys => ys.map (·.1) = (List.finRange evs.length).filter (selAt evs))
      (fun pre => ∃ k, ∃ hk : k < evs.length, selAt evs ⟨k, hk⟩ = true ∧ pre.map (·.1) = (ixs evs.length k).filter (selAt evs) ++ [⟨k, hk⟩]) evs.length w := fun l J Jx W hW hB2 hJ hJx hY h0 => by
  refine (calls1_in l Bs n₀ B₁ B₂ b off cap A evs hA hb (fun pre W => ∃ ys : List (Sx evs), ys.map (·.1) = pre ∧ J ys W) (fun pre W => ∃ ys : List (Sx evs), ys.map (·.1) = pre ∧ Jx ys W) W hbB (fun x f u hu => ?_) (by have := hW.size; omega) (hc.below hW hc.lt) hB hB2
    (fun s X Y row hs hg hr => by
      obtain ⟨ys, h1, h2⟩ := hs
      exact ⟨ys, h1, hJ ys X Y row h2 hg hr⟩)
    (fun s X Y row hs hg hr => by
      obtain ⟨ys, h1, h2⟩ := hs
      exact ⟨ys, h1, hJx ys X Y row h2 hg hr⟩) ?_ ⟨[], rfl, h0⟩).mono ?_
  · have hlt := hbB (by have := x.2; omega)
    exact (hW.cell (p := ⟨b, off + x.1 * 14 + f, none⟩) (by show b < _; omega)).trans (hcells x f u hu)
  · rintro pre x W1 hx ⟨ys, rfl, hj⟩ hlen
    obtain ⟨fn, tmps, assign, body, hy, hR⟩ := hY ys ⟨x, hx⟩ W1 hj (by simpa using hlen)
    refine ⟨fn, tmps, assign, body, hy, hR.mono ?_⟩
    rintro e W' (⟨he, hj', hk⟩ | ⟨he, hj', hk⟩)
    · exact .inl ⟨he, ⟨ys ++ [⟨x, hx⟩], by simp, hj'⟩, hk⟩
    · exact .inr ⟨he, ⟨ys ++ [⟨x, hx⟩], by simp, hj'⟩, hk⟩
  · rintro e W' ⟨he, ⟨_, rfl, ys, h1, h2⟩ | ⟨_, ⟨k, hk, hs, rfl⟩, ys, h1, h2⟩⟩
    · exact ⟨he, .inl ⟨ys, h1, h2⟩⟩
    · exact ⟨he, .inr ⟨ys, ⟨k, hk, hs, h1⟩, h2⟩⟩
end Go.Proofs.Ytbgibbbggajgaaa
