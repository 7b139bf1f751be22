/- AuditOpens: the plain law, and the walk. -/
import Derived.Test.YtbgibbbggajgaaaOpen
import Derived.Test.YtbgibbbggajgaaaAdds
import Derived.Deep.QuietTactic
import Derived.BigQuiet
namespace Go.Proofs.Ytbgibbbggajgaaa
open Go.RowKit

/-! ### the plain law -/
def evE (s : Int) : Ev := { ev0 101 with task := s }
/-- for each task below t as many ends as it is open -/
def addsTo (m : Int → Int) (t : Int) : List Ev := (([0, 1, 2] : List Int).take t.toNat).flatMap fun s => List.replicate (m s).toNat (evE s)
theorem tal_append (a b : List Ev) (t : Int) : tal (a ++ b) t = tal a t + tal b t := by
  have : ∀ (b : List Ev) (n : Int), b.foldl (fun n e => if e.task = t then (if e.kind = 98 then n + 1 else n - 1) else n) n = n + b.foldl (fun n e => if e.task = t then (if e.kind = 98 then n + 1 else n - 1) else n) 0 := by
    intro b
    induction b with
    | nil => intro n; simp
    | cons e b ih =>
      intro n
      rw [List.foldl_cons, List.foldl_cons, ih, ih (if e.task = t then (if e.kind = 98 then (0 : Int) + 1 else 0 - 1) else 0)]
      split
      · split <;> omega
      · omega
  unfold tal
  rw [List.foldl_append, this]
theorem tal_rep (k : Nat) (s t : Int) : tal (List.replicate k (evE s)) t = if s = t then -(k : Int) else 0 := by
  induction k with
  | zero => simp [tal]
  | succ k ih =>
    rw [List.replicate_succ', tal_append, ih]
    simp only [tal, List.foldl_cons, List.foldl_nil, evE, ev0]
    split <;> simp
    omega
theorem sel_evE (s : Int) (h : s = 0 ∨ s = 1 ∨ s = 2) : sel (evE s) = true := by
  rcases h with rfl | rfl | rfl <;> decide
theorem filter_adds (m : Int → Int) : (addsTo m 3).filter sel = addsTo m 3 := by
  rw [List.filter_eq_self]
  intro e he
  simp only [addsTo, List.mem_flatMap, List.mem_replicate] at he
  obtain ⟨s, hs, _, rfl⟩ := he
  refine sel_evE s ?_
  simp at hs
  exact hs
theorem open_none (l : List Ev) : openF (l ++ addsTo (tal (l.filter sel)) 3) = [] := by
  unfold openF
  rw [List.filter_eq_nil_iff]
  intro t ht
  rw [List.filter_append, filter_adds, tal_append]
  have hadd : ∀ m : Int → Int, tal (addsTo m 3) t = tal (List.replicate (m 0).toNat (evE 0)) t + tal (List.replicate (m 1).toNat (evE 1)) t + tal (List.replicate (m 2).toNat (evE 2)) t := fun m => by
    simp [addsTo, tal_append]
    omega
  rw [hadd, tal_rep, tal_rep, tal_rep]
  simp only [List.mem_cons, List.not_mem_nil, or_false] at ht
  rcases ht with rfl | rfl | rfl <;> simp <;> omega
theorem addsTo_succ (m : Int → Int) (t : Int) (h : t = 0 ∨ t = 1 ∨ t = 2) : addsTo m (t + 1) = addsTo m t ++ List.replicate (m t).toNat (evE t) := by
  rcases h with rfl | rfl | rfl <;> simp [addsTo]
theorem openF_upTo (l : List Ev) : openF l = upTo (fun t => decide (0 < tal (l.filter sel) t)) 3 := rfl
theorem adds_len (m : Int → Int) (t : Int) (b : Int) (hm : ∀ s, m s ≤ b) (hb : 0 ≤ b) : ((addsTo m t).length : Int) ≤ 3 * b := by
  have key : ∀ l : List Int, ((l.flatMap fun s => List.replicate (m s).toNat (evE s)).length : Int) ≤ l.length * b := by
    intro l
    induction l with
    | nil => simp
    | cons s l ih =>
      rw [List.flatMap_cons, List.length_append, List.length_replicate, List.length_cons]
      have := hm s
      have e : ((l.length + 1 : Nat) : Int) * b = l.length * b + b := by rw [Int.natCast_add, Int.add_mul]; simp
      rw [e]
      omega
  have h1 := key (([0, 1, 2] : List Int).take t.toNat)
  have h2 : ((([0, 1, 2] : List Int).take t.toNat).length : Int) * b ≤ 3 * b := Int.mul_le_mul_of_nonneg_right (by simp; omega) hb
  unfold addsTo
  omega

/-! ### same -/
theorem below_drewN {B : Nat} {a w : World} (h : Below B a w) (n : Nat) : Below B a (w.drewN n) := ⟨h.os, h.tape, h.output, h.size, h.block⟩
set_option maxHeartbeats 1000000 in
theorem same_true (A1 A2 : Option Addr) (n c1 c2 : Nat) (zs : List Int) (w : World) {B1 B2 : Nat} (h1 : Sl w B1 1 A1 n (intCells zs)) (h2 : Sl w B2 1 A2 n (intCells zs)) (hn : n ≤ 9223372036854775807) :
    Calls Try.prog 15 #[.slice A1 n c1, .slice A2 n c2] w fun x w' => x = .returned (.bool true) ∧ Below w.heap.size w w' := by
  have hl : zs.length = n := by have := h1.1; simpa [intCells] using this
  have HL := Lib.hid hl
  clear hl
  go_enter Try.func15, Try.ntmps15
  go_wp2_with fail
  go_loopw [5] (fun i wr => ∃ k : Nat, i = .int .i64 k ∧ k ≤ n ∧ ∃ d, wr = w.drewN d) (fun i _ => n - (intOf i).toNat)
  case atStart => exact ⟨0, rfl, by omega, 0, rfl⟩
  case round =>
    obtain ⟨k, rfl, hk, d, rfl⟩ := hrel
    by_cases hlt : k < n
    · obtain ⟨b, off, rfl, _, hc⟩ := h1.2 (by omega)
      obtain ⟨b', off', rfl, _, hc'⟩ := h2.2 (by omega)
      have g1 : w.cell? ⟨b, off + k, none⟩ = some (.int .i64 (zs[k]?.getD 0)) := hc k _ (intCells_get _ _ (by rw [HL.out]; exact hlt))
      have g2 : w.cell? ⟨b', off' + k, none⟩ = some (.int .i64 (zs[k]?.getD 0)) := hc' k _ (intCells_get _ _ (by rw [HL.out]; exact hlt))
      have hi : (k : Int) < (n : Int) := by omega
      clear hc hc'
      go_wp2_with fail
      go_quiet (fail)
      go_wp2_with fail
      exact ⟨⟨k + 1, by simp, by omega, _, rfl⟩, by simp [intOf]; omega⟩
    · go_wp2_with fail
      go_ret
      exact ⟨rfl, below_drewN (Below.refl _ _) _⟩

/-! ### the walk -/
/-- how much oftener task t began, of the first k -/
def tk (evs : List Ev) (k : Nat) (t : Int) : Int := tal ((evs.take k).filter sel) t
theorem tk_succ (evs : List Ev) (k : Nat) (e : Ev) (he : evs[k]? = some e) (t : Int) : tk evs (k + 1) t = if sel e then (if e.task = t then (if e.kind = 98 then tk evs k t + 1 else tk evs k t - 1) else tk evs k t) else tk evs k t := by
  unfold tk
  rw [List.take_add_one, he, Option.toList_some, List.filter_append]
  cases hs : sel e with
  | true => simp [hs, tal_snoc]
  | false => simp [hs]
theorem tk_bd (evs : List Ev) (k : Nat) (t : Int) (h : evs.length ≤ 200) : -200 ≤ tk evs k t ∧ tk evs k t ≤ 200 := by
  have h1 := tal_bd ((evs.take k).filter sel) t
  have h2 := List.length_filter_le sel (evs.take k)
  have h3 : (evs.take k).length ≤ evs.length := by rw [List.length_take]; omega
  unfold tk
  omega

set_option maxRecDepth 100000 in
set_option maxHeartbeats 8000000 in
theorem opens_any (w : World) (A : Option Addr) (n c : Nat) (evs : List Ev) (h : Evs w w.heap.size A evs) (hn : n = evs.length) (hm : n ≤ 9223372036854775807) :
    Calls Try.prog 4 #[.slice A n c] w fun x w' => x = .returned (.bool true) ∧ Below w.heap.size w w' := by
  obtain ⟨i0, z0, hi, hz, hs, hby, hzs⟩ := info_cells ev_info
  obtain ⟨i1, z1, hi1, hz1, hs1, hby1, hzs1⟩ := info_cells int_info
  have HN := Lib.hid hn
  have HI := Lib.hid hi
  have HZ := Lib.hid hz
  have HS := Lib.hid hs
  have HBY := Lib.hid hby
  have HZS := Lib.hid hzs
  have HI1 := Lib.hid hi1
  have HZ1 := Lib.hid hz1
  have HS1 := Lib.hid hs1
  have HBY1 := Lib.hid hby1
  have HZS1 := Lib.hid hzs1
  clear hn hi hz hs hby hzs hi1 hz1 hs1 hby1 hzs1
  go_enter Try.func4, Try.ntmps4
  go_wp2_with fail
  refine (shown20_any _).mono ?_
  rintro x w1 ⟨rfl, hb1⟩
  by_cases hbig : 200 < n
  · go_wp2_with fail
    go_ret
    exact ⟨rfl, hb1⟩
  have hq1 : decide ((200 : Int) < (n : Int)) = false := by simp; omega
  have h1 := h.thn hb1
  go_wp2_with fail
  have bM := Blk.new w1 29 #[.int .i64 0, .int .i64 0, .int .i64 0]
  have hB0 := below_thn hb1 ((Below.refl w1.heap.size w1).alloc (Nat.le_refl _) (.cells #[.int .i64 0, .int .i64 0, .int .i64 0] 29))
  have hwM : w.heap.size ≤ w1.heap.size := hb1.size
  have hbd := fun k t => tk_bd evs k t (by have := HN.out; omega)
  go_loopw [5] (fun i wr => ∃ k : Nat, i = .int .i64 k ∧ k ≤ n ∧ Blk wr w1.heap.size 29 #[.int .i64 (tk evs k 0), .int .i64 (tk evs k 1), .int .i64 (tk evs k 2)] ∧ Below w.heap.size w wr) (fun i _ => n - (intOf i).toNat)
  case atStart => exact ⟨0, rfl, by omega, bM, hB0⟩
  case round =>
    clear bM hB0
    obtain ⟨k, rfl, hk, hM, hB⟩ := hrel
    have b0 := hbd k 0
    have b1 := hbd k 1
    have b2 := hbd k 2
    by_cases hlt : k < n
    · have hkl : k < evs.length := by have := HN.out; omega
      obtain ⟨e, he⟩ : ∃ e, evs[k]? = some e := ⟨evs[k], List.getElem?_eq_getElem hkl⟩
      have t0 := tk_succ evs k e he 0
      have t1 := tk_succ evs k e he 1
      have t2 := tk_succ evs k e he 2
      obtain ⟨b, off, rfl, hbw, hev⟩ := (h.below hB).at_ he
      have e0 := hev 0 _ rfl
      have e1 := hev 1 _ rfl
      simp only [Nat.add_zero] at e0
      generalize tk evs k 0 = m0 at *
      generalize tk evs k 1 = m1 at *
      generalize tk evs k 2 = m2 at *
      have T0 := Lib.hid t0
      have T1 := Lib.hid t1
      have T2 := Lib.hid t2
      clear t0 t1 t2 he hev hbd
      by_cases hr : 0 ≤ e.task ∧ e.task < 3
      · have c0 := hM.cell 0
        have c1 := hM.cell 1
        have c2 := hM.cell 2
        simp at c0 c1 c2
        have hf := fun i => hM.frozen i
        have g0 : decide (e.task < 0) = false := by simp; omega
        have g1 : decide (2 < e.task) = false := by simp; omega
        obtain ⟨hr0, hr3⟩ := hr
        have e0' : ∀ i u, (wr.setCell ⟨w1.heap.size, i, none⟩ u).cell? ⟨b, off + k * 14, none⟩ = some (.int .u8 e.kind) := fun i u => (World.cell?_setCell_other _ _ _ _ (fun h => by injection h with h; omega)).trans e0
        have hend : ∀ i u, Below w.heap.size w (wr.setCell ⟨w1.heap.size, i, none⟩ u) := fun i u => hB.setCell (p := ⟨w1.heap.size, i, none⟩) hwM u
        by_cases k98 : e.kind = 98
        · have q : (e.kind == 98) = true := by simpa using k98
          have q2 : (e.kind == 101) = false := by simp [k98]
          have K98 := Lib.hid k98
          clear k98
          have ht : e.task = 0 ∨ e.task = 1 ∨ e.task = 2 := by omega
          rcases ht with ht | ht | ht
          all_goals
            have hs : sel e = true := by simp [sel, K98.out, ht]
            rw [ht] at e1
            have HT := Lib.hid ht
            have HSE := Lib.hid hs
            clear ht hs hr0 hr3 g0 g1
            go_wp2_with fail
            go_roundw
            case rel => exact ⟨k + 1, by go_num, by omega, (hM.set_ _ _).conv (by rw [T0.out, T1.out, T2.out, HSE.out, HT.out, K98.out]; simp), hend _ _⟩
            case measure => simp [intOf]; omega
        by_cases k101 : e.kind = 101
        · have q : (e.kind == 98) = false := by simpa using k98
          have q2 : (e.kind == 101) = true := by simp [k101]
          have K101 := Lib.hid k101
          have K98 := Lib.hid k98
          clear k98 k101
          have ht : e.task = 0 ∨ e.task = 1 ∨ e.task = 2 := by omega
          rcases ht with ht | ht | ht
          all_goals
            have hs : sel e = true := by simp [sel, K101.out, ht]
            rw [ht] at e1
            have HT := Lib.hid ht
            have HSE := Lib.hid hs
            clear ht hs hr0 hr3 g0 g1
            go_wp2_with fail
            go_roundw
            case rel => exact ⟨k + 1, by go_num, by omega, (hM.set_ _ _).conv (by rw [T0.out, T1.out, T2.out, HSE.out, HT.out]; simp [K98.out]), hend _ _⟩
            case measure => simp [intOf]; omega
        · have q : (e.kind == 98) = false := by simpa using k98
          have q2 : (e.kind == 101) = false := by simpa using k101
          have hs : sel e = false := by simp [sel, k98, k101]
          have HSE := Lib.hid hs
          clear hs k98 k101
          go_wp2_with fail
          go_roundw
          case rel => exact ⟨k + 1, by go_num, by omega, hM.conv (by rw [T0.out, T1.out, T2.out, HSE.out]; simp), hB⟩
          case measure => simp [intOf]; omega
      · have hs : sel e = false := by simp only [sel, hr]; simp
        have HSE := Lib.hid hs
        by_cases hr0 : e.task < 0
        · have g0 : decide (e.task < 0) = true := by simpa using hr0
          clear hs hr hr0
          go_wp2_with fail
          go_roundw
          case rel => exact ⟨k + 1, by go_num, by omega, hM.conv (by rw [T0.out, T1.out, T2.out, HSE.out]; simp), hB⟩
          case measure => simp [intOf]; omega
        · have g0 : decide (e.task < 0) = false := by simpa using hr0
          have g1 : decide (2 < e.task) = true := by simp; omega
          clear hs hr hr0
          go_wp2_with fail
          go_roundw
          case rel => exact ⟨k + 1, by go_num, by omega, hM.conv (by rw [T0.out, T1.out, T2.out, HSE.out]; simp), hB⟩
          case measure => simp [intOf]; omega
    · obtain rfl : k = n := by omega
      have hall : ∀ t, tk evs k t = tal (evs.filter sel) t := fun t => by
        unfold tk
        rw [List.take_of_length_le (by have := HN.out; omega)]
      rw [hall, hall, hall] at hM
      have hbd2 : ∀ t, -200 ≤ tal (evs.filter sel) t ∧ tal (evs.filter sel) t ≤ 200 := fun t => by have := hbd k t; rwa [hall] at this
      clear hall hbd b0 b1 b2
      have hown0 := World.ownsRow_made (base := wr.heap.size) (e := 40) (size := 14) wr #[] 0 (Nat.le_refl _) (Nat.zero_le _) rfl
      have hb2 : Below wr.heap.size wr (wr.alloc (.cells #[] 40)) := (Below.refl _ _).alloc (Nat.le_refl _) _
      have hB2 : Below w.heap.size w (wr.alloc (.cells #[] 40)) := below_thn hB hb2
      have hev2 := h.thn hB2
      have hM2 := hM.alloc (.cells #[] 40)
      go_wp2_with (at_builtin; refine wpList_append_sl rfl rfl Try.underlying22 HI.out HZ.out HS.out HBY.out HZS.out (by omega) rfl hown0 rfl (by rw [HN.out]; exact hev2.1) (ev_one _) (by simp only [maxLen]; omega) (by omega) hb2.size ?_; intro v3 w3 hown3 hg3 hat3; simp only [Nat.zero_add, List.nil_append] at hown3)
      have hb3 : Below wr.heap.size wr w3 := below_app hb2 hown0 (Nat.le_refl _) hb2.size hg3
      have hB3 : Below w.heap.size w w3 := below_thn hB hb3
      have hM3 : Blk w3 w1.heap.size 29 #[.int .i64 (tal (evs.filter sel) 0), .int .i64 (tal (evs.filter sel) 1), .int .i64 (tal (evs.filter sel) 2)] := hM.below hb3 hM.lt
      have hbase : w.heap.size ≤ wr.heap.size := hB.size
      have hsz3 : wr.heap.size ≤ w3.heap.size := hb3.size
      have hof := openF_upTo evs
      have hon := open_none evs
      obtain ⟨m, hmm⟩ : ∃ m, tal (evs.filter sel) = m := ⟨_, rfl⟩
      rw [hmm] at hM3 hbd2 hof hon
      have hal : ∀ t, ((addsTo m t).length : Int) ≤ 3 * 200 := fun t => adds_len m t 200 (fun s => (hbd2 s).2) (by omega)
      have hown4 : w3.ownsRow wr.heap.size 40 14 v3 (evs ++ addsTo m 0).length ((evs ++ addsTo m 0).flatMap Ev.cells) := by
        have : addsTo m 0 = [] := rfl
        rw [this, List.append_nil, ← HN.out]
        exact hown3
      have HOF := Lib.hid hof
      have HON := Lib.hid hon
      clear hown0 hb2 hB2 hev2 hM2 hown3 hg3 hat3 hb3 hM hB hof hon hmm
      generalize w1.heap.size = G at *
      generalize wr.heap.size = B at *
      go_loopw [9, 7, 8] (fun i more want wr => ∃ t : Int, i = .int .i64 t ∧ 0 ≤ t ∧ t ≤ 3 ∧ Blk wr G 29 #[.int .i64 (m 0), .int .i64 (m 1), .int .i64 (m 2)] ∧ Below w.heap.size w wr ∧
        wr.ownsRow B 40 14 more (evs ++ addsTo m t).length ((evs ++ addsTo m t).flatMap Ev.cells) ∧
        wr.ownsRow B 3 1 want (upTo (fun t => decide (0 < m t)) t).length (intCells (upTo (fun t => decide (0 < m t)) t)) ∧ B ≤ wr.heap.size) (fun i _ _ _ => 3 - (intOf i).toNat)
      case atStart => exact ⟨0, rfl, by omega, by omega, hM3, hB3, hown4, World.ownsRow_nil _ _ _ _, hsz3⟩
      case round =>
        clear hM3 hB3 hown4
        obtain ⟨t, rfl, ht0, ht3, hM, hB, hmore, hwant, hsz⟩ := hrel
        have c0 := hM.cell 0
        have c1 := hM.cell 1
        have c2 := hM.cell 2
        simp at c0 c1 c2
        have hlen1 : (evs ++ addsTo m t).length ≤ 800 := by have := hal t; have := HN.out; rw [List.length_append]; omega
        have hlen2 : (upTo (fun t => decide (0 < m t)) t).length ≤ 3 := upTo_len _ t
        have ht4 : t = 0 ∨ t = 1 ∨ t = 2 ∨ t = 3 := by omega
        rcases ht4 with rfl | rfl | rfl | rfl
        · have ub := hbd2 0
          have hup := upTo_succ (fun t => decide (0 < m t)) 0 (by omega)
          have had := addsTo_succ m 0 (by omega)
          have hal2 := hal (0 + 1)
          rw [had, List.length_append, List.length_replicate] at hal2
          have HUP := Lib.hid hup
          have HAD := Lib.hid had
          clear hup had hbd2 hal
          by_cases hpos : 0 < m 0
          focus
            have hq : decide (0 < m 0) = true := by simpa using hpos
            go_wp2_with (at_builtin; refine wpList_append_sl rfl rfl Try.underlying41 HI1.out HZ1.out HS1.out HBY1.out HZS1.out (by omega) rfl (hwant.alloc _) rfl (Sl.of_blk (n := 1) (sz := 1) (Blk.new _ 3 #[.int .i64 0]) rfl) (by simp [Value.oneCell']) (by simp only [maxLen]; omega) (by omega) (by simp; omega) ?_; intro v' w4 hwant4 hg4 hat4)
            have hM4 := (hM.alloc (.cells #[.int .i64 0] 3)).grown hg4 (own_blk (hwant.alloc (.cells #[.int .i64 0] 3)) (hM.alloc (.cells #[.int .i64 0] 3)) (by decide))
            have hmore4 := (hmore.alloc (.cells #[.int .i64 0] 3)).kept hg4 (own_ne (hmore.alloc (.cells #[.int .i64 0] 3)) (hwant.alloc (.cells #[.int .i64 0] 3)) (by decide))
            have hB4 : Below w.heap.size w w4 := below_app (hB.alloc hB.size _) (hwant.alloc _) hbase (by have := hB.size; simp; omega) hg4
            have hsz4 : B ≤ w4.heap.size := by have := hg4.size; simp at this; omega
            have hW4 : w4.ownsRow B 3 1 v' (upTo (fun t => decide (0 < m t)) (0 + 1)).length (intCells (upTo (fun t => decide (0 < m t)) (0 + 1))) := by
              rw [HUP.out, hq]
              simpa [intCells] using hwant4
            clear hwant4 hwant hg4 hat4 hmore hM hB hsz c0 c1 c2 hq hpos
          rotate_left
          focus
            have hq : decide (0 < m 0) = false := by simpa using hpos
            go_wp2_with fail
            have hM4 := hM
            have hmore4 := hmore
            have hB4 := hB
            have hsz4 := hsz
            have hW4 := hwant
            rw [show upTo (fun t => decide (0 < m t)) 0 = upTo (fun t => decide (0 < m t)) (0 + 1) by rw [HUP.out, hq]; simp] at hW4
            clear hwant hmore hM hB hsz c0 c1 c2 hq hpos
          all_goals
            go_loopw [10, 7] (fun i more wr => ∃ j : Nat, i = .int .i64 j ∧ j ≤ (m 0).toNat ∧ Blk wr G 29 #[.int .i64 (m 0), .int .i64 (m 1), .int .i64 (m 2)] ∧ Below w.heap.size w wr ∧
              wr.ownsRow B 40 14 more (evs ++ addsTo m 0 ++ List.replicate j (evE 0)).length ((evs ++ addsTo m 0 ++ List.replicate j (evE 0)).flatMap Ev.cells) ∧
              wr.ownsRow B 3 1 _ (upTo (fun t => decide (0 < m t)) (0 + 1)).length (intCells (upTo (fun t => decide (0 < m t)) (0 + 1))) ∧ B ≤ wr.heap.size) (fun i _ _ => (m 0).toNat - (intOf i).toNat)
            case atStart => exact ⟨0, rfl, by omega, hM4, hB4, by simpa using hmore4, hW4, hsz4⟩
            case round =>
              clear hM4 hmore4 hB4 hsz4 hW4
              obtain ⟨j, rfl, hj, hM5, hB5, hmore5, hW5, hsz5⟩ := hrel
              have c5 := hM5.cell 0
              simp at c5
              by_cases hjlt : (j : Int) < m 0
              · have hlen5 : (evs ++ addsTo m 0 ++ List.replicate j (evE 0)).length ≤ 2000 := by rw [List.length_append, List.length_replicate]; omega
                go_wp2_with (at_builtin; refine wpList_append_sl rfl rfl Try.underlying22 HI.out HZ.out HS.out HBY.out HZS.out (by omega) rfl (hmore5.alloc _) rfl (Sl.of_blk (n := 1) (sz := 14) (Blk.new _ 40 (evE 0).cells.toArray) rfl) (fun u hu => ev_one [evE 0] u (by simpa using hu)) (by simp only [maxLen]; omega) (by omega) (by simp; omega) ?_; intro v' w6 hmore6 hg6 hat6)
                have hM6 := (hM5.alloc (.cells (evE 0).cells.toArray 40)).grown hg6 (own_blk (hmore5.alloc (.cells (evE 0).cells.toArray 40)) (hM5.alloc (.cells (evE 0).cells.toArray 40)) (by decide))
                have hW6 := (hW5.alloc (.cells (evE 0).cells.toArray 40)).kept hg6 (own_ne (hW5.alloc (.cells (evE 0).cells.toArray 40)) (hmore5.alloc (.cells (evE 0).cells.toArray 40)) (by decide))
                have hB6 : Below w.heap.size w w6 := below_app (hB5.alloc hB5.size _) (hmore5.alloc _) hbase (by have := hB5.size; simp; omega) hg6
                have hsz6 : B ≤ w6.heap.size := by have := hg6.size; simp at this; omega
                have hmore7 : w6.ownsRow B 40 14 v' (evs ++ addsTo m 0 ++ List.replicate (j + 1) (evE 0)).length ((evs ++ addsTo m 0 ++ List.replicate (j + 1) (evE 0)).flatMap Ev.cells) := by
                  rw [List.replicate_succ', ← List.append_assoc, List.flatMap_append, List.length_append]
                  simpa using hmore6
                go_roundw
                case rel => exact ⟨j + 1, by go_num, by omega, hM6, hB6, hmore7, hW6, hsz6⟩
                case measure => simp [intOf]; omega
              · go_wp2_with fail
                go_roundw
                case rel => exact ⟨1, rfl, by omega, by omega, hM5, hB5, by rw [show (1 : Int) = 0 + 1 from rfl, HAD.out, ← List.append_assoc, show (m 0).toNat = j by omega]; exact hmore5, hW5, hsz5⟩
                case measure => simp [intOf]
        · have ub := hbd2 1
          have hup := upTo_succ (fun t => decide (0 < m t)) 1 (by omega)
          have had := addsTo_succ m 1 (by omega)
          have hal2 := hal (1 + 1)
          rw [had, List.length_append, List.length_replicate] at hal2
          have HUP := Lib.hid hup
          have HAD := Lib.hid had
          clear hup had hbd2 hal
          by_cases hpos : 0 < m 1
          focus
            have hq : decide (0 < m 1) = true := by simpa using hpos
            go_wp2_with (at_builtin; refine wpList_append_sl rfl rfl Try.underlying41 HI1.out HZ1.out HS1.out HBY1.out HZS1.out (by omega) rfl (hwant.alloc _) rfl (Sl.of_blk (n := 1) (sz := 1) (Blk.new _ 3 #[.int .i64 1]) rfl) (by simp [Value.oneCell']) (by simp only [maxLen]; omega) (by omega) (by simp; omega) ?_; intro v' w4 hwant4 hg4 hat4)
            have hM4 := (hM.alloc (.cells #[.int .i64 1] 3)).grown hg4 (own_blk (hwant.alloc (.cells #[.int .i64 1] 3)) (hM.alloc (.cells #[.int .i64 1] 3)) (by decide))
            have hmore4 := (hmore.alloc (.cells #[.int .i64 1] 3)).kept hg4 (own_ne (hmore.alloc (.cells #[.int .i64 1] 3)) (hwant.alloc (.cells #[.int .i64 1] 3)) (by decide))
            have hB4 : Below w.heap.size w w4 := below_app (hB.alloc hB.size _) (hwant.alloc _) hbase (by have := hB.size; simp; omega) hg4
            have hsz4 : B ≤ w4.heap.size := by have := hg4.size; simp at this; omega
            have hW4 : w4.ownsRow B 3 1 v' (upTo (fun t => decide (0 < m t)) (1 + 1)).length (intCells (upTo (fun t => decide (0 < m t)) (1 + 1))) := by
              rw [HUP.out, hq]
              simpa [intCells] using hwant4
            clear hwant4 hwant hg4 hat4 hmore hM hB hsz c0 c1 c2 hq hpos
          rotate_left
          focus
            have hq : decide (0 < m 1) = false := by simpa using hpos
            go_wp2_with fail
            have hM4 := hM
            have hmore4 := hmore
            have hB4 := hB
            have hsz4 := hsz
            have hW4 := hwant
            rw [show upTo (fun t => decide (0 < m t)) 1 = upTo (fun t => decide (0 < m t)) (1 + 1) by rw [HUP.out, hq]; simp] at hW4
            clear hwant hmore hM hB hsz c0 c1 c2 hq hpos
          all_goals
            go_loopw [10, 7] (fun i more wr => ∃ j : Nat, i = .int .i64 j ∧ j ≤ (m 1).toNat ∧ Blk wr G 29 #[.int .i64 (m 0), .int .i64 (m 1), .int .i64 (m 2)] ∧ Below w.heap.size w wr ∧
              wr.ownsRow B 40 14 more (evs ++ addsTo m 1 ++ List.replicate j (evE 1)).length ((evs ++ addsTo m 1 ++ List.replicate j (evE 1)).flatMap Ev.cells) ∧
              wr.ownsRow B 3 1 _ (upTo (fun t => decide (0 < m t)) (1 + 1)).length (intCells (upTo (fun t => decide (0 < m t)) (1 + 1))) ∧ B ≤ wr.heap.size) (fun i _ _ => (m 1).toNat - (intOf i).toNat)
            case atStart => exact ⟨0, rfl, by omega, hM4, hB4, by simpa using hmore4, hW4, hsz4⟩
            case round =>
              clear hM4 hmore4 hB4 hsz4 hW4
              obtain ⟨j, rfl, hj, hM5, hB5, hmore5, hW5, hsz5⟩ := hrel
              have c5 := hM5.cell 1
              simp at c5
              by_cases hjlt : (j : Int) < m 1
              · have hlen5 : (evs ++ addsTo m 1 ++ List.replicate j (evE 1)).length ≤ 2000 := by rw [List.length_append, List.length_replicate]; omega
                go_wp2_with (at_builtin; refine wpList_append_sl rfl rfl Try.underlying22 HI.out HZ.out HS.out HBY.out HZS.out (by omega) rfl (hmore5.alloc _) rfl (Sl.of_blk (n := 1) (sz := 14) (Blk.new _ 40 (evE 1).cells.toArray) rfl) (fun u hu => ev_one [evE 1] u (by simpa using hu)) (by simp only [maxLen]; omega) (by omega) (by simp; omega) ?_; intro v' w6 hmore6 hg6 hat6)
                have hM6 := (hM5.alloc (.cells (evE 1).cells.toArray 40)).grown hg6 (own_blk (hmore5.alloc (.cells (evE 1).cells.toArray 40)) (hM5.alloc (.cells (evE 1).cells.toArray 40)) (by decide))
                have hW6 := (hW5.alloc (.cells (evE 1).cells.toArray 40)).kept hg6 (own_ne (hW5.alloc (.cells (evE 1).cells.toArray 40)) (hmore5.alloc (.cells (evE 1).cells.toArray 40)) (by decide))
                have hB6 : Below w.heap.size w w6 := below_app (hB5.alloc hB5.size _) (hmore5.alloc _) hbase (by have := hB5.size; simp; omega) hg6
                have hsz6 : B ≤ w6.heap.size := by have := hg6.size; simp at this; omega
                have hmore7 : w6.ownsRow B 40 14 v' (evs ++ addsTo m 1 ++ List.replicate (j + 1) (evE 1)).length ((evs ++ addsTo m 1 ++ List.replicate (j + 1) (evE 1)).flatMap Ev.cells) := by
                  rw [List.replicate_succ', ← List.append_assoc, List.flatMap_append, List.length_append]
                  simpa using hmore6
                go_roundw
                case rel => exact ⟨j + 1, by go_num, by omega, hM6, hB6, hmore7, hW6, hsz6⟩
                case measure => simp [intOf]; omega
              · go_wp2_with fail
                go_roundw
                case rel => exact ⟨2, rfl, by omega, by omega, hM5, hB5, by rw [show (2 : Int) = 1 + 1 from rfl, HAD.out, ← List.append_assoc, show (m 1).toNat = j by omega]; exact hmore5, hW5, hsz5⟩
                case measure => simp [intOf]
        · have ub := hbd2 2
          have hup := upTo_succ (fun t => decide (0 < m t)) 2 (by omega)
          have had := addsTo_succ m 2 (by omega)
          have hal2 := hal (2 + 1)
          rw [had, List.length_append, List.length_replicate] at hal2
          have HUP := Lib.hid hup
          have HAD := Lib.hid had
          clear hup had hbd2 hal
          by_cases hpos : 0 < m 2
          focus
            have hq : decide (0 < m 2) = true := by simpa using hpos
            go_wp2_with (at_builtin; refine wpList_append_sl rfl rfl Try.underlying41 HI1.out HZ1.out HS1.out HBY1.out HZS1.out (by omega) rfl (hwant.alloc _) rfl (Sl.of_blk (n := 1) (sz := 1) (Blk.new _ 3 #[.int .i64 2]) rfl) (by simp [Value.oneCell']) (by simp only [maxLen]; omega) (by omega) (by simp; omega) ?_; intro v' w4 hwant4 hg4 hat4)
            have hM4 := (hM.alloc (.cells #[.int .i64 2] 3)).grown hg4 (own_blk (hwant.alloc (.cells #[.int .i64 2] 3)) (hM.alloc (.cells #[.int .i64 2] 3)) (by decide))
            have hmore4 := (hmore.alloc (.cells #[.int .i64 2] 3)).kept hg4 (own_ne (hmore.alloc (.cells #[.int .i64 2] 3)) (hwant.alloc (.cells #[.int .i64 2] 3)) (by decide))
            have hB4 : Below w.heap.size w w4 := below_app (hB.alloc hB.size _) (hwant.alloc _) hbase (by have := hB.size; simp; omega) hg4
            have hsz4 : B ≤ w4.heap.size := by have := hg4.size; simp at this; omega
            have hW4 : w4.ownsRow B 3 1 v' (upTo (fun t => decide (0 < m t)) (2 + 1)).length (intCells (upTo (fun t => decide (0 < m t)) (2 + 1))) := by
              rw [HUP.out, hq]
              simpa [intCells] using hwant4
            clear hwant4 hwant hg4 hat4 hmore hM hB hsz c0 c1 c2 hq hpos
          rotate_left
          focus
            have hq : decide (0 < m 2) = false := by simpa using hpos
            go_wp2_with fail
            have hM4 := hM
            have hmore4 := hmore
            have hB4 := hB
            have hsz4 := hsz
            have hW4 := hwant
            rw [show upTo (fun t => decide (0 < m t)) 2 = upTo (fun t => decide (0 < m t)) (2 + 1) by rw [HUP.out, hq]; simp] at hW4
            clear hwant hmore hM hB hsz c0 c1 c2 hq hpos
          all_goals
            go_loopw [10, 7] (fun i more wr => ∃ j : Nat, i = .int .i64 j ∧ j ≤ (m 2).toNat ∧ Blk wr G 29 #[.int .i64 (m 0), .int .i64 (m 1), .int .i64 (m 2)] ∧ Below w.heap.size w wr ∧
              wr.ownsRow B 40 14 more (evs ++ addsTo m 2 ++ List.replicate j (evE 2)).length ((evs ++ addsTo m 2 ++ List.replicate j (evE 2)).flatMap Ev.cells) ∧
              wr.ownsRow B 3 1 _ (upTo (fun t => decide (0 < m t)) (2 + 1)).length (intCells (upTo (fun t => decide (0 < m t)) (2 + 1))) ∧ B ≤ wr.heap.size) (fun i _ _ => (m 2).toNat - (intOf i).toNat)
            case atStart => exact ⟨0, rfl, by omega, hM4, hB4, by simpa using hmore4, hW4, hsz4⟩
            case round =>
              clear hM4 hmore4 hB4 hsz4 hW4
              obtain ⟨j, rfl, hj, hM5, hB5, hmore5, hW5, hsz5⟩ := hrel
              have c5 := hM5.cell 2
              simp at c5
              by_cases hjlt : (j : Int) < m 2
              · have hlen5 : (evs ++ addsTo m 2 ++ List.replicate j (evE 2)).length ≤ 2000 := by rw [List.length_append, List.length_replicate]; omega
                go_wp2_with (at_builtin; refine wpList_append_sl rfl rfl Try.underlying22 HI.out HZ.out HS.out HBY.out HZS.out (by omega) rfl (hmore5.alloc _) rfl (Sl.of_blk (n := 1) (sz := 14) (Blk.new _ 40 (evE 2).cells.toArray) rfl) (fun u hu => ev_one [evE 2] u (by simpa using hu)) (by simp only [maxLen]; omega) (by omega) (by simp; omega) ?_; intro v' w6 hmore6 hg6 hat6)
                have hM6 := (hM5.alloc (.cells (evE 2).cells.toArray 40)).grown hg6 (own_blk (hmore5.alloc (.cells (evE 2).cells.toArray 40)) (hM5.alloc (.cells (evE 2).cells.toArray 40)) (by decide))
                have hW6 := (hW5.alloc (.cells (evE 2).cells.toArray 40)).kept hg6 (own_ne (hW5.alloc (.cells (evE 2).cells.toArray 40)) (hmore5.alloc (.cells (evE 2).cells.toArray 40)) (by decide))
                have hB6 : Below w.heap.size w w6 := below_app (hB5.alloc hB5.size _) (hmore5.alloc _) hbase (by have := hB5.size; simp; omega) hg6
                have hsz6 : B ≤ w6.heap.size := by have := hg6.size; simp at this; omega
                have hmore7 : w6.ownsRow B 40 14 v' (evs ++ addsTo m 2 ++ List.replicate (j + 1) (evE 2)).length ((evs ++ addsTo m 2 ++ List.replicate (j + 1) (evE 2)).flatMap Ev.cells) := by
                  rw [List.replicate_succ', ← List.append_assoc, List.flatMap_append, List.length_append]
                  simpa using hmore6
                go_roundw
                case rel => exact ⟨j + 1, by go_num, by omega, hM6, hB6, hmore7, hW6, hsz6⟩
                case measure => simp [intOf]; omega
              · go_wp2_with fail
                go_roundw
                case rel => exact ⟨3, rfl, by omega, by omega, hM5, hB5, by rw [show (3 : Int) = 2 + 1 from rfl, HAD.out, ← List.append_assoc, show (m 2).toNat = j by omega]; exact hmore5, hW5, hsz5⟩
                case measure => simp [intOf]
        · have hev3 := h.thn hB
          go_wp2_with fail
          obtain ⟨A6, c6, rfl, hA6⟩ := own_slice hwant
          obtain ⟨A7, c7, rfl, hA7⟩ := own_slice hmore
          refine (open_any _ _ _ evs _ hev3 HN.out hm).mono ?_
          rintro x w5 ⟨⟨A5, c5, rfl, hA5⟩, hb5⟩
          have hA6' := hA6.thn hb5
          have hA7' := hA7.thn hb5
          have hev5 : Evs w5 w5.heap.size A7 (evs ++ addsTo m 3) := ⟨hA7', fun e he => (List.mem_append.1 he).elim ((hev3.thn hb5).2 e) (fun he => by
            simp only [addsTo, List.mem_flatMap, List.mem_replicate] at he
            obtain ⟨s, _, _, rfl⟩ := he
            exact Sl.nil)⟩
          rw [← HOF.out] at hA6'
          rw [← HOF.out]
          have hol : (openF evs).length ≤ 3 := by rw [HOF.out]; exact hlen2
          go_wp2_with fail
          refine (same_true A5 A6 _ c5 c6 (openF evs) _ hA5 hA6' (by omega)).mono ?_
          rintro x w6 ⟨rfl, hb6⟩
          go_wp2_with fail
          ((with_reducible refine (open_any _ _ _ (evs ++ addsTo m 3) _ (hev5.thn hb6) (by simp) (by simp at hlen1; omega)).mono ?_))
          rintro x w7 ⟨⟨A8, c8, rfl, hA8⟩, hb7⟩
          rw [HON.out]
          go_wp2_with fail
          go_ret
          exact ⟨rfl, below_thn (below_thn (below_thn hB hb5) hb6) hb7⟩
end Go.Proofs.Ytbgibbbggajgaaa
