/- AuditAdds: the plain law, and the walk. -/
import Derived.Test.YtbgibbbggajgaaaReplies
namespace Go.Proofs.Ytbgibbbggajgaaa
set_option linter.all false
open Go.RowKit

/-! ### the plain law -/
def Rp.add (x y : Rp) : Rp := ⟨x.begun + y.begun, x.ended + y.ended, x.errs + y.errs, x.deliv + y.deliv, x.dead + y.dead, x.sent + y.sent, x.repl + y.repl⟩
theorem Rp.step_add (x y : Rp) (e : Ev) : x.add (y.step e) = (x.add y).step e := by
  unfold Rp.step Rp.add
  repeat' split
  all_goals (first | rfl | (congr 1 <;> (dsimp only; omega)))
theorem lookF_append (a b : List Ev) : lookF (a ++ b) = (lookF a).add (lookF b) := by
  have : ∀ (b : List Ev) (x y : Rp), b.foldl Rp.step (x.add y) = x.add (b.foldl Rp.step y) := by
    intro b
    induction b with
    | nil => intro x y; rfl
    | cons e b ih => intro x y; rw [List.foldl_cons, List.foldl_cons, ← Rp.step_add, ih]
  unfold lookF
  rw [List.foldl_append, ← this]
  congr 1
  unfold Rp.add Rp.zero
  simp
theorem safeF_append (a b : List Ev) : safeF (a ++ b) = if safeF a < 0 ∧ 0 ≤ safeF b then a.length + safeF b else safeF a := by
  unfold safeF
  rw [List.findIdx?_append]
  cases ha : a.findIdx? isDead with
  | some k => simp; omega
  | none =>
    cases hb : b.findIdx? isDead with
    | some k => simp; omega
    | none => simp
theorem safeF_bd (a : List Ev) : -1 ≤ safeF a ∧ safeF a < a.length := by
  unfold safeF
  cases ha : a.findIdx? isDead with
  | some k => have := (List.findIdx?_eq_some_iff_getElem.1 ha).1; simp; omega
  | none => simp; omega
theorem dead_of_safe (a : List Ev) : ((lookF a).dead == 0) = (safeF a == -1) := by
  have key : ∀ (l : List Ev) (r : Rp), 0 ≤ r.dead → r.dead ≤ (l.foldl Rp.step r).dead ∧ ((l.foldl Rp.step r).dead = r.dead ↔ ∀ e ∈ l, isDead e = false) := by
    intro l
    induction l with
    | nil => intro r h; simp
    | cons e l ih =>
      intro r h
      have hs : (r.step e).dead = if isDead e then r.dead + 1 else r.dead := by
        unfold Rp.step isDead
        by_cases h1 : e.kind = 98
        · simp [h1]
        by_cases h2 : e.kind = 101
        · simp [h2]; split <;> rfl
        by_cases h3 : e.kind = 100
        · simp [h3, isDead]; split <;> rfl
        · simp [h1, h2, h3]; split <;> (try split) <;> rfl
      have := ih (r.step e) (by rw [hs]; split <;> omega)
      rw [List.foldl_cons]
      rw [hs] at this
      cases hd : isDead e with
      | true =>
        simp [hd] at this ⊢
        constructor
        · omega
        · intro h; omega
      | false =>
        simp [hd] at this ⊢
        exact this
  have h := key a Rp.zero (by decide)
  rw [show a.foldl Rp.step Rp.zero = lookF a from rfl, show Rp.zero.dead = 0 from rfl] at h
  rw [Bool.eq_iff_iff, beq_iff_eq, beq_iff_eq]
  rw [h.2]
  unfold safeF
  cases ha : a.findIdx? isDead with
  | some k =>
    obtain ⟨hlt, hd, _⟩ := List.findIdx?_eq_some_iff_getElem.1 ha
    constructor
    · intro h'
      have := h' _ (List.getElem_mem hlt)
      rw [hd] at this
      cases this
    · intro h'
      dsimp only at h'
      omega
  | none => simpa using List.findIdx?_eq_none_iff.1 ha

/-! ### the example at the head -/
def ev0 (k : Int) : Ev := ⟨k, 0, 0, 0, 0, 0, 0, 0, 0, 0, false, 0, false, none, 0, []⟩
theorem evs_one {w : World} {g : Nat} {t : TypeId} {e : Ev} (h : Blk w g t e.cells.toArray) (he : EvWs w w.heap.size e) : Evs w w.heap.size (some ⟨g, 0, none⟩) [e] :=
  ⟨by simpa using Sl.of_blk (n := 1) (sz := 14) h rfl, fun x hx => by simp at hx; subst hx; exact he⟩
set_option maxHeartbeats 400000 in
theorem shown20_any (w : World) : Calls Try.prog 12 #[] w fun x w' => x = .returned (.bool true) ∧ Below w.heap.size w w' := by
  go_enter Try.func12, Try.ntmps12
  go_wp2_with fail
  refine (safe_any none 0 0 [] w ⟨Sl.nil, by simp⟩ rfl (by omega)).mono ?_
  rintro x w1 ⟨rfl, hb1⟩
  rw [show safeF [] = -1 from rfl]
  go_wp2_with fail
  have hB := Blk.new w1 40 (ev0 114).cells.toArray
  have he := evs_one hB Sl.nil
  refine (replies_any _ 1 1 [ev0 114] _ he rfl (by omega)).mono ?_
  rintro x w2 ⟨rfl, hb2⟩
  rw [show repliesF [ev0 114] = 0 from by decide]
  go_wp2_with fail
  go_ret
  refine ⟨rfl, below_thn hb1 (below_thn ((Below.refl _ _).alloc (Nat.le_refl _) _) hb2)⟩

theorem ev_one (l : List Ev) : ∀ u ∈ l.flatMap Ev.cells, u.oneCell' = true := by
  intro u hu
  obtain ⟨e, _, he⟩ := List.mem_flatMap.1 hu
  simp [Ev.cells] at he
  rcases he with rfl | rfl | rfl | rfl | rfl | rfl | rfl | rfl | rfl | rfl | rfl | rfl | rfl | rfl <;> rfl
theorem ev_info : (Try.prog.info? 40).map (fun i => (i.zero.map (fun z => z.cells.size), i.size, i.bytes)) = some (some 14, 14, 120) := by kernel_rfl

set_option maxRecDepth 100000 in
set_option maxHeartbeats 1000000 in
theorem adds_any (w : World) (A1 : Option Addr) (n1 c1 : Nat) (a : List Ev) (ha : Evs w w.heap.size A1 a) (hn1 : n1 = a.length) (hm1 : n1 ≤ 9223372036854775807)
    (A2 : Option Addr) (n2 c2 : Nat) (b : List Ev) (hb : Evs w w.heap.size A2 b) (hn2 : n2 = b.length) (hm2 : n2 ≤ 9223372036854775807) :
    Calls Try.prog 3 #[.slice A1 n1 c1, .slice A2 n2 c2] w fun x w' => x = .returned (.bool true) ∧ Below w.heap.size w w' := by
  obtain ⟨i0, z0, hi, hz, hs, hby, hzs⟩ := info_cells ev_info
  have HN1 := Lib.hid hn1
  have HN2 := Lib.hid hn2
  have HI := Lib.hid hi
  have HZ := Lib.hid hz
  have HS := Lib.hid hs
  have HBY := Lib.hid hby
  have HZS := Lib.hid hzs
  clear hn1 hn2 hi hz hs hby hzs
  go_enter Try.func3, Try.ntmps3
  go_wp2_with fail
  refine (shown20_any _).mono ?_
  rintro x w1 ⟨rfl, hb1⟩
  have ha1 := ha.thn hb1
  have hc1 := hb.thn hb1
  by_cases hbig : 100 < n1
  · go_wp2_with fail
    go_ret
    exact ⟨rfl, hb1⟩
  by_cases hbig2 : 100 < n2
  · go_wp2_with fail
    go_ret
    exact ⟨rfl, hb1⟩
  have hq1 : decide ((100 : Int) < (n1 : Int)) = false := by simp; omega
  have hq2 : decide ((100 : Int) < (n2 : Int)) = false := by simp; omega
  have hown0 := World.ownsRow_made (base := w1.heap.size) (e := 40) (size := 14) w1 #[] 0 (Nat.le_refl _) (Nat.zero_le _) rfl
  have hb2 : Below w1.heap.size w1 (w1.alloc (.cells #[] 40)) := (Below.refl _ _).alloc (Nat.le_refl _) _
  have ha2 := ha1.thn hb2
  have hc2 := hc1.thn hb2
  obtain ⟨w2, hw2⟩ : ∃ w2, w1.alloc (.cells #[] 40) = w2 := ⟨_, rfl⟩
  rw [hw2] at hown0 hb2 ha2 hc2
  have HW2 := Lib.hid hw2
  clear hw2
  have tok1 : True := trivial
  go_wp2_with (first
    | (at_builtin; have _t := tok1; rw [HW2.out]; refine wpList_append_sl rfl rfl Try.underlying22 HI.out HZ.out HS.out HBY.out HZS.out (by omega) rfl hown0 rfl (by rw [HN1.out]; exact ha2.1) (ev_one _) (by simp only [maxLen]; omega) (by omega) hb2.size ?_; intro v3 w3 hown3 hg3 hat3; clear tok1; simp only [Nat.zero_add, List.nil_append] at hown3; have hb3 : Below w1.heap.size w1 w3 := below_app hb2 hown0 (Nat.le_refl _) hb2.size hg3; have ha3 := ha1.thn hb3; have hc3 := hc1.thn hb3)
    | (at_builtin; refine wpList_append_sl rfl rfl Try.underlying22 HI.out HZ.out HS.out HBY.out HZS.out (by omega) rfl hown3 rfl (by rw [HN2.out]; exact hc3.1) (ev_one _) (by simp only [maxLen]; omega) (by omega) hb3.size ?_; intro v4 w4 hown4 hg4 hat4; have hb4 : Below w1.heap.size w1 w4 := below_app hb3 hown3 (Nat.le_refl _) hb3.size hg4; have ha4 := ha1.thn hb4; have hc4 := hc1.thn hb4)
    | fail)
  have hb5 := below_thn hb1 hb4
  obtain ⟨A4, c4, rfl, hsl4⟩ := own_slice hown4
  rw [← List.flatMap_append] at hsl4
  have hall : Evs w4 w4.heap.size A4 (a ++ b) := ⟨by rw [List.length_append, ← HN1.out, ← HN2.out]; exact hsl4, fun e he => (List.mem_append.1 he).elim (ha4.2 e) (hc4.2 e)⟩
  clear hown0 hb2 ha2 hc2 hown3 hg3 hat3 hb3 ha3 hc3 hown4 hg4 hat4 hb4 hsl4 ha hb hb1 ha1 hc1 HW2 HI HZ HS HBY HZS
  obtain ⟨⟨x0, x1, x2, x3, x4, x5, x6⟩, hx⟩ : ∃ x, lookF a = x := ⟨_, rfl⟩
  obtain ⟨⟨y0, y1, y2, y3, y4, y5, y6⟩, hy⟩ : ∃ y, lookF b = y := ⟨_, rfl⟩
  have hz : lookF (a ++ b) = ⟨x0 + y0, x1 + y1, x2 + y2, x3 + y3, x4 + y4, x5 + y5, x6 + y6⟩ := by rw [lookF_append, hx, hy]; rfl
  have lx := lookF_le a
  have ly := lookF_le b
  rw [hx, ← HN1.out] at lx
  rw [hy, ← HN2.out] at ly
  unfold Rp.le at lx ly
  dsimp only at lx ly
  have hds := dead_of_safe (a ++ b)
  rw [hz] at hds
  dsimp only at hds
  have HX := Lib.hid hx
  have HY := Lib.hid hy
  have HZ := Lib.hid hz
  clear hx hy hz
  refine (look_any _ _ _ a _ ha4 HN1.out hm1).mono ?_
  rintro x w5 ⟨rfl, hb6⟩
  rw [HX.out]
  simp only [Rp.cells]
  have ha5 := ha4.thn hb6
  have hc5 := hc4.thn hb6
  have hall5 := hall.thn hb6
  go_wp2_with fail
  have bX := Blk.new w5 25 #[.int .i64 x0, .int .i64 x1, .int .i64 x2, .int .i64 x3, .int .i64 x4, .int .i64 x5, .int .i64 x6]
  have hbX := (Below.refl w5.heap.size w5).alloc (Nat.le_refl _) (.cells #[.int .i64 x0, .int .i64 x1, .int .i64 x2, .int .i64 x3, .int .i64 x4, .int .i64 x5, .int .i64 x6] 25)
  refine (look_any _ _ _ b _ (hc5.thn hbX) HN2.out hm2).mono ?_
  rintro x w6 ⟨rfl, hb7⟩
  rw [HY.out]
  simp only [Rp.cells]
  have ha6 := (ha5.thn hbX).thn hb7
  have hc6 := (hc5.thn hbX).thn hb7
  have hall6 := (hall5.thn hbX).thn hb7
  have bX6 := bX.below hb7 bX.lt
  have hb8 := below_thn (below_thn (below_thn hb5 hb6) hbX) hb7
  clear bX hbX hb7 hb6 ha5 hc5 hall5 ha4 hc4 hall hb5
  generalize w5.heap.size = X at *
  go_wp2_with fail
  have bY := Blk.new w6 25 #[.int .i64 y0, .int .i64 y1, .int .i64 y2, .int .i64 y3, .int .i64 y4, .int .i64 y5, .int .i64 y6]
  have hbY := (Below.refl w6.heap.size w6).alloc (Nat.le_refl _) (.cells #[.int .i64 y0, .int .i64 y1, .int .i64 y2, .int .i64 y3, .int .i64 y4, .int .i64 y5, .int .i64 y6] 25)
  refine (look_any _ _ _ (a ++ b) _ (hall6.thn hbY) (by rw [List.length_append, ← HN1.out, ← HN2.out]) (by omega)).mono ?_
  rintro x w7 ⟨rfl, hb9⟩
  rw [HZ.out]
  simp only [Rp.cells]
  have ha7 := (ha6.thn hbY).thn hb9
  have hc7 := (hc6.thn hbY).thn hb9
  have hall7 := (hall6.thn hbY).thn hb9
  have bX7 := (bX6.alloc (.cells #[.int .i64 y0, .int .i64 y1, .int .i64 y2, .int .i64 y3, .int .i64 y4, .int .i64 y5, .int .i64 y6] 25)).below hb9 (by have := bX6.lt; simp; omega)
  have bY7 := bY.below hb9 bY.lt
  have hXY : X < w6.heap.size := bX6.lt
  have hb10 := below_thn (below_thn hb8 hbY) hb9
  clear bX6 bY hbY hb9 hb8 ha6 hc6 hall6
  generalize w6.heap.size = Y at *
  have qx0 : ∀ o, (w7.alloc o).cell? ⟨X, 0, none⟩ = some (.int .i64 x0) := fun o => (bX7.alloc o).cell 0
  have qx1 : ∀ o, (w7.alloc o).cell? ⟨X, 1, none⟩ = some (.int .i64 x1) := fun o => (bX7.alloc o).cell 1
  have qx2 : ∀ o, (w7.alloc o).cell? ⟨X, 2, none⟩ = some (.int .i64 x2) := fun o => (bX7.alloc o).cell 2
  have qx3 : ∀ o, (w7.alloc o).cell? ⟨X, 3, none⟩ = some (.int .i64 x3) := fun o => (bX7.alloc o).cell 3
  have qx4 : ∀ o, (w7.alloc o).cell? ⟨X, 4, none⟩ = some (.int .i64 x4) := fun o => (bX7.alloc o).cell 4
  have qx5 : ∀ o, (w7.alloc o).cell? ⟨X, 5, none⟩ = some (.int .i64 x5) := fun o => (bX7.alloc o).cell 5
  have qx6 : ∀ o, (w7.alloc o).cell? ⟨X, 6, none⟩ = some (.int .i64 x6) := fun o => (bX7.alloc o).cell 6
  have qy0 : ∀ o, (w7.alloc o).cell? ⟨Y, 0, none⟩ = some (.int .i64 y0) := fun o => (bY7.alloc o).cell 0
  have qy1 : ∀ o, (w7.alloc o).cell? ⟨Y, 1, none⟩ = some (.int .i64 y1) := fun o => (bY7.alloc o).cell 1
  have qy2 : ∀ o, (w7.alloc o).cell? ⟨Y, 2, none⟩ = some (.int .i64 y2) := fun o => (bY7.alloc o).cell 2
  have qy3 : ∀ o, (w7.alloc o).cell? ⟨Y, 3, none⟩ = some (.int .i64 y3) := fun o => (bY7.alloc o).cell 3
  have qy4 : ∀ o, (w7.alloc o).cell? ⟨Y, 4, none⟩ = some (.int .i64 y4) := fun o => (bY7.alloc o).cell 4
  have qy5 : ∀ o, (w7.alloc o).cell? ⟨Y, 5, none⟩ = some (.int .i64 y5) := fun o => (bY7.alloc o).cell 5
  have qy6 : ∀ o, (w7.alloc o).cell? ⟨Y, 6, none⟩ = some (.int .i64 y6) := fun o => (bY7.alloc o).cell 6
  have HXY := Lib.hid hXY
  clear hXY bX7 bY7
  obtain ⟨lx0, lx1, lx2, lx3, lx4, lx5, lx6⟩ := lx
  obtain ⟨ly0, ly1, ly2, ly3, ly4, ly5, ly6⟩ := ly
  go_wp2_with fail
  have bZ := (Blk.new w7 25 #[.int .i64 (x0 + y0), .int .i64 (x1 + y1), .int .i64 (x2 + y2), .int .i64 (x3 + y3), .int .i64 (x4 + y4), .int .i64 (x5 + y5), .int .i64 (x6 + y6)]).alloc (.cells #[.int .i64 (x0 + y0), .int .i64 (x1 + y1), .int .i64 (x2 + y2), .int .i64 (x3 + y3), .int .i64 (x4 + y4), .int .i64 (x5 + y5), .int .i64 (x6 + y6)] 25)
  have bS := Blk.new (w7.alloc (.cells #[.int .i64 (x0 + y0), .int .i64 (x1 + y1), .int .i64 (x2 + y2), .int .i64 (x3 + y3), .int .i64 (x4 + y4), .int .i64 (x5 + y5), .int .i64 (x6 + y6)] 25)) 25 #[.int .i64 (x0 + y0), .int .i64 (x1 + y1), .int .i64 (x2 + y2), .int .i64 (x3 + y3), .int .i64 (x4 + y4), .int .i64 (x5 + y5), .int .i64 (x6 + y6)]
  rw [World.size_alloc] at bS
  have hbS := ((Below.refl w7.heap.size w7).alloc (Nat.le_refl _) (.cells #[.int .i64 (x0 + y0), .int .i64 (x1 + y1), .int .i64 (x2 + y2), .int .i64 (x3 + y3), .int .i64 (x4 + y4), .int .i64 (x5 + y5), .int .i64 (x6 + y6)] 25)).alloc (by simp) (.cells #[.int .i64 (x0 + y0), .int .i64 (x1 + y1), .int .i64 (x2 + y2), .int .i64 (x3 + y3), .int .i64 (x4 + y4), .int .i64 (x5 + y5), .int .i64 (x6 + y6)] 25)
  have ha8 := ha7.thn hbS
  have hc8 := hc7.thn hbS
  have hall8 := hall7.thn hbS
  have hb11 := below_thn hb10 hbS
  refine (safe_any _ _ _ a _ ha8 HN1.out hm1).mono ?_
  rintro x w8 ⟨rfl, hb12⟩
  have hc9 := hc8.thn hb12
  have hall9 := hall8.thn hb12
  have bZ9 := bZ.below hb12 bZ.lt
  have bS9 := bS.below hb12 bS.lt
  have hb13 := below_thn hb11 hb12
  clear ha8 hc8 hall8 hb11 hb12 bZ bS hbS ha7 hc7 hall7 hb10 qx0 qx1 qx2 qx3 qx4 qx5 qx6 qy0 qy1 qy2 qy3 qy4 qy5 qy6
  have hsa := safeF_bd a
  have hsb := safeF_bd b
  have hap := safeF_append a b
  rw [← HN1.out] at hsa hap
  rw [← HN2.out] at hsb
  obtain ⟨sa, hsa'⟩ : ∃ sa, safeF a = sa := ⟨_, rfl⟩
  obtain ⟨sb, hsb'⟩ : ∃ sb, safeF b = sb := ⟨_, rfl⟩
  rw [hsa'] at hsa hap
  rw [hsb'] at hsb hap
  rw [hsa']
  have HSB := Lib.hid hsb'
  clear hsa' hsb'
  obtain ⟨sc, hsc⟩ : ∃ sc, safeF (a ++ b) = sc := ⟨_, rfl⟩
  rw [hsc] at hap hds
  have HSC := Lib.hid hsc
  clear hsc
  generalize w7.heap.size = Z at *
  have hlen2 : n1 + n2 = (a ++ b).length := by rw [List.length_append, ← HN1.out, ← HN2.out]
  have HLEN := Lib.hid hlen2
  have hds' : ((x4 + y4 == 0) == (sc == -1)) = true := by rw [hds]; simp
  clear hlen2 hds
  by_cases h0 : 0 ≤ sa
  · rw [if_neg (by omega)] at hap
    subst hap
    have hlt : decide (sc < 0) = false := by simp; omega
    have z0 : w8.cell? ⟨Z, 0, none⟩ = some (.int .i64 (x0 + y0)) := bZ9.cell 0
    have s0 : w8.cell? ⟨Z + 1, 0, none⟩ = some (.int .i64 (x0 + y0)) := bS9.cell 0
    have z1 : w8.cell? ⟨Z, 1, none⟩ = some (.int .i64 (x1 + y1)) := bZ9.cell 1
    have s1 : w8.cell? ⟨Z + 1, 1, none⟩ = some (.int .i64 (x1 + y1)) := bS9.cell 1
    have z2 : w8.cell? ⟨Z, 2, none⟩ = some (.int .i64 (x2 + y2)) := bZ9.cell 2
    have s2 : w8.cell? ⟨Z + 1, 2, none⟩ = some (.int .i64 (x2 + y2)) := bS9.cell 2
    have z3 : w8.cell? ⟨Z, 3, none⟩ = some (.int .i64 (x3 + y3)) := bZ9.cell 3
    have s3 : w8.cell? ⟨Z + 1, 3, none⟩ = some (.int .i64 (x3 + y3)) := bS9.cell 3
    have z4 : w8.cell? ⟨Z, 4, none⟩ = some (.int .i64 (x4 + y4)) := bZ9.cell 4
    have s4 : w8.cell? ⟨Z + 1, 4, none⟩ = some (.int .i64 (x4 + y4)) := bS9.cell 4
    have z5 : w8.cell? ⟨Z, 5, none⟩ = some (.int .i64 (x5 + y5)) := bZ9.cell 5
    have s5 : w8.cell? ⟨Z + 1, 5, none⟩ = some (.int .i64 (x5 + y5)) := bS9.cell 5
    have z6 : w8.cell? ⟨Z, 6, none⟩ = some (.int .i64 (x6 + y6)) := bZ9.cell 6
    have s6 : w8.cell? ⟨Z + 1, 6, none⟩ = some (.int .i64 (x6 + y6)) := bS9.cell 6
    go_wp2_with fail
    refine (safe_any _ _ _ (a ++ b) _ hall9 HLEN.out (by omega)).mono ?_
    rintro x w9 ⟨rfl, hb14⟩
    rw [HSC.out]
    have z4' : w9.cell? ⟨Z, 4, none⟩ = some (.int .i64 (x4 + y4)) := (bZ9.below hb14 bZ9.lt).cell 4
    clear z0 z1 z2 z3 z4 z5 z6 s0 s1 s2 s3 s4 s5 s6
    go_wp2_with fail
    go_ret
    exact ⟨by simp [hds'], below_thn hb13 hb14⟩
  · have hlt : decide (sa < 0) = true := by simp; omega
    go_wp2_with fail
    refine (safe_any _ _ _ b _ hc9 HN2.out (by omega)).mono ?_
    rintro x w9 ⟨rfl, hb14⟩
    rw [HSB.out]
    have hc10 := hc9.thn hb14
    have hall10 := hall9.thn hb14
    have bZ10 := bZ9.below hb14 bZ9.lt
    have bS10 := bS9.below hb14 bS9.lt
    have hb15 := below_thn hb13 hb14
    clear hc9 hall9 bZ9 bS9 hb13 hb14
    by_cases h1 : 0 ≤ sb
    · rw [if_pos (by omega)] at hap
      have hge : decide (0 ≤ sb) = true := by simp; omega
      go_wp2_with fail
      refine (safe_any _ _ _ b _ hc10 HN2.out (by omega)).mono ?_
      rintro x w10 ⟨rfl, hb16⟩
      rw [HSB.out]
      have hall11 := hall10.thn hb16
      have bZ11 := bZ10.below hb16 bZ10.lt
      have bS11 := bS10.below hb16 bS10.lt
      have hb17 := below_thn hb15 hb16
      clear hc10 hall10 bZ10 bS10 hb15 hb16
      obtain rfl : (n1 : Int) + sb = sc := hap.symm
      have z0 : w10.cell? ⟨Z, 0, none⟩ = some (.int .i64 (x0 + y0)) := bZ11.cell 0
      have s0 : w10.cell? ⟨Z + 1, 0, none⟩ = some (.int .i64 (x0 + y0)) := bS11.cell 0
      have z1 : w10.cell? ⟨Z, 1, none⟩ = some (.int .i64 (x1 + y1)) := bZ11.cell 1
      have s1 : w10.cell? ⟨Z + 1, 1, none⟩ = some (.int .i64 (x1 + y1)) := bS11.cell 1
      have z2 : w10.cell? ⟨Z, 2, none⟩ = some (.int .i64 (x2 + y2)) := bZ11.cell 2
      have s2 : w10.cell? ⟨Z + 1, 2, none⟩ = some (.int .i64 (x2 + y2)) := bS11.cell 2
      have z3 : w10.cell? ⟨Z, 3, none⟩ = some (.int .i64 (x3 + y3)) := bZ11.cell 3
      have s3 : w10.cell? ⟨Z + 1, 3, none⟩ = some (.int .i64 (x3 + y3)) := bS11.cell 3
      have z4 : w10.cell? ⟨Z, 4, none⟩ = some (.int .i64 (x4 + y4)) := bZ11.cell 4
      have s4 : w10.cell? ⟨Z + 1, 4, none⟩ = some (.int .i64 (x4 + y4)) := bS11.cell 4
      have z5 : w10.cell? ⟨Z, 5, none⟩ = some (.int .i64 (x5 + y5)) := bZ11.cell 5
      have s5 : w10.cell? ⟨Z + 1, 5, none⟩ = some (.int .i64 (x5 + y5)) := bS11.cell 5
      have z6 : w10.cell? ⟨Z, 6, none⟩ = some (.int .i64 (x6 + y6)) := bZ11.cell 6
      have s6 : w10.cell? ⟨Z + 1, 6, none⟩ = some (.int .i64 (x6 + y6)) := bS11.cell 6
      go_wp2_with fail
      refine (safe_any _ _ _ (a ++ b) _ hall11 HLEN.out (by omega)).mono ?_
      rintro x w11 ⟨rfl, hb18⟩
      rw [HSC.out]
      have z4' : w11.cell? ⟨Z, 4, none⟩ = some (.int .i64 (x4 + y4)) := (bZ11.below hb18 bZ11.lt).cell 4
      clear z0 z1 z2 z3 z4 z5 z6 s0 s1 s2 s3 s4 s5 s6
      go_wp2_with fail
      go_ret
      exact ⟨by simp [hds'], below_thn hb17 hb18⟩
    · rw [if_neg (by omega)] at hap
      have hge : decide (0 ≤ sb) = false := by simp; omega
      subst hap
      have z0 : w9.cell? ⟨Z, 0, none⟩ = some (.int .i64 (x0 + y0)) := bZ10.cell 0
      have s0 : w9.cell? ⟨Z + 1, 0, none⟩ = some (.int .i64 (x0 + y0)) := bS10.cell 0
      have z1 : w9.cell? ⟨Z, 1, none⟩ = some (.int .i64 (x1 + y1)) := bZ10.cell 1
      have s1 : w9.cell? ⟨Z + 1, 1, none⟩ = some (.int .i64 (x1 + y1)) := bS10.cell 1
      have z2 : w9.cell? ⟨Z, 2, none⟩ = some (.int .i64 (x2 + y2)) := bZ10.cell 2
      have s2 : w9.cell? ⟨Z + 1, 2, none⟩ = some (.int .i64 (x2 + y2)) := bS10.cell 2
      have z3 : w9.cell? ⟨Z, 3, none⟩ = some (.int .i64 (x3 + y3)) := bZ10.cell 3
      have s3 : w9.cell? ⟨Z + 1, 3, none⟩ = some (.int .i64 (x3 + y3)) := bS10.cell 3
      have z4 : w9.cell? ⟨Z, 4, none⟩ = some (.int .i64 (x4 + y4)) := bZ10.cell 4
      have s4 : w9.cell? ⟨Z + 1, 4, none⟩ = some (.int .i64 (x4 + y4)) := bS10.cell 4
      have z5 : w9.cell? ⟨Z, 5, none⟩ = some (.int .i64 (x5 + y5)) := bZ10.cell 5
      have s5 : w9.cell? ⟨Z + 1, 5, none⟩ = some (.int .i64 (x5 + y5)) := bS10.cell 5
      have z6 : w9.cell? ⟨Z, 6, none⟩ = some (.int .i64 (x6 + y6)) := bZ10.cell 6
      have s6 : w9.cell? ⟨Z + 1, 6, none⟩ = some (.int .i64 (x6 + y6)) := bS10.cell 6
      go_wp2_with fail
      refine (safe_any _ _ _ (a ++ b) _ hall10 HLEN.out (by omega)).mono ?_
      rintro x w10 ⟨rfl, hb16⟩
      rw [HSC.out]
      have z4' : w10.cell? ⟨Z, 4, none⟩ = some (.int .i64 (x4 + y4)) := (bZ10.below hb16 bZ10.lt).cell 4
      clear z0 z1 z2 z3 z4 z5 z6 s0 s1 s2 s3 s4 s5 s6
      go_wp2_with fail
      go_ret
      exact ⟨by simp [hds'], below_thn hb15 hb16⟩
end Go.Proofs.Ytbgibbbggajgaaa
