/- Look and Safe, walked: what is counted is a fold over the events; the first dead one. -/
import Derived.Test.YtbgibbbggajgaaaEv
namespace Go.Proofs.Ytbgibbbggajgaaa
set_option linter.all false
open Go.RowKit Go.Shelf
attribute [local go_sem] Oper.semAt_some

structure Rp where
  begun : Int
  ended : Int
  errs : Int
  deliv : Int
  dead : Int
  sent : Int
  repl : Int
def Rp.cells (r : Rp) : Array Value := #[.int .i64 r.begun, .int .i64 r.ended, .int .i64 r.errs, .int .i64 r.deliv, .int .i64 r.dead, .int .i64 r.sent, .int .i64 r.repl]
def Rp.zero : Rp := ⟨0, 0, 0, 0, 0, 0, 0⟩
def Rp.step (r : Rp) (e : Ev) : Rp :=
  if e.kind = 98 then { r with begun := r.begun + 1 }
  else if e.kind = 101 then (if e.err = 0 then { r with ended := r.ended + 1 } else { r with ended := r.ended + 1, errs := r.errs + 1 })
  else if e.kind = 100 then (if isDead e then { r with deliv := r.deliv + 1, dead := r.dead + 1 } else { r with deliv := r.deliv + 1 })
  else if e.kind = 115 then { r with sent := r.sent + 1 }
  else if e.kind = 114 then { r with repl := r.repl + 1 }
  else r
def lookF (l : List Ev) : Rp := l.foldl Rp.step Rp.zero
theorem lookF_snoc (l : List Ev) (e : Ev) : lookF (l ++ [e]) = (lookF l).step e := by simp [lookF]
def Rp.le (r : Rp) (n : Int) : Prop := (0 ≤ r.begun ∧ r.begun ≤ n) ∧ (0 ≤ r.ended ∧ r.ended ≤ n) ∧ (0 ≤ r.errs ∧ r.errs ≤ n) ∧ (0 ≤ r.deliv ∧ r.deliv ≤ n) ∧ (0 ≤ r.dead ∧ r.dead ≤ n) ∧ (0 ≤ r.sent ∧ r.sent ≤ n) ∧ (0 ≤ r.repl ∧ r.repl ≤ n)
theorem Rp.step_le {r : Rp} {n : Int} (h : r.le n) (e : Ev) : (r.step e).le (n + 1) := by
  unfold Rp.le at *
  unfold Rp.step
  repeat' split
  all_goals ((try dsimp only); omega)
theorem lookF_le (l : List Ev) : (lookF l).le l.length := by
  have : ∀ (l : List Ev) (r : Rp) (n : Nat), r.le n → (l.foldl Rp.step r).le ((l.length + n : Nat)) := by
    intro l
    induction l with
    | nil => intro r n h; simpa using h
    | cons e l ih =>
      intro r n h
      have := ih (r.step e) (n + 1) (by simpa using Rp.step_le h e)
      rw [List.foldl_cons, List.length_cons, show l.length + 1 + n = l.length + (n + 1) by omega]
      exact this
  simpa [lookF] using this l Rp.zero 0 (by unfold Rp.le Rp.zero; simp)

/-- the events at some places -/
def evsAt (evs : List Ev) (pre : List (Fin evs.length)) : List Ev := pre.map fun x => evs[x]
theorem evsAt_snoc (evs : List Ev) (pre : List (Fin evs.length)) (x : Fin evs.length) : evsAt evs (pre ++ [x]) = evsAt evs pre ++ [evs[x]] := by simp [evsAt]
theorem evsAt_all (evs : List Ev) : evsAt evs (List.finRange evs.length) = evs := by
  unfold evsAt
  apply List.ext_getElem
  · simp
  · intro i h1 h2
    simp

theorem Evs.places {w : World} {A : Option Addr} {evs : List Ev} (h : Evs w w.heap.size A evs) :
    ∃ b off, (0 < evs.length → A = some ⟨b, off, none⟩) ∧ (0 < evs.length → b < w.heap.size) ∧ ∀ x : Fin evs.length, EvAt w b (off + x.1 * 14) evs[x] := by
  rcases Nat.eq_zero_or_pos evs.length with h0 | hp
  · exact ⟨0, 0, fun h => by omega, fun h => by omega, fun x => absurd x.2 (by omega)⟩
  · obtain ⟨b, off, hA, hb, _⟩ := h.at_ (List.getElem?_eq_getElem hp)
    refine ⟨b, off, fun _ => hA, fun _ => hb, fun x => ?_⟩
    obtain ⟨b', off', hA', hb', hc'⟩ := h.at_ (List.getElem?_eq_getElem x.2)
    rw [hA] at hA'
    injection hA' with hA'
    injection hA' with e1 e2
    subst e1; subst e2
    exact hc'

set_option maxRecDepth 100000 in
set_option maxHeartbeats 2000000 in
theorem look_any (A : Option Addr) (n c : Nat) (evs : List Ev) (w : World) (h : Evs w w.heap.size A evs) (hn : n = evs.length) (hb : n ≤ 9223372036854775807) :
    Calls Try.prog 13 #[.slice A n c] w fun x w' => x = .returned (.agg (lookF evs).cells) ∧ Below w.heap.size w w' := by
  subst hn
  obtain ⟨b, off, hA, hbB, hcells⟩ := h.places
  refine (callsIn_wide (n := 9)).1 ?_
  refine callsIn_of_wp_marks Try.func13 rfl trivial ?_ rfl
  simp only [Try.ntmps13, List.size_toArray, List.length_cons, List.length_nil, Nat.reduceAdd, Nat.reduceSub, Array.replicate_succ, Array.replicate_zero, List.push_toArray, List.append_toArray, List.nil_append, List.cons_append]
  gi_wp2_with (refine ⟨trivial, ?_⟩; gi_at_call 39; refine (callsIn_wide.2 (each_any _ _ _ _)).mono ?_; rintro e w' ⟨rfl, rfl⟩)
  have bZ := Blk.new w 25 Rp.zero.cells
  have bR := Blk.new (w.alloc (.cells Rp.zero.cells 25)) 25 Rp.zero.cells
  have bN := Blk.new ((w.alloc (.cells Rp.zero.cells 25)).alloc (.cells Rp.zero.cells 25)) 22 #[.slice A evs.length c]
  rw [World.size_alloc] at bR
  rw [World.size_alloc, World.size_alloc] at bN
  obtain ⟨W0, hW0⟩ : ∃ W0, ((w.alloc (.cells Rp.zero.cells 25)).alloc (.cells Rp.zero.cells 25)).alloc (.cells #[.slice A evs.length c] 22) = W0 := ⟨_, rfl⟩
  have hB0 : Below w.heap.size w W0 := by rw [← hW0]; exact (((Below.refl _ w).alloc (Nat.le_refl _) _).alloc (by simp) _).alloc (by simp; omega) _
  have hsz : W0.heap.size = w.heap.size + 1 + 1 + 1 := by rw [← hW0]; simp
  have cZ : Blk W0 w.heap.size 25 Rp.zero.cells := by rw [← hW0]; exact (bZ.alloc _).alloc _
  have cR : Blk W0 (w.heap.size + 1) 25 Rp.zero.cells := by rw [← hW0]; exact bR.alloc _
  have cN : Blk W0 (w.heap.size + 1 + 1) 22 #[.slice A evs.length c] := by rw [← hW0]; exact bN
  unfold Rp.zero Rp.cells at hW0
  dsimp only at hW0
  rw [hW0]
  clear bZ bR bN hW0
  refine range_law (gf := 63) (lb := #[.pointer (some ⟨w.heap.size + 1 + 1, 0, none⟩)]) rfl (enters_of Try.func63 (by kernel_rfl) rfl)
    (each_stops (w.heap.size + 1 + 1) w.heap.size (w.heap.size + 1 + 1) (W0.heap.size + 1 + 1) (W0.heap.size + 1 + 1) b off evs.length c A hA hb W0 (Nat.le_refl _) cN) Keeps.trans (keeps_b (by omega) (by omega)) (Below.refl _ _) (fun _ => rfl)
    (fun pre W => (Blk W (w.heap.size + 1) 25 (lookF (evsAt evs pre)).cells ∧ Blk W w.heap.size 25 Rp.zero.cells) ∧ Below w.heap.size w W)
    (fun _ _ _ => False)
    (OwnFrom.and (OwnFrom.and ((blk_own _ _ _).from _) ((blk_own _ _ _).from _)) (ownFrom_below (Nat.le_refl _) (by omega)))
    (fun _ _ _ _ _ hs _ _ => hs)
    ⟨⟨cR, cZ⟩, hB0⟩
    (fun x => { tmps := #[.slice A evs.length c, undef, .pointer (some ⟨w.heap.size, 0, none⟩), .pointer (some ⟨w.heap.size + 1, 0, none⟩), undef, .pointer (some ⟨b, off + x.1 * 14, none⟩), .slice A evs.length c, .func (.func 63) #[] #[.pointer (some ⟨w.heap.size + 1 + 1, 0, none⟩)], .int .i64 (x.1 : Int), .pointer (some ⟨b, off + x.1 * 14, none⟩), undef, undef, undef, undef, undef, undef, undef, undef, undef, undef, undef, undef, undef, undef, undef, undef, undef, undef, undef, undef, undef, undef, undef, undef, undef, undef, undef, undef, undef, undef, undef, undef, undef, undef, undef, undef, undef, undef, undef, undef, undef, undef, undef, undef, undef, undef, undef, undef, undef, undef, undef], defers := [] }) ?assign ?body ?done ?stop
  case assign =>
    intro l x W K hK
    unfold evEnc
    gi_wp2
    exact hK
  case body =>
    rintro l pre x W ⟨⟨hR, hZ⟩, hB⟩ hlen
    have hev := hcells x
    obtain ⟨e, he⟩ : ∃ e, evs[x] = e := ⟨_, rfl⟩
    have hbx : b < w.heap.size := hbB (by have := x.2; omega)
    have hle := lookF_le (evsAt evs pre)
    have hll : (evsAt evs pre).length = pre.length := by simp [evsAt]
    rw [hll] at hle
    rw [he] at hev
    have hc : ∀ f u, e.cells[f]? = some u → W.cell? ⟨b, off + x.1 * 14 + f, none⟩ = some u := fun f u hu => (hB.cell (p := ⟨b, off + x.1 * 14 + f, none⟩) hbx).trans (hev f u hu)
    have h0 := hc 0 _ rfl
    have h6 := hc 6 _ rfl
    simp only [Nat.add_zero] at h0
    have hst : lookF (evsAt evs (pre ++ [x])) = (lookF (evsAt evs pre)).step e := by rw [evsAt_snoc, lookF_snoc, he]
    generalize lookF (evsAt evs pre) = r at hR hle hst
    obtain ⟨r0, r1, r2, r3, r4, r5, r6⟩ := r
    unfold Rp.le at hle
    dsimp only at hle
    obtain ⟨l0, l1, l2, l3, l4, l5, l6⟩ := hle
    obtain ⟨l00, l01⟩ := l0
    obtain ⟨l10, l11⟩ := l1
    obtain ⟨l20, l21⟩ := l2
    obtain ⟨l30, l31⟩ := l3
    obtain ⟨l40, l41⟩ := l4
    obtain ⟨l50, l51⟩ := l5
    obtain ⟨l60, l61⟩ := l6
    have hl63 : (pre.length : Int) < 9223372036854775807 := by omega
    simp only [Rp.cells] at hR
    have c0 : W.cell? ⟨w.heap.size + 1, 0, none⟩ = some (.int .i64 r0) := hR.cell 0
    have c1 : W.cell? ⟨w.heap.size + 1, 1, none⟩ = some (.int .i64 r1) := hR.cell 1
    have c3 : W.cell? ⟨w.heap.size + 1, 3, none⟩ = some (.int .i64 r3) := hR.cell 3
    have c5 : W.cell? ⟨w.heap.size + 1, 5, none⟩ = some (.int .i64 r5) := hR.cell 5
    have c6 : W.cell? ⟨w.heap.size + 1, 6, none⟩ = some (.int .i64 r6) := hR.cell 6
    have hf := fun i => hR.frozen i
    have hK1 : ∀ i u, KeepsFrom W0.heap.size W (W.setCell ⟨w.heap.size + 1, i, none⟩ u) := fun i u => (KeepsOthers.setCell _ _ _).from _
    have hK2 : ∀ i u, Keeps w.heap.size (w.heap.size + 1 + 1) (W0.heap.size + 1 + 1) W (W.setCell ⟨w.heap.size + 1, i, none⟩ u) := fun i u => (Keeps.refl _ _ _ W).setCell (by simp) (by simp) u
    have hB2 : ∀ i u, Below w.heap.size w (W.setCell ⟨w.heap.size + 1, i, none⟩ u) := fun i u => hB.setCell (p := ⟨w.heap.size + 1, i, none⟩) (by simp) u
    have hZ2 : ∀ i u, Blk (W.setCell ⟨w.heap.size + 1, i, none⟩ u) w.heap.size 25 Rp.zero.cells := fun i u => hZ.far (by simp) u
    have HST := Lib.hid hst
    clear hst
    by_cases k98 : e.kind = 98
    · have q : (e.kind == 98) = true := by simpa using k98
      have HK := Lib.hid k98
      clear k98
      gi_wp2
      refine ⟨hK1 _ _, hK2 _ _, ⟨?_, hZ2 _ _⟩, hB2 _ _⟩
      rw [HST.out]
      refine (hR.set_ 0 _).conv ?_
      simp [Rp.step, Rp.cells, HK.out]
    have q98 : (e.kind == 98) = false := by simpa using k98
    have K98 := Lib.hid k98
    clear k98
    have h6' : ∀ i u, (W.setCell ⟨w.heap.size + 1, i, none⟩ u).cell? ⟨b, off + x.1 * 14 + 6, none⟩ = some (.int .i64 e.err) := fun i u => (World.cell?_setCell_other _ _ _ _ (fun h => by injection h with h; omega)).trans h6
    have c2' : ∀ u, (W.setCell ⟨w.heap.size + 1, 1, none⟩ u).cell? ⟨w.heap.size + 1, 2, none⟩ = some (.int .i64 r2) := fun u => (hR.set_ 1 u).cell 2
    have c4' : ∀ u, (W.setCell ⟨w.heap.size + 1, 3, none⟩ u).cell? ⟨w.heap.size + 1, 4, none⟩ = some (.int .i64 r4) := fun u => (hR.set_ 3 u).cell 4
    have hK1' : ∀ i u j v, KeepsFrom W0.heap.size W ((W.setCell ⟨w.heap.size + 1, i, none⟩ u).setCell ⟨w.heap.size + 1, j, none⟩ v) := fun i u j v => (hK1 i u).trans ((KeepsOthers.setCell _ _ _).from _)
    have hK2' : ∀ i u j v, Keeps w.heap.size (w.heap.size + 1 + 1) (W0.heap.size + 1 + 1) W ((W.setCell ⟨w.heap.size + 1, i, none⟩ u).setCell ⟨w.heap.size + 1, j, none⟩ v) := fun i u j v => (hK2 i u).setCell (by simp) (by simp) v
    have hB2' : ∀ i u j v, Below w.heap.size w ((W.setCell ⟨w.heap.size + 1, i, none⟩ u).setCell ⟨w.heap.size + 1, j, none⟩ v) := fun i u j v => (hB2 i u).setCell (p := ⟨w.heap.size + 1, j, none⟩) (by simp) v
    have hZ2' : ∀ i u j v, Blk ((W.setCell ⟨w.heap.size + 1, i, none⟩ u).setCell ⟨w.heap.size + 1, j, none⟩ v) w.heap.size 25 Rp.zero.cells := fun i u j v => (hZ2 i u).far (by simp) v
    by_cases k101 : e.kind = 101
    · have q : (e.kind == 101) = true := by simpa using k101
      have HK := Lib.hid k101
      clear k101
      by_cases ke : e.err = 0
      · have q2 : (e.err != 0) = false := by simpa using ke
        have KE := Lib.hid ke
        clear ke
        gi_wp2
        refine ⟨hK1 _ _, hK2 _ _, ⟨?_, hZ2 _ _⟩, hB2 _ _⟩
        rw [HST.out]
        refine (hR.set_ 1 _).conv ?_
        simp [Rp.step, Rp.cells, HK.out, KE.out]
      · have q2 : (e.err != 0) = true := by simpa using ke
        have KE := Lib.hid ke
        clear ke
        gi_wp2
        refine ⟨hK1' _ _ _ _, hK2' _ _ _ _, ⟨?_, hZ2' _ _ _ _⟩, hB2' _ _ _ _⟩
        rw [HST.out]
        refine ((hR.set_ 1 _).set_ 2 _).conv ?_
        simp [Rp.step, Rp.cells, HK.out, KE.out]
    have q101 : (e.kind == 101) = false := by simpa using k101
    have K101 := Lib.hid k101
    clear k101
    by_cases k100 : e.kind = 100
    · have q : (e.kind == 100) = true := by simpa using k100
      have HK := Lib.hid k100
      clear k100
      have hev' : ∀ u, EvAt (W.setCell ⟨w.heap.size + 1, 3, none⟩ u) b (off + x.1 * 14) e := fun u f v hv => (World.cell?_setCell_other _ _ _ _ (fun h => by injection h with h; omega)).trans (hc f v hv)
      by_cases kd : isDead e = true
      · gi_wp2_with (refine ⟨trivial, ?_⟩; gi_at_call 40; refine (CallsIn.inRound l (callsIn_wide.2 (dead_any _ _ e _ (hev' _)))).mono ?_; rintro _ w' ⟨rfl, rfl⟩)
        refine ⟨hK1' _ _ _ _, hK2' _ _ _ _, ⟨?_, hZ2' _ _ _ _⟩, hB2' _ _ _ _⟩
        rw [HST.out]
        refine ((hR.set_ 3 _).set_ 4 _).conv ?_
        simp [Rp.step, Rp.cells, HK.out, kd]
      · have kd' : isDead e = false := by simpa using kd
        clear kd
        gi_wp2_with (refine ⟨trivial, ?_⟩; gi_at_call 40; refine (CallsIn.inRound l (callsIn_wide.2 (dead_any _ _ e _ (hev' _)))).mono ?_; rintro _ w' ⟨rfl, rfl⟩)
        refine ⟨hK1 _ _, hK2 _ _, ⟨?_, hZ2 _ _⟩, hB2 _ _⟩
        rw [HST.out]
        refine (hR.set_ 3 _).conv ?_
        simp [Rp.step, Rp.cells, HK.out, kd']
    have q100 : (e.kind == 100) = false := by simpa using k100
    have K100 := Lib.hid k100
    clear k100
    by_cases k115 : e.kind = 115
    · have q : (e.kind == 115) = true := by simpa using k115
      have HK := Lib.hid k115
      clear k115
      gi_wp2
      refine ⟨hK1 _ _, hK2 _ _, ⟨?_, hZ2 _ _⟩, hB2 _ _⟩
      rw [HST.out]
      refine (hR.set_ 5 _).conv ?_
      simp [Rp.step, Rp.cells, HK.out]
    have q115 : (e.kind == 115) = false := by simpa using k115
    have K115 := Lib.hid k115
    clear k115
    by_cases k114 : e.kind = 114
    · have q : (e.kind == 114) = true := by simpa using k114
      have HK := Lib.hid k114
      clear k114
      gi_wp2
      refine ⟨hK1 _ _, hK2 _ _, ⟨?_, hZ2 _ _⟩, hB2 _ _⟩
      rw [HST.out]
      refine (hR.set_ 6 _).conv ?_
      simp [Rp.step, Rp.cells, HK.out]
    · have q114 : (e.kind == 114) = false := by simpa using k114
      have K114 := Lib.hid k114
      clear k114
      gi_wp2
      refine ⟨KeepsFrom.refl _ _, Keeps.refl _ _ _ _, ⟨?_, hZ⟩, hB⟩
      rw [HST.out]
      refine hR.conv ?_
      simp [Rp.step, Rp.cells, K98.out, K101.out, K100.out, K115.out, K114.out]
  case done =>
    rintro D ys W hD rfl ⟨⟨hR, hZ⟩, hB⟩ hK
    rw [evsAt_all] at hR
    obtain ⟨r, hr⟩ : ∃ r, lookF evs = r := ⟨_, rfl⟩
    rw [hr] at hR
    have HR := Lib.hid hr
    clear hr
    obtain ⟨r0, r1, r2, r3, r4, r5, r6⟩ := r
    simp only [Rp.cells] at hR
    have c0 : W.cell? ⟨w.heap.size + 1, 0, none⟩ = some (.int .i64 r0) := hR.cell 0
    have c1 : W.cell? ⟨w.heap.size + 1, 1, none⟩ = some (.int .i64 r1) := hR.cell 1
    have c2 : W.cell? ⟨w.heap.size + 1, 2, none⟩ = some (.int .i64 r2) := hR.cell 2
    have c3 : W.cell? ⟨w.heap.size + 1, 3, none⟩ = some (.int .i64 r3) := hR.cell 3
    have c4 : W.cell? ⟨w.heap.size + 1, 4, none⟩ = some (.int .i64 r4) := hR.cell 4
    have c5 : W.cell? ⟨w.heap.size + 1, 5, none⟩ = some (.int .i64 r5) := hR.cell 5
    have c6 : W.cell? ⟨w.heap.size + 1, 6, none⟩ = some (.int .i64 r6) := hR.cell 6
    have z0 : W.cell? ⟨w.heap.size, 0, none⟩ = some (.int .i64 0) := hZ.cell 0
    have z1 : W.cell? ⟨w.heap.size, 1, none⟩ = some (.int .i64 0) := hZ.cell 1
    have z2 : W.cell? ⟨w.heap.size, 2, none⟩ = some (.int .i64 0) := hZ.cell 2
    have z3 : W.cell? ⟨w.heap.size, 3, none⟩ = some (.int .i64 0) := hZ.cell 3
    have z4 : W.cell? ⟨w.heap.size, 4, none⟩ = some (.int .i64 0) := hZ.cell 4
    have z5 : W.cell? ⟨w.heap.size, 5, none⟩ = some (.int .i64 0) := hZ.cell 5
    have z6 : W.cell? ⟨w.heap.size, 6, none⟩ = some (.int .i64 0) := hZ.cell 6
    have hf := fun i => hZ.frozen i
    gi_wp2
    have hZ7 := ((((((hZ.set_ 0 (.int .i64 r0)).set_ 1 (.int .i64 r1)).set_ 2 (.int .i64 r2)).set_ 3 (.int .i64 r3)).set_ 4 (.int .i64 r4)).set_ 5 (.int .i64 r5)).set_ 6 (.int .i64 r6)
    have hK7 := ((((((KeepsOthers.setCell W ⟨w.heap.size, 0, none⟩ (.int .i64 r0)).trans (KeepsOthers.setCell _ ⟨w.heap.size, 1, none⟩ (.int .i64 r1))).trans (KeepsOthers.setCell _ ⟨w.heap.size, 2, none⟩ (.int .i64 r2))).trans (KeepsOthers.setCell _ ⟨w.heap.size, 3, none⟩ (.int .i64 r3))).trans
      (KeepsOthers.setCell _ ⟨w.heap.size, 4, none⟩ (.int .i64 r4))).trans (KeepsOthers.setCell _ ⟨w.heap.size, 5, none⟩ (.int .i64 r5))).trans (KeepsOthers.setCell _ ⟨w.heap.size, 6, none⟩ (.int .i64 r6))
    have hB7 := ((((((hB.setCell (p := ⟨w.heap.size, 0, none⟩) (Nat.le_refl _) (.int .i64 r0)).setCell (p := ⟨w.heap.size, 1, none⟩) (Nat.le_refl _) (.int .i64 r1)).setCell (p := ⟨w.heap.size, 2, none⟩) (Nat.le_refl _) (.int .i64 r2)).setCell (p := ⟨w.heap.size, 3, none⟩) (Nat.le_refl _) (.int .i64 r3)).setCell
      (p := ⟨w.heap.size, 4, none⟩) (Nat.le_refl _) (.int .i64 r4)).setCell (p := ⟨w.heap.size, 5, none⟩) (Nat.le_refl _) (.int .i64 r5)).setCell (p := ⟨w.heap.size, 6, none⟩) (Nat.le_refl _) (.int .i64 r6)
    have hD7 := hK7.same D _ hK rfl
    refine ⟨by simp, .inl ⟨_, _, rfl, run_takeDeferred hD7, ?_⟩⟩
    have hZ8 : Blk _ w.heap.size 25 _ := (World.putObj_heap_other (o := .deferred none) (by omega : w.heap.size ≠ D)).trans hZ7
    have hB8 := hB7.trans (belowK_b (w := W0) (by omega) _ D _ (.deferred none) hD hD7 rfl rfl)
    have y0 := hZ8.cell 0
    have y1 := hZ8.cell 1
    have y2 := hZ8.cell 2
    have y3 := hZ8.cell 3
    have y4 := hZ8.cell 4
    have y5 := hZ8.cell 5
    have y6 := hZ8.cell 6
    simp [Rp.zero, Rp.cells] at y0 y1 y2 y3 y4 y5 y6
    refine ⟨.agg #[.int .i64 r0, .int .i64 r1, .int .i64 r2, .int .i64 r3, .int .i64 r4, .int .i64 r5, .int .i64 r6], ?_, by rw [HR.out]; rfl, hB8⟩
    simp [results, Try.f13, go_sem, y0, y1, y2, y3, y4, y5, y6]
  case stop =>
    rintro D c pre W _ _ h _
    exact h.elim

/-- the place of the first dead one; -1: there is none -/
def safeF (evs : List Ev) : Int := match evs.findIdx? isDead with | some k => (k : Int) | none => -1
theorem safeF_none {evs : List Ev} (h : ∀ e ∈ evs, isDead e = false) : safeF evs = -1 := by
  unfold safeF
  rw [List.findIdx?_eq_none_iff.2 h]
theorem safeF_some {evs : List Ev} {k : Nat} (hk : k < evs.length) (hd : isDead evs[k] = true) (h : ∀ j, (hj : j < k) → isDead evs[j] = false) : safeF evs = k := by
  unfold safeF
  rw [List.findIdx?_eq_some_iff_getElem.2 ⟨hk, hd, fun j hj => by simp [h j hj]⟩]

set_option maxRecDepth 100000 in
set_option maxHeartbeats 2000000 in
theorem safe_any (A : Option Addr) (n c : Nat) (evs : List Ev) (w : World) (h : Evs w w.heap.size A evs) (hn : n = evs.length) (hb : n ≤ 9223372036854775807) :
    Calls Try.prog 14 #[.slice A n c] w fun x w' => x = .returned (.int .i64 (safeF evs)) ∧ Below w.heap.size w w' := by
  subst hn
  obtain ⟨b, off, hA, hbB, hcells⟩ := h.places
  refine (callsIn_wide (n := 9)).1 ?_
  refine callsIn_of_wp_marks Try.func14 rfl trivial ?_ rfl
  simp only [Try.ntmps14, List.size_toArray, List.length_cons, List.length_nil, Nat.reduceAdd, Nat.reduceSub, Array.replicate_succ, Array.replicate_zero, List.push_toArray, List.append_toArray, List.nil_append, List.cons_append]
  gi_wp2_with (refine ⟨trivial, ?_⟩; gi_at_call 39; refine (callsIn_wide.2 (each_any _ _ _ _)).mono ?_; rintro e w' ⟨rfl, rfl⟩)
  have bZ := Blk.new w 3 #[.int .i64 0]
  have bN := Blk.new (w.alloc (.cells #[.int .i64 0] 3)) 22 #[.slice A evs.length c]
  rw [World.size_alloc] at bN
  obtain ⟨W0, hW0⟩ : ∃ W0, (w.alloc (.cells #[.int .i64 0] 3)).alloc (.cells #[.slice A evs.length c] 22) = W0 := ⟨_, rfl⟩
  have hB0 : Below w.heap.size w W0 := by rw [← hW0]; exact ((Below.refl _ w).alloc (Nat.le_refl _) _).alloc (by simp) _
  have hsz : W0.heap.size = w.heap.size + 1 + 1 := by rw [← hW0]; simp
  have cZ : Blk W0 w.heap.size 3 #[.int .i64 0] := by rw [← hW0]; exact bZ.alloc _
  have cN : Blk W0 (w.heap.size + 1) 22 #[.slice A evs.length c] := by rw [← hW0]; exact bN
  rw [hW0]
  clear bZ bN hW0
  refine range_law (gf := 63) (lb := #[.pointer (some ⟨w.heap.size + 1, 0, none⟩)]) rfl (enters_of Try.func63 (by kernel_rfl) rfl)
    (each_stops (w.heap.size + 1) w.heap.size (w.heap.size + 1) (W0.heap.size + 1 + 1) (W0.heap.size + 1 + 1) b off evs.length c A hA hb W0 (Nat.le_refl _) cN) Keeps.trans (keeps_b (by omega) (by omega)) (Below.refl _ _) (fun _ => rfl)
    (fun pre W => (Blk W w.heap.size 3 #[.int .i64 0] ∧ ∀ y ∈ pre, isDead evs[y] = false) ∧ Below w.heap.size w W)
    (fun k pre W => (k = .ret ∧ ∃ ini x, pre = ini ++ [x] ∧ (∀ y ∈ ini, isDead evs[y] = false) ∧ isDead evs[x] = true ∧ Blk W w.heap.size 3 #[.int .i64 (x.1 : Int)]) ∧ Below w.heap.size w W)
    (OwnFrom.and (OwnFrom.and ((blk_own _ _ _).from _) (ownFrom_pure _ _)) (ownFrom_below (Nat.le_refl _) (by omega)))
    (fun k => OwnFrom.and (fun s A B row hs hg hr => by
      obtain ⟨h1, ini, x, h2, h3, h4, h5⟩ := hs
      exact ⟨h1, ini, x, h2, h3, h4, (blk_own w.heap.size 3 (fun _ => #[.int .i64 (x.1 : Int)])) () A B row h5 hg (fun r e => (hr r e).2)⟩) (ownFrom_below (Nat.le_refl _) (by omega)))
    ⟨⟨cZ, by simp⟩, hB0⟩
    (fun x => { tmps := #[.slice A evs.length c, undef, .pointer (some ⟨w.heap.size, 0, none⟩), .int .i64 (x.1 : Int), .pointer (some ⟨b, off + x.1 * 14, none⟩), .slice A evs.length c, .func (.func 63) #[] #[.pointer (some ⟨w.heap.size + 1, 0, none⟩)], .int .i64 (x.1 : Int), .pointer (some ⟨b, off + x.1 * 14, none⟩), undef, undef, undef], defers := [] }) ?assign ?body ?done ?stop
  case assign =>
    intro l x W K hK
    unfold evEnc
    gi_wp2
    exact hK
  case body =>
    rintro l pre x W ⟨⟨hZ, hp⟩, hB⟩ hlen
    have hev := hcells x
    have hbx : b < w.heap.size := hbB (by have := x.2; omega)
    have hz := hZ.cell 0
    simp at hz
    have hf := fun i => hZ.frozen i
    have hev' : EvAt W b (off + x.1 * 14) evs[x] := fun f u hu => (hB.cell (p := ⟨b, off + x.1 * 14 + f, none⟩) hbx).trans (hev f u hu)
    obtain ⟨e, he⟩ : ∃ e, evs[x] = e := ⟨_, rfl⟩
    rw [he] at hev'
    by_cases kd : isDead e = true
    · have KD := Lib.hid kd
      gi_wp2_with (refine ⟨trivial, ?_⟩; gi_at_call 40; refine (CallsIn.inRound l (callsIn_wide.2 (dead_any _ _ e _ hev'))).mono ?_; rintro _ w' ⟨rfl, rfl⟩)
      exact ⟨(KeepsOthers.setCell _ _ _).from _, ⟨rfl, pre, x, rfl, hp, by rw [he]; exact KD.out, by simpa using hZ.set_ 0 (.int .i64 (x.1 : Int))⟩, hB.setCell (p := ⟨w.heap.size, 0, none⟩) (Nat.le_refl _) _⟩
    · have kd' : isDead e = false := by simpa using kd
      clear kd
      have KD := Lib.hid kd'
      gi_wp2_with (refine ⟨trivial, ?_⟩; gi_at_call 40; refine (CallsIn.inRound l (callsIn_wide.2 (dead_any _ _ e _ hev'))).mono ?_; rintro _ w' ⟨rfl, rfl⟩)
      refine ⟨KeepsFrom.refl _ _, Keeps.refl _ _ _ _, ⟨hZ, fun y hy => ?_⟩, hB⟩
      rcases List.mem_append.1 hy with hy | hy
      · exact hp y hy
      · simp at hy
        subst hy
        rw [he]
        exact KD.out
  case done =>
    rintro D ys W hD rfl ⟨⟨hZ, hp⟩, hB⟩ hK
    have hz := hZ.cell 0
    simp at hz
    have hf := fun i => hZ.frozen i
    gi_wp2
    have hD7 := (KeepsOthers.setCell W ⟨w.heap.size, 0, none⟩ (.int .i64 (-1))).same D _ hK rfl
    refine ⟨by simp, .inl ⟨_, _, rfl, run_takeDeferred hD7, ?_⟩⟩
    have hZ8 := (hZ.set_ 0 (.int .i64 (-1))).putObj (by omega : w.heap.size ≠ D) (.deferred none)
    have y0 := hZ8.cell 0
    simp at y0
    have hs := safeF_none (evs := evs) (fun e he => by
      obtain ⟨k, hk, rfl⟩ := List.getElem_of_mem he
      exact hp ⟨k, hk⟩ (by simp))
    refine ⟨.int .i64 (-1), ?_, by rw [hs], (hB.setCell (p := ⟨w.heap.size, 0, none⟩) (Nat.le_refl _) _).trans (belowK_b (w := W0) (by omega) _ D _ (.deferred none) hD hD7 rfl rfl)⟩
    simp [results, Try.f14, go_sem, y0]
  case stop =>
    rintro D k pre W hD ⟨j', hj, rfl⟩ ⟨⟨rfl, ini, x, hi, hp, hd, hZ⟩, hB⟩ hK
    gi_wp2
    refine ⟨by simp, .inl ⟨_, _, rfl, run_takeDeferred hK, ?_⟩⟩
    have hZ8 := hZ.putObj (by omega : w.heap.size ≠ D) (.deferred none)
    have y0 := hZ8.cell 0
    simp at y0
    rw [ixs_succ (by omega)] at hi
    obtain ⟨rfl, e5⟩ := List.append_inj' hi rfl
    obtain rfl : (⟨j', by omega⟩ : Fin evs.length) = x := by simpa using e5
    have hs := safeF_some (evs := evs) (by omega : j' < evs.length) hd (fun i hi' => hp ⟨i, by omega⟩ (by unfold ixs; rw [List.mem_take_iff_getElem]; exact ⟨i, by simp; omega, by simp⟩))
    refine ⟨.int .i64 (j' : Int), ?_, by rw [hs], hB.trans (belowK_b (w := W0) (by omega) W D _ (.deferred none) hD hK rfl rfl)⟩
    simp [results, Try.f14, go_sem, y0]

end Go.Proofs.Ytbgibbbggajgaaa
