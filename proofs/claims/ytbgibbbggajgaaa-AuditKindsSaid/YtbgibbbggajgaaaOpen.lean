/- Open, walked: which tasks began oftener than they ended. -/
import Derived.Test.YtbgibbbggajgaaaCalls
namespace Go.Proofs.Ytbgibbbggajgaaa
set_option linter.all false
open Go.RowKit Go.Shelf
attribute [local go_sem] Oper.semAt_some

/-- how much oftener task t began than it ended -/
def tal (l : List Ev) (t : Int) : Int := l.foldl (fun n e => if e.task = t then (if e.kind = 98 then n + 1 else n - 1) else n) 0
theorem tal_snoc (l : List Ev) (e : Ev) (t : Int) : tal (l ++ [e]) t = if e.task = t then (if e.kind = 98 then tal l t + 1 else tal l t - 1) else tal l t := by simp [tal]
theorem tal_bd (l : List Ev) (t : Int) : -(l.length : Int) ≤ tal l t ∧ tal l t ≤ l.length := by
  have : ∀ (l : List Ev) (n : Int), n - l.length ≤ l.foldl (fun n e => if e.task = t then (if e.kind = 98 then n + 1 else n - 1) else n) n ∧ l.foldl (fun n e => if e.task = t then (if e.kind = 98 then n + 1 else n - 1) else n) n ≤ n + l.length := by
    intro l
    induction l with
    | nil => intro n; simp
    | cons e l ih =>
      intro n
      rw [List.foldl_cons, List.length_cons]
      have := ih (if e.task = t then (if e.kind = 98 then n + 1 else n - 1) else n)
      have hs : n - 1 ≤ (if e.task = t then (if e.kind = 98 then n + 1 else n - 1) else n) ∧ (if e.task = t then (if e.kind = 98 then n + 1 else n - 1) else n) ≤ n + 1 := by
        split
        · split <;> omega
        · omega
      generalize (if e.task = t then (if e.kind = 98 then n + 1 else n - 1) else n) = m at *
      omega
  have h := this l 0
  unfold tal
  omega
/-- the tasks that are open -/
def openF (l : List Ev) : List Int := ([0, 1, 2] : List Int).filter fun t => decide (0 < tal (l.filter sel) t)
/-- those below k that p lets by -/
def upTo (p : Int → Bool) (k : Int) : List Int := (([0, 1, 2] : List Int).take k.toNat).filter p
theorem upTo_succ (p : Int → Bool) (k : Int) (h : k = 0 ∨ k = 1 ∨ k = 2) : upTo p (k + 1) = upTo p k ++ if p k then [k] else [] := by
  rcases h with rfl | rfl | rfl <;> cases h0 : p 0 <;> cases h1 : p 1 <;> cases h2 : p 2 <;> simp [upTo, List.filter_cons, h0, h1, h2]
theorem upTo_len (p : Int → Bool) (k : Int) : (upTo p k).length ≤ 3 := by
  unfold upTo
  refine Nat.le_trans (List.length_filter_le _ _) ?_
  simp
  omega
theorem int_info : (Try.prog.info? 3).map (fun i => (i.zero.map (fun z => z.cells.size), i.size, i.bytes)) = some (some 1, 1, 8) := by kernel_rfl
def talCells (l : List Ev) : Array Value := #[.int .i64 (tal l 0), .int .i64 (tal l 1), .int .i64 (tal l 2)]

set_option maxRecDepth 100000 in
set_option maxHeartbeats 2000000 in
theorem open_any (A : Option Addr) (n c : Nat) (evs : List Ev) (w : World) (h : Evs w w.heap.size A evs) (hn : n = evs.length) (hb : n ≤ 9223372036854775807) :
    Calls Try.prog 16 #[.slice A n c] w fun x w' => (∃ A' c', x = .returned (.slice A' (openF evs).length c') ∧ Sl w' w'.heap.size 1 A' (openF evs).length (intCells (openF evs))) ∧ Below w.heap.size w w' := by
  subst hn
  obtain ⟨b, off, hA, hbB, hcells⟩ := h.places
  refine (callsIn_wide (n := 9)).1 ?_
  refine callsIn_of_wp_marks Try.func16 rfl trivial ?_ rfl
  simp only [Try.ntmps16, List.size_toArray, List.length_cons, List.length_nil, Nat.reduceAdd, Nat.reduceSub, Array.replicate_succ, Array.replicate_zero, List.push_toArray, List.append_toArray, List.nil_append, List.cons_append]
  gi_wp2_with (refine ⟨trivial, ?_⟩; gi_at_call 41; refine (callsIn_wide.2 (calls_any _ _ _ _)).mono ?_; rintro e w' ⟨rfl, rfl⟩)
  have bM := Blk.new w 29 #[.int .i64 0, .int .i64 0, .int .i64 0]
  have bN := Blk.new (w.alloc (.cells #[.int .i64 0, .int .i64 0, .int .i64 0] 29)) 22 #[.slice A evs.length c]
  rw [World.size_alloc] at bN
  obtain ⟨W0, hW0⟩ : ∃ W0, (w.alloc (.cells #[.int .i64 0, .int .i64 0, .int .i64 0] 29)).alloc (.cells #[.slice A evs.length c] 22) = W0 := ⟨_, rfl⟩
  have hB0 : Below w.heap.size w W0 := by rw [← hW0]; exact ((Below.refl _ w).alloc (Nat.le_refl _) _).alloc (by simp) _
  have hsz : W0.heap.size = w.heap.size + 1 + 1 := by rw [← hW0]; simp
  have cM : Blk W0 w.heap.size 29 #[.int .i64 0, .int .i64 0, .int .i64 0] := by rw [← hW0]; exact bM.alloc _
  have cN : Blk W0 (w.heap.size + 1) 22 #[.slice A evs.length c] := by rw [← hW0]; exact bN
  rw [hW0]
  clear bM bN hW0
  refine range_law (gf := 64) (lb := #[.pointer (some ⟨w.heap.size + 1, 0, none⟩)]) rfl (enters_of Try.func64 (by kernel_rfl) rfl)
    (calls_stops (w.heap.size + 1) w.heap.size (w.heap.size + 1) (W0.heap.size + 1 + 1) b off c A evs hA hb W0 hbB (fun x f u hu => (hB0.cell (p := ⟨b, off + x.1 * 14 + f, none⟩) (hbB (by have := x.2; omega))).trans (hcells x f u hu)) hB0.size (Nat.le_refl _) cN) Keeps.trans (keeps_b (by omega) (by omega)) (Below.refl _ _) (fun _ => rfl)
    (fun pre W => Blk W w.heap.size 29 (talCells (evsAt evs (pre.map (·.1)))) ∧ Below w.heap.size w W)
    (fun _ _ _ => False)
    (OwnFrom.and ((blk_own _ _ _).from _) (ownFrom_below (Nat.le_refl _) (by omega)))
    (fun _ _ _ _ _ hs _ _ => hs)
    ⟨cM, hB0⟩
    (fun x => { tmps := #[.slice A evs.length c, undef, .slice none 0 0, .pointer (some ⟨w.heap.size, 0, none⟩), undef, .pointer (some ⟨b, off + x.1.1 * 14, none⟩), undef, undef, undef, .slice A evs.length c, .func (.func 64) #[] #[.pointer (some ⟨w.heap.size + 1, 0, none⟩)], .int .i64 (x.1.1 : Int), .pointer (some ⟨b, off + x.1.1 * 14, none⟩), undef, undef, undef, undef, undef, undef, undef, undef, undef, undef, undef, undef, undef, undef, undef, undef, undef, undef, undef, undef, undef, undef, undef, undef, undef, undef, undef, undef, undef, undef, undef, undef, undef, undef], defers := [] }) ?assign ?body ?done ?stop
  case assign =>
    intro l x W K hK
    unfold evEnc
    gi_wp2
    exact hK
  case body =>
    rintro l pre x W ⟨hM, hB⟩ hlen
    have hev := hcells x.1
    have hsel := x.2
    have hbx : b < w.heap.size := hbB (by have := x.1.2; omega)
    have hbd := tal_bd (evsAt evs (pre.map (·.1)))
    have hll : (evsAt evs (pre.map (·.1))).length = pre.length := by simp [evsAt]
    rw [hll] at hbd
    obtain ⟨e, he⟩ : ∃ e, evs[x.1] = e := ⟨_, rfl⟩
    unfold selAt at hsel
    rw [he] at hev hsel
    have hc : ∀ f u, e.cells[f]? = some u → W.cell? ⟨b, off + x.1.1 * 14 + f, none⟩ = some u := fun f u hu => (hB.cell (p := ⟨b, off + x.1.1 * 14 + f, none⟩) hbx).trans (hev f u hu)
    have h0 := hc 0 _ rfl
    have h1 := hc 1 _ rfl
    simp only [Nat.add_zero] at h0
    have hst : talCells (evsAt evs ((pre ++ [x]).map (·.1))) = #[.int .i64 (tal (evsAt evs (pre.map (·.1)) ++ [e]) 0), .int .i64 (tal (evsAt evs (pre.map (·.1)) ++ [e]) 1), .int .i64 (tal (evsAt evs (pre.map (·.1)) ++ [e]) 2)] := by
      rw [List.map_append, List.map_cons, List.map_nil, evsAt_snoc, he]
      rfl
    simp only [tal_snoc] at hst
    have b0 := hbd 0
    have b1 := hbd 1
    have b2 := hbd 2
    unfold talCells at hM
    generalize tal (evsAt evs (pre.map (·.1))) 0 = m0 at *
    generalize tal (evsAt evs (pre.map (·.1))) 1 = m1 at *
    generalize tal (evsAt evs (pre.map (·.1))) 2 = m2 at *
    clear hbd hll hc hev
    have c0 := hM.cell 0
    have c1 := hM.cell 1
    have c2 := hM.cell 2
    simp at c0 c1 c2
    have hf := fun i => hM.frozen i
    simp only [sel, Bool.and_eq_true, Bool.or_eq_true, beq_iff_eq, decide_eq_true_eq] at hsel
    obtain ⟨hk, ht0, ht3⟩ := hsel
    have ht : e.task = 0 ∨ e.task = 1 ∨ e.task = 2 := by omega
    have hp63 : (pre.length : Int) < 9223372036854775807 := by omega
    have hend : ∀ i u, KeepsFrom W0.heap.size W (W.setCell ⟨w.heap.size, i, none⟩ u) ∧ Keeps w.heap.size (w.heap.size + 1) (W0.heap.size + 1 + 1) W (W.setCell ⟨w.heap.size, i, none⟩ u) ∧ Below w.heap.size w (W.setCell ⟨w.heap.size, i, none⟩ u) := fun i u =>
      ⟨(KeepsOthers.setCell _ _ _).from _, (Keeps.refl _ _ _ W).setCell (p := ⟨w.heap.size, i, none⟩) (Nat.le_refl _) (Nat.lt_succ_self _) u, hB.setCell (p := ⟨w.heap.size, i, none⟩) (Nat.le_refl _) u⟩
    clear ht0 ht3 he hlen
    have HST := Lib.hid hst
    clear hst
    rcases ht with ht | ht | ht
    all_goals
      rw [ht] at h1
      have HT := Lib.hid ht
      clear ht
      rcases hk with hk | hk
      · have q : (e.kind == 98) = true := by simp [hk]
        have HK := Lib.hid hk
        clear hk
        gi_wp2
        refine ⟨(hend _ _).1, (hend _ _).2.1, ?_, (hend _ _).2.2⟩
        rw [HST.out]
        refine (hM.set_ _ _).conv ?_
        simp [HT.out, HK.out]
      · have q : (e.kind == 98) = false := by simp [hk]
        have HK := Lib.hid hk
        clear hk
        gi_wp2
        refine ⟨(hend _ _).1, (hend _ _).2.1, ?_, (hend _ _).2.2⟩
        rw [HST.out]
        refine (hM.set_ _ _).conv ?_
        simp [HT.out, HK.out]
  case done =>
    rintro D ys W hD hys ⟨hM, hB⟩ hK
    have hev : evsAt evs (ys.map (·.1)) = evs.filter sel := by
      rw [hys]
      have h1 : ∀ l : List (Fin evs.length), evsAt evs (l.filter (selAt evs)) = (evsAt evs l).filter sel := fun l => by
        unfold evsAt
        rw [List.filter_map]
        rfl
      rw [h1, evsAt_all]
    rw [hev] at hM
    clear hev hys
    obtain ⟨i0, z0, hi, hz, hs, hby, hzs⟩ := info_cells int_info
    have hop : openF evs = ([0, 1, 2] : List Int).filter fun t => decide (0 < tal (evs.filter sel) t) := rfl
    have hbd := tal_bd (evs.filter sel)
    have hle : (evs.filter sel).length ≤ evs.length := List.length_filter_le _ _
    unfold talCells at hM
    obtain ⟨p, hp⟩ : ∃ p : Int → Bool, (fun t => decide (0 < tal (evs.filter sel) t)) = p := ⟨_, rfl⟩
    have p0 : decide (0 < tal (evs.filter sel) 0) = p 0 := by rw [← hp]
    have p1 : decide (0 < tal (evs.filter sel) 1) = p 1 := by rw [← hp]
    have p2 : decide (0 < tal (evs.filter sel) 2) = p 2 := by rw [← hp]
    rw [hp] at hop
    have b0 := hbd 0
    have b1 := hbd 1
    have b2 := hbd 2
    generalize tal (evs.filter sel) 0 = m0 at *
    generalize tal (evs.filter sel) 1 = m1 at *
    generalize tal (evs.filter sel) 2 = m2 at *
    have HOP := Lib.hid hop
    have HP0 := Lib.hid p0
    have HP1 := Lib.hid p1
    have HP2 := Lib.hid p2
    have HI := Lib.hid hi
    have HZ := Lib.hid hz
    have HS := Lib.hid hs
    have HBY := Lib.hid hby
    have HZS := Lib.hid hzs
    clear hop p0 p1 p2 hp hbd hle hi hz hs hby hzs
    have c0 := hM.cell 0
    have c1 := hM.cell 1
    have c2 := hM.cell 2
    simp at c0 c1 c2
    gi_wp2
    clear c0 c1 c2
    have ix0 : ∀ w x0 x1 x2, (Instr.index 29 (.agg #[x0, x1, x2]) (.int .i64 0)).run Try.prog w = .ok x0 w := fun _ _ _ _ => by kernel_rfl
    have ix1 : ∀ w x0 x1 x2, (Instr.index 29 (.agg #[x0, x1, x2]) (.int .i64 1)).run Try.prog w = .ok x1 w := fun _ _ _ _ => by kernel_rfl
    have ix2 : ∀ w x0 x1 x2, (Instr.index 29 (.agg #[x0, x1, x2]) (.int .i64 2)).run Try.prog w = .ok x2 w := fun _ _ _ _ => by kernel_rfl
    gi_loopw [35, 6] (fun i v wr => ∃ k : Int, 0 ≤ k ∧ k ≤ 3 ∧ i = .int .i64 k ∧ wr.ownsRow w.heap.size 3 1 v (upTo p k).length (intCells (upTo p k)) ∧ Below w.heap.size w wr ∧ wr.heap[D]? = some (.deferred (some [])) ∧ v.ownBlock ≠ some D) (fun i _ _ => 3 - (intOf i).toNat)
    case atStart => exact ⟨0, by omega, by omega, rfl, World.ownsRow_nil _ _ _ _, hB, hK, by simp [Value.ownBlock]⟩
    case round =>
      obtain ⟨k, hk0, hk, rfl, hown, hBr, hKr, hne⟩ := hrel
      have hDr := (Array.getElem?_eq_some_iff.1 hKr).1
      have hk4 : k = 0 ∨ k = 1 ∨ k = 2 ∨ k = 3 := by omega
      rcases hk4 with rfl | rfl | rfl | rfl
      · by_cases hm : 0 < m0
        · have hq : decide (0 < m0) = true := by simpa using hm
          have hpk : p 0 = true := by rw [← HP0.out]; exact hq
          have hL : upTo p (0 + 1) = upTo p 0 ++ [0] := by rw [upTo_succ p 0 (by omega), hpk]; rfl
          have hlen : (upTo p 0).length ≤ 3 := upTo_len p 0
          have HL := Lib.hid hL
          clear hpk hq hL
          gi_wp2_with (gi_at_builtin; refine wpListIn_append_sl rfl rfl Try.underlying41 HI.out HZ.out HS.out HBY.out HZS.out (by omega) rfl (hown.alloc _) rfl (Sl.of_blk (n := 1) (sz := 1) (Blk.new wr 3 #[.int .i64 0]) rfl) (by simp [Value.oneCell']) (by simp only [maxLen]; omega) (by omega) (by have := hBr.size; simp; omega) ?_; intro v' w1 hown1 hg1 hat1; obtain ⟨g', cap', rfl⟩ := ownsRow_succ hown1)
          have hB1 : Below w.heap.size w w1 := below_app (hBr.alloc hBr.size _) (hown.alloc _) (Nat.le_refl _) (by have := hBr.size; simp; omega) hg1
          have hK1 : w1.heap[D]? = some (.deferred (some [])) := (hg1.block D (by simp; omega) (fun e => hne e.symm)).trans ((Below.heap_alloc wr _ D hDr).trans hKr)
          have hne1 : Value.ownBlock (.slice (some ⟨g', 0, none⟩) ((upTo p 0).length + 1) cap') ≠ some D := by
            rcases hat1 with h | h
            · rw [h]; exact hne
            · rw [h]; simp; omega
          gi_wp2
          go_roundw
          case rel => exact ⟨1, by omega, by omega, rfl, by rw [show (1 : Int) = 0 + 1 from rfl, HL.out]; simpa [intCells] using hown1, hB1, hK1, hne1⟩
          case measure => simp [intOf]
        · have hq : decide (0 < m0) = false := by simpa using hm
          have hpk : p 0 = false := by rw [← HP0.out]; exact hq
          have hL : upTo p (0 + 1) = upTo p 0 := by rw [upTo_succ p 0 (by omega), hpk]; simp
          have HL := Lib.hid hL
          clear hpk hq hL
          gi_wp2
          go_roundw
          case rel => exact ⟨1, by omega, by omega, rfl, by rw [show (1 : Int) = 0 + 1 from rfl, HL.out]; exact hown, hBr, hKr, hne⟩
          case measure => simp [intOf]
      · by_cases hm : 0 < m1
        · have hq : decide (0 < m1) = true := by simpa using hm
          have hpk : p 1 = true := by rw [← HP1.out]; exact hq
          have hL : upTo p (1 + 1) = upTo p 1 ++ [1] := by rw [upTo_succ p 1 (by omega), hpk]; rfl
          have hlen : (upTo p 1).length ≤ 3 := upTo_len p 1
          have HL := Lib.hid hL
          clear hpk hq hL
          gi_wp2_with (gi_at_builtin; refine wpListIn_append_sl rfl rfl Try.underlying41 HI.out HZ.out HS.out HBY.out HZS.out (by omega) rfl (hown.alloc _) rfl (Sl.of_blk (n := 1) (sz := 1) (Blk.new wr 3 #[.int .i64 1]) rfl) (by simp [Value.oneCell']) (by simp only [maxLen]; omega) (by omega) (by have := hBr.size; simp; omega) ?_; intro v' w1 hown1 hg1 hat1; obtain ⟨g', cap', rfl⟩ := ownsRow_succ hown1)
          have hB1 : Below w.heap.size w w1 := below_app (hBr.alloc hBr.size _) (hown.alloc _) (Nat.le_refl _) (by have := hBr.size; simp; omega) hg1
          have hK1 : w1.heap[D]? = some (.deferred (some [])) := (hg1.block D (by simp; omega) (fun e => hne e.symm)).trans ((Below.heap_alloc wr _ D hDr).trans hKr)
          have hne1 : Value.ownBlock (.slice (some ⟨g', 0, none⟩) ((upTo p 1).length + 1) cap') ≠ some D := by
            rcases hat1 with h | h
            · rw [h]; exact hne
            · rw [h]; simp; omega
          gi_wp2
          go_roundw
          case rel => exact ⟨2, by omega, by omega, rfl, by rw [show (2 : Int) = 1 + 1 from rfl, HL.out]; simpa [intCells] using hown1, hB1, hK1, hne1⟩
          case measure => simp [intOf]
        · have hq : decide (0 < m1) = false := by simpa using hm
          have hpk : p 1 = false := by rw [← HP1.out]; exact hq
          have hL : upTo p (1 + 1) = upTo p 1 := by rw [upTo_succ p 1 (by omega), hpk]; simp
          have HL := Lib.hid hL
          clear hpk hq hL
          gi_wp2
          go_roundw
          case rel => exact ⟨2, by omega, by omega, rfl, by rw [show (2 : Int) = 1 + 1 from rfl, HL.out]; exact hown, hBr, hKr, hne⟩
          case measure => simp [intOf]
      · by_cases hm : 0 < m2
        · have hq : decide (0 < m2) = true := by simpa using hm
          have hpk : p 2 = true := by rw [← HP2.out]; exact hq
          have hL : upTo p (2 + 1) = upTo p 2 ++ [2] := by rw [upTo_succ p 2 (by omega), hpk]; rfl
          have hlen : (upTo p 2).length ≤ 3 := upTo_len p 2
          have HL := Lib.hid hL
          clear hpk hq hL
          gi_wp2_with (gi_at_builtin; refine wpListIn_append_sl rfl rfl Try.underlying41 HI.out HZ.out HS.out HBY.out HZS.out (by omega) rfl (hown.alloc _) rfl (Sl.of_blk (n := 1) (sz := 1) (Blk.new wr 3 #[.int .i64 2]) rfl) (by simp [Value.oneCell']) (by simp only [maxLen]; omega) (by omega) (by have := hBr.size; simp; omega) ?_; intro v' w1 hown1 hg1 hat1; obtain ⟨g', cap', rfl⟩ := ownsRow_succ hown1)
          have hB1 : Below w.heap.size w w1 := below_app (hBr.alloc hBr.size _) (hown.alloc _) (Nat.le_refl _) (by have := hBr.size; simp; omega) hg1
          have hK1 : w1.heap[D]? = some (.deferred (some [])) := (hg1.block D (by simp; omega) (fun e => hne e.symm)).trans ((Below.heap_alloc wr _ D hDr).trans hKr)
          have hne1 : Value.ownBlock (.slice (some ⟨g', 0, none⟩) ((upTo p 2).length + 1) cap') ≠ some D := by
            rcases hat1 with h | h
            · rw [h]; exact hne
            · rw [h]; simp; omega
          gi_wp2
          go_roundw
          case rel => exact ⟨3, by omega, by omega, rfl, by rw [show (3 : Int) = 2 + 1 from rfl, HL.out]; simpa [intCells] using hown1, hB1, hK1, hne1⟩
          case measure => simp [intOf]
        · have hq : decide (0 < m2) = false := by simpa using hm
          have hpk : p 2 = false := by rw [← HP2.out]; exact hq
          have hL : upTo p (2 + 1) = upTo p 2 := by rw [upTo_succ p 2 (by omega), hpk]; simp
          have HL := Lib.hid hL
          clear hpk hq hL
          gi_wp2
          go_roundw
          case rel => exact ⟨3, by omega, by omega, rfl, by rw [show (3 : Int) = 2 + 1 from rfl, HL.out]; exact hown, hBr, hKr, hne⟩
          case measure => simp [intOf]
      · rw [show upTo p 3 = openF evs from HOP.out.symm] at hown
        obtain ⟨A', c', rfl, hsl⟩ := own_slice hown
        gi_wp2
        refine ⟨by simp, .inl ⟨_, _, rfl, run_takeDeferred hKr, ?_⟩⟩
        have hown2 := ownsRow_putObj hown (.deferred none) hKr rfl
        exact ⟨_, results_tmp rfl _ _ _, ⟨A', c', rfl, Sl.of_own hown2⟩, hBr.trans (belowK_b (w := W0) (by omega) _ D _ (.deferred none) hD hKr rfl rfl)⟩
  case stop =>
    rintro D c pre W _ _ h _
    exact h.elim
end Go.Proofs.Ytbgibbbggajgaaa
