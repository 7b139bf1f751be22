/- Replies, walked: messages and answers, one behind the other. -/
import Derived.Test.YtbgibbbggajgaaaLook
import Derived.RegionIn
import Derived.Shelf.RegionOpen
namespace Go.Proofs.Ytbgibbbggajgaaa
set_option linter.all false
open Go.RowKit Go.Shelf
attribute [local go_sem] Oper.semAt_some

/-- messages and answers: is one on its way, and its first word; none: what comes is wrong -/
def repStep (st : Bool × Int) (e : Ev) : Option (Bool × Int) :=
  if e.kind = 115 then (if st.1 then none else some (true, e.ws.headD 0))
  else if e.kind = 114 then (if st.1 = true ∧ e.ws.length ≠ 0 ∧ e.ws.headD 0 = st.2 then some (false, st.2) else none)
  else some st
def repG (st : Bool × Int) : List Ev → Nat → Int
  | [], _ => -1
  | e :: r, k => match repStep st e with
    | none => k
    | some st' => repG st' r (k + 1)
def repliesF (evs : List Ev) : Int := repG (false, 0) evs 0
def repRun (st : Bool × Int) : List Ev → Option (Bool × Int)
  | [] => some st
  | e :: r => match repStep st e with
    | none => none
    | some st' => repRun st' r
theorem repRun_snoc (st : Bool × Int) (l : List Ev) (e : Ev) : repRun st (l ++ [e]) = (repRun st l).bind (repStep · e) := by
  induction l generalizing st with
  | nil => simp only [List.nil_append, repRun]; cases h : repStep st e <;> simp [repRun, h]
  | cons x l ih =>
    simp only [List.cons_append, repRun]
    cases h : repStep st x with
    | none => simp
    | some st' => simpa using ih st'
theorem repG_all {st st' : Bool × Int} {l : List Ev} {k : Nat} (h : repRun st l = some st') : repG st l k = -1 := by
  induction l generalizing st k with
  | nil => rfl
  | cons x l ih =>
    simp only [repRun] at h
    simp only [repG]
    cases hs : repStep st x with
    | none => rw [hs] at h; cases h
    | some st2 => rw [hs] at h; exact ih h
theorem repG_at {st st' : Bool × Int} {l r : List Ev} {e : Ev} {k : Nat} (h : repRun st l = some st') (he : repStep st' e = none) : repG st (l ++ e :: r) k = ((k + l.length : Nat) : Int) := by
  induction l generalizing st k with
  | nil =>
    simp only [repRun, Option.some.injEq] at h
    subst h
    simp only [List.nil_append, repG, he]
    simp
  | cons x l ih =>
    simp only [repRun] at h
    simp only [List.cons_append, repG]
    cases hs : repStep st x with
    | none => rw [hs] at h; cases h
    | some st2 =>
      rw [hs] at h
      simp only
      rw [ih h, List.length_cons]
      congr 1
      omega

theorem evsAt_ixs (evs : List Ev) (k : Nat) : evsAt evs (ixs evs.length k) = evs.take k := by
  have h := evsAt_all evs
  unfold evsAt at h
  unfold evsAt ixs
  rw [List.map_take, h]

set_option maxRecDepth 100000 in
set_option maxHeartbeats 4000000 in
theorem replies_any (A : Option Addr) (n c : Nat) (evs : List Ev) (w : World) (h : Evs w w.heap.size A evs) (hn : n = evs.length) (hb : n ≤ 9223372036854775807) :
    Calls Try.prog 34 #[.slice A n c] w fun x w' => x = .returned (.int .i64 (repliesF evs)) ∧ Below w.heap.size w w' := by
  subst hn
  obtain ⟨b, off, hA, hbB, hcells⟩ := h.places
  have hws := h.2
  refine (callsIn_wide (n := 9)).1 ?_
  refine callsIn_of_wp_marks Try.func34 rfl trivial ?_ rfl
  simp only [Try.ntmps34, List.size_toArray, List.length_cons, List.length_nil, Nat.reduceAdd, Nat.reduceSub, Array.replicate_succ, Array.replicate_zero, List.push_toArray, List.append_toArray, List.nil_append, List.cons_append]
  gi_wp2_with (refine ⟨trivial, ?_⟩; gi_at_call 39; refine (callsIn_wide.2 (each_any _ _ _ _)).mono ?_; rintro e w' ⟨rfl, rfl⟩)
  have bZ := Blk.new w 3 #[.int .i64 0]
  have bT := Blk.new (w.alloc (.cells #[.int .i64 0] 3)) 4 #[.bool false]
  have bF := Blk.new ((w.alloc (.cells #[.int .i64 0] 3)).alloc (.cells #[.bool false] 4)) 30 #[.int .u32 0]
  have bN := Blk.new (((w.alloc (.cells #[.int .i64 0] 3)).alloc (.cells #[.bool false] 4)).alloc (.cells #[.int .u32 0] 30)) 22 #[.slice A evs.length c]
  simp only [World.size_alloc] at bT bF bN
  obtain ⟨W0, hW0⟩ : ∃ W0, (((w.alloc (.cells #[.int .i64 0] 3)).alloc (.cells #[.bool false] 4)).alloc (.cells #[.int .u32 0] 30)).alloc (.cells #[.slice A evs.length c] 22) = W0 := ⟨_, rfl⟩
  have hB0 : Below w.heap.size w W0 := by rw [← hW0]; exact ((((Below.refl _ w).alloc (Nat.le_refl _) _).alloc (by simp) _).alloc (by simp; omega) _).alloc (by simp; omega) _
  have hsz : W0.heap.size = w.heap.size + 1 + 1 + 1 + 1 := by rw [← hW0]; simp
  have cZ : Blk W0 w.heap.size 3 #[.int .i64 0] := by rw [← hW0]; exact ((bZ.alloc _).alloc _).alloc _
  have cT : Blk W0 (w.heap.size + 1) 4 #[.bool false] := by rw [← hW0]; exact (bT.alloc _).alloc _
  have cF : Blk W0 (w.heap.size + 1 + 1) 30 #[.int .u32 0] := by rw [← hW0]; exact bF.alloc _
  have cN : Blk W0 (w.heap.size + 1 + 1 + 1) 22 #[.slice A evs.length c] := by rw [← hW0]; exact bN
  rw [hW0]
  clear bZ bT bF bN hW0
  refine range_law (gf := 63) (lb := #[.pointer (some ⟨w.heap.size + 1 + 1 + 1, 0, none⟩)]) rfl (enters_of Try.func63 (by kernel_rfl) rfl)
    (each_stops (w.heap.size + 1 + 1 + 1) w.heap.size (w.heap.size + 1 + 1 + 1) (W0.heap.size + 1 + 1) (W0.heap.size + 1 + 1) b off evs.length c A hA hb W0 (Nat.le_refl _) cN) Keeps.trans (keeps_b (by omega) (by omega)) (Below.refl _ _) (fun _ => rfl)
    (fun pre W => (Blk W w.heap.size 3 #[.int .i64 0] ∧ ∃ st : Bool × Int, repRun (false, 0) (evsAt evs pre) = some st ∧ Blk W (w.heap.size + 1) 4 #[.bool st.1] ∧ Blk W (w.heap.size + 1 + 1) 30 #[.int .u32 st.2]) ∧ Below w.heap.size w W)
    (fun k pre W => (k = .ret ∧ ∃ ini x st, pre = ini ++ [x] ∧ repRun (false, 0) (evsAt evs ini) = some st ∧ repStep st evs[x] = none ∧ Blk W w.heap.size 3 #[.int .i64 (x.1 : Int)]) ∧ Below w.heap.size w W)
    (OwnFrom.and (fun s A B row hs hg hr => by
      obtain ⟨h1, st, h2, h3, h4⟩ := hs
      have hr' := fun r e => (hr r e).2
      exact ⟨(blk_own w.heap.size 3 (fun _ => #[.int .i64 0])) () A B row h1 hg hr', st, h2, (blk_own (w.heap.size + 1) 4 (fun _ => #[.bool st.1])) () A B row h3 hg hr', (blk_own (w.heap.size + 1 + 1) 30 (fun _ => #[.int .u32 st.2])) () A B row h4 hg hr'⟩) (ownFrom_below (Nat.le_refl _) (by omega)))
    (fun k => OwnFrom.and (fun s A B row hs hg hr => by
      obtain ⟨h1, ini, x, st, h2, h3, h4, h5⟩ := hs
      exact ⟨h1, ini, x, st, h2, h3, h4, (blk_own w.heap.size 3 (fun _ => #[.int .i64 (x.1 : Int)])) () A B row h5 hg (fun r e => (hr r e).2)⟩) (ownFrom_below (Nat.le_refl _) (by omega)))
    ⟨⟨cZ, (false, 0), rfl, cT, cF⟩, hB0⟩
    (fun x => { tmps := #[.slice A evs.length c, undef, .pointer (some ⟨w.heap.size, 0, none⟩), .pointer (some ⟨w.heap.size + 1, 0, none⟩), .pointer (some ⟨w.heap.size + 1 + 1, 0, none⟩), .int .i64 (x.1 : Int), .pointer (some ⟨b, off + x.1 * 14, none⟩), .slice A evs.length c, .func (.func 63) #[] #[.pointer (some ⟨w.heap.size + 1 + 1 + 1, 0, none⟩)], .int .i64 (x.1 : Int), .pointer (some ⟨b, off + x.1 * 14, none⟩), undef, undef, undef, undef, undef, undef, undef, undef, undef, undef, undef, undef, undef, undef, undef, undef, undef, undef, undef, undef, undef, undef, undef, undef, undef, undef, undef, undef, undef, undef, undef, undef, undef, undef, undef, undef, undef, undef, undef, undef, undef, undef, undef], defers := [] }) ?assign ?body ?done ?stop
  case assign =>
    intro l x W K hK
    unfold evEnc
    gi_wp2
    exact hK
  case body =>
    rintro l pre x W ⟨⟨hZ, ⟨wt, fs⟩, hst, hT, hFs⟩, hB⟩ hlen
    dsimp only at hT hFs
    have hev := hcells x
    have hw := hws evs[x] (List.getElem_mem _)
    have hbx : b < w.heap.size := hbB (by have := x.2; omega)
    obtain ⟨e, he⟩ : ∃ e, evs[x] = e := ⟨_, rfl⟩
    have hst2 : ∀ st', repStep (wt, fs) e = some st' → repRun (false, 0) (evsAt evs (pre ++ [x])) = some st' := fun st' h => by
      rw [evsAt_snoc, repRun_snoc, hst, he]
      exact h
    have hno : repStep (wt, fs) e = none → repStep (wt, fs) evs[x] = none := fun h => by rw [he]; exact h
    rw [he] at hev hw
    have hc : ∀ f u, e.cells[f]? = some u → W.cell? ⟨b, off + x.1 * 14 + f, none⟩ = some u := fun f u hu => (hB.cell (p := ⟨b, off + x.1 * 14 + f, none⟩) hbx).trans (hev f u hu)
    have h0 := hc 0 _ rfl
    have h13 := hc 13 _ rfl
    simp only [Nat.add_zero] at h0
    have z0 := hZ.cell 0
    have t0 := hT.cell 0
    have f0 := hFs.cell 0
    simp at z0 t0 f0
    have hf0 := fun i => hZ.frozen i
    have hf1 := fun i => hT.frozen i
    have hf2 := fun i => hFs.frozen i
    have ST := Lib.hid hst
    clear hst he
    by_cases k115 : e.kind = 115
    · have q : (e.kind == 115) = true := by simpa using k115
      have HK := Lib.hid k115
      clear k115
      cases wt with
      | true =>
        gi_wp2
        exact ⟨(KeepsOthers.setCell _ _ _).from _, ⟨rfl, pre, x, _, rfl, ST.out, hno (by simp [repStep, HK.out]), by simpa using hZ.set_ 0 (.int .i64 (x.1 : Int))⟩, hB.setCell (p := ⟨w.heap.size, 0, none⟩) (Nat.le_refl _) _⟩
      | false =>
        have h13' : ∀ u v, ((W.setCell ⟨w.heap.size + 1, 0, none⟩ u).setCell ⟨w.heap.size + 1 + 1, 0, none⟩ v).cell? ⟨b, off + x.1 * 14 + 13, none⟩ = some (.slice e.wA e.ws.length e.wc) := fun u v =>
          (World.cell?_setCell_other _ _ _ _ (fun h => by injection h with h; omega)).trans ((World.cell?_setCell_other _ _ _ _ (fun h => by injection h with h; omega)).trans h13)
        have f0' : ∀ u, (W.setCell ⟨w.heap.size + 1, 0, none⟩ u).cell? ⟨w.heap.size + 1 + 1, 0, none⟩ = some (.int .u32 fs) := fun u => (World.cell?_setCell_other _ _ _ _ (fun h => by injection h with h; omega)).trans f0
        have f0'' : ∀ u v, ((W.setCell ⟨w.heap.size + 1, 0, none⟩ u).setCell ⟨w.heap.size + 1 + 1, 0, none⟩ v).cell? ⟨w.heap.size + 1 + 1, 0, none⟩ = some v := fun u v => World.cell?_setCell_same _ _ _ (f0' u)
        have hT1 := hT.set_ 0 (.bool true)
        have hT2 : ∀ u, Blk ((W.setCell ⟨w.heap.size + 1, 0, none⟩ (.bool true)).setCell ⟨w.heap.size + 1 + 1, 0, none⟩ u) (w.heap.size + 1) 4 #[.bool true] := fun u => by simpa using hT1.far (p := ⟨w.heap.size + 1 + 1, 0, none⟩) (by simp) u
        have hF2 : ∀ u, Blk ((W.setCell ⟨w.heap.size + 1, 0, none⟩ (.bool true)).setCell ⟨w.heap.size + 1 + 1, 0, none⟩ u) (w.heap.size + 1 + 1) 30 #[u] := fun u => by simpa using (hFs.far (p := ⟨w.heap.size + 1, 0, none⟩) (by simp) (.bool true)).set_ 0 u
        have hZ2 : ∀ u, Blk ((W.setCell ⟨w.heap.size + 1, 0, none⟩ (.bool true)).setCell ⟨w.heap.size + 1 + 1, 0, none⟩ u) w.heap.size 3 #[.int .i64 0] := fun u => (hZ.far (p := ⟨w.heap.size + 1, 0, none⟩) (by simp) (.bool true)).far (by show w.heap.size ≠ w.heap.size + 1 + 1; omega) u
        have hO2 : ∀ u, KeepsFrom W0.heap.size W ((W.setCell ⟨w.heap.size + 1, 0, none⟩ (.bool true)).setCell ⟨w.heap.size + 1 + 1, 0, none⟩ u) := fun u => ((KeepsOthers.setCell _ _ _).trans (KeepsOthers.setCell _ _ _)).from _
        have hP2 : ∀ u, Keeps w.heap.size (w.heap.size + 1 + 1 + 1) (W0.heap.size + 1 + 1) W ((W.setCell ⟨w.heap.size + 1, 0, none⟩ (.bool true)).setCell ⟨w.heap.size + 1 + 1, 0, none⟩ u) := fun u => ((Keeps.refl _ _ _ W).setCell (by simp) (by show w.heap.size + 1 < w.heap.size + 1 + 1 + 1; omega) _).setCell (by show w.heap.size ≤ w.heap.size + 1 + 1; omega) (by simp) u
        have hB2 : ∀ u, Below w.heap.size w ((W.setCell ⟨w.heap.size + 1, 0, none⟩ (.bool true)).setCell ⟨w.heap.size + 1 + 1, 0, none⟩ u) := fun u => (hB.setCell (p := ⟨w.heap.size + 1, 0, none⟩) (by simp) _).setCell (p := ⟨w.heap.size + 1 + 1, 0, none⟩) (by simp; omega) u
        obtain ⟨ws, hwse⟩ : ∃ ws, e.ws = ws := ⟨_, rfl⟩
        have HW := Lib.hid hwse
        unfold EvWs at hw
        rw [hwse] at h13' hw
        clear hwse
        cases ws with
        | nil =>
          have h13'' := h13' (.bool true) (.int .u32 0)
          rw [List.length_nil] at h13''
          clear h13' h13
          gi_wp2
          exact ⟨hO2 _, hP2 _, ⟨hZ2 _, _, hst2 (true, 0) (by simp [repStep, HK.out, HW.out]), hT2 _, hF2 _⟩, hB2 _⟩
        | cons a r =>
          obtain ⟨bw, ow, hwA, hwB, hwc⟩ := hw.2 (by simp)
          have hwc0 := hwc 0 _ rfl
          rw [Nat.add_zero] at hwc0
          have hwcW := (hB.cell (p := ⟨bw, ow, none⟩) hwB).trans hwc0
          have hwc' : ((W.setCell ⟨w.heap.size + 1, 0, none⟩ (.bool true)).setCell ⟨w.heap.size + 1 + 1, 0, none⟩ (.int .u32 0)).cell? ⟨bw, ow, none⟩ = some (.int .u32 a) :=
            (World.cell?_setCell_other _ _ _ _ (fun h => by injection h with h; omega)).trans ((World.cell?_setCell_other _ _ _ _ (fun h => by injection h with h; omega)).trans hwcW)
          have h13'' := h13' (.bool true) (.int .u32 0)
          rw [hwA] at h13''
          clear h13' h13 hwc hwc0 hwcW hwA
          have hlen : ((0 : Int) < ((r.length + 1 : Nat) : Int)) := by omega
          rw [List.length_cons] at h13''
          gi_wp2
          exact ⟨(hO2 _).trans ((KeepsOthers.setCell _ _ _).from _), (hP2 _).setCell (by show w.heap.size ≤ w.heap.size + 1 + 1; omega) (by simp) _,
            ⟨(hZ2 _).far (by show w.heap.size ≠ w.heap.size + 1 + 1; omega) _, (true, a), hst2 (true, a) (by simp [repStep, HK.out, HW.out]), (hT2 _).far (by simp) _, by simpa using (hF2 (.int .u32 0)).set_ 0 (.int .u32 a)⟩, (hB2 _).setCell (p := ⟨w.heap.size + 1 + 1, 0, none⟩) (by simp; omega) _⟩
    have q115 : (e.kind == 115) = false := by simpa using k115
    have K115 := Lib.hid k115
    clear k115
    by_cases k114 : e.kind = 114
    · have q : (e.kind == 114) = true := by simpa using k114
      have HK := Lib.hid k114
      clear k114
      have hmx : Try.prog.follows .mixedOrders = true := by kernel_rfl
      have hZx : Blk (W.setCell ⟨w.heap.size, 0, none⟩ (.int .i64 (x.1 : Int))) w.heap.size 3 #[.int .i64 (x.1 : Int)] := by simpa using hZ.set_ 0 (.int .i64 (x.1 : Int))
      obtain ⟨ws, hwse⟩ : ∃ ws, e.ws = ws := ⟨_, rfl⟩
      have HW := Lib.hid hwse
      unfold EvWs at hw
      rw [hwse] at h13 hw
      clear hwse
      cases wt with
      | false =>
        gi_wp2
        gi_region_with_o (fail)
        all_goals gi_wp2
        all_goals exact ⟨((KeepsOthers.setCell _ _ _).trans (KeepsOthers.drew _)).from _, ⟨rfl, pre, x, _, rfl, ST.out, hno (by simp [repStep, HK.out]), hZx.drew⟩, (hB.setCell (p := ⟨w.heap.size, 0, none⟩) (Nat.le_refl _) _).drew⟩
      | true =>
        cases ws with
        | nil =>
          rw [List.length_nil] at h13
          gi_wp2
          gi_region_with_o (fail)
          all_goals gi_wp2
          all_goals exact ⟨((KeepsOthers.setCell _ _ _).trans (KeepsOthers.drew _)).from _, ⟨rfl, pre, x, _, rfl, ST.out, hno (by simp [repStep, HK.out, HW.out]), hZx.drew⟩, (hB.setCell (p := ⟨w.heap.size, 0, none⟩) (Nat.le_refl _) _).drew⟩
        | cons a r =>
          obtain ⟨bw, ow, hwA, hwB, hwc⟩ := hw.2 (by simp)
          have hwc0 := hwc 0 _ rfl
          rw [Nat.add_zero] at hwc0
          have hwcW := (hB.cell (p := ⟨bw, ow, none⟩) hwB).trans hwc0
          rw [hwA, List.length_cons] at h13
          have hlen0 : (((r.length + 1 : Nat) : Int) == 0) = false := by simp; omega
          have hlenp : ((0 : Int) < ((r.length + 1 : Nat) : Int)) := by omega
          clear hwc hwc0 hwA
          by_cases haf : a = fs
          · subst haf
            gi_wp2
            gi_region_with_o (fail)
            all_goals gi_wp2
            all_goals exact ⟨((KeepsOthers.setCell _ _ _).trans (KeepsOthers.drew _)).from _, ((Keeps.refl _ _ _ W).setCell (p := ⟨w.heap.size + 1, 0, none⟩) (by simp) (by show w.heap.size + 1 < w.heap.size + 1 + 1 + 1; omega) (.bool false)).drew,
              ⟨(hZ.far (by simp) _).drew, (false, a), hst2 (false, a) (by simp [repStep, HK.out, HW.out]), Blk.drew (by simpa using hT.set_ 0 (.bool false)), (hFs.far (by simp) _).drew⟩, (hB.setCell (p := ⟨w.heap.size + 1, 0, none⟩) (by simp) _).drew⟩
          · have haf' : (a != fs) = true := by simpa using haf
            have HA := Lib.hid haf
            clear haf
            gi_wp2
            gi_region_with_o (fail)
            all_goals gi_wp2
            all_goals exact ⟨((KeepsOthers.setCell _ _ _).trans (KeepsOthers.drew _)).from _, ⟨rfl, pre, x, _, rfl, ST.out, hno (by simp [repStep, HK.out, HW.out, HA.out]), hZx.drew⟩, (hB.setCell (p := ⟨w.heap.size, 0, none⟩) (Nat.le_refl _) _).drew⟩
    · have q114 : (e.kind == 114) = false := by simpa using k114
      have K114 := Lib.hid k114
      clear k114
      gi_wp2
      exact ⟨KeepsFrom.refl _ _, Keeps.refl _ _ _ _, ⟨hZ, (wt, fs), hst2 _ (by simp [repStep, K115.out, K114.out]), hT, hFs⟩, hB⟩
  case done =>
    rintro D ys W hD rfl ⟨⟨hZ, st, hst, _, _⟩, hB⟩ hK
    rw [evsAt_all] at hst
    have hz := hZ.cell 0
    simp at hz
    have hf := fun i => hZ.frozen i
    have hs : repliesF evs = -1 := repG_all hst
    have HS := Lib.hid hs
    clear hs hst
    gi_wp2
    have hD7 := (KeepsOthers.setCell W ⟨w.heap.size, 0, none⟩ (.int .i64 (-1))).same D _ hK rfl
    refine ⟨by simp, .inl ⟨_, _, rfl, run_takeDeferred hD7, ?_⟩⟩
    have hZ8 := (hZ.set_ 0 (.int .i64 (-1))).putObj (by omega : w.heap.size ≠ D) (.deferred none)
    have y0 := hZ8.cell 0
    simp at y0
    refine ⟨.int .i64 (-1), ?_, by rw [HS.out], (hB.setCell (p := ⟨w.heap.size, 0, none⟩) (Nat.le_refl _) _).trans (belowK_b (w := W0) (by omega) _ D _ (.deferred none) hD hD7 rfl rfl)⟩
    simp [results, Try.f34, go_sem, y0]
  case stop =>
    rintro D k pre W hD ⟨j', hj, rfl⟩ ⟨⟨rfl, ini, x, st, hi, hst, hno, hZ⟩, hB⟩ hK
    rw [ixs_succ (by omega)] at hi
    obtain ⟨rfl, e5⟩ := List.append_inj' hi rfl
    obtain rfl : (⟨j', by omega⟩ : Fin evs.length) = x := by simpa using e5
    have hs : repliesF evs = (j' : Int) := by
      rw [evsAt_ixs] at hst
      have := repG_at (k := 0) (r := evs.drop (j' + 1)) hst hno
      rw [List.length_take, Nat.zero_add, Nat.min_eq_left (by omega)] at this
      rw [← this]
      unfold repliesF
      congr 1
      conv => lhs; rw [← List.take_append_drop j' evs, List.drop_eq_getElem_cons (by omega : j' < evs.length)]
      rfl
    have HS := Lib.hid hs
    clear hs hst hno hi e5
    gi_wp2
    refine ⟨by simp, .inl ⟨_, _, rfl, run_takeDeferred hK, ?_⟩⟩
    have hZ8 := hZ.putObj (by omega : w.heap.size ≠ D) (.deferred none)
    have y0 := hZ8.cell 0
    simp at y0
    refine ⟨.int .i64 (j' : Int), ?_, by rw [HS.out], hB.trans (belowK_b (w := W0) (by omega) W D _ (.deferred none) hD hK rfl rfl)⟩
    simp [results, Try.f34, go_sem, y0]
end Go.Proofs.Ytbgibbbggajgaaa
