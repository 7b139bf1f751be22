/- graph.hang: on how many each node hangs, and which hang on it. -/
import Derived.Test.YtbgibbbggajgaaaGraph1
namespace Go.Proofs.Ytbgibbbggajgaaa
set_option linter.all false
open Go.RowKit

/-- rows of the call's own, by their slices -/
def HU (vals : List Value) (U : List (List Int)) : List HP := List.zipWith (fun v l => HP.own 3 1 v l.length (intCells l)) vals U
theorem HU_get {vals : List Value} {U : List (List Int)} {i : Nat} {v : Value} {l : List Int} (hv : vals[i]? = some v) (hl : U[i]? = some l) : (HU vals U)[i]? = some (HP.own 3 1 v l.length (intCells l)) := by
  simp [HU, List.getElem?_zipWith, hv, hl]
theorem HU_set : ∀ (vals : List Value) (U : List (List Int)) (i : Nat) (v : Value) (l : List Int), (HU vals U).set i (HP.own 3 1 v l.length (intCells l)) = HU (vals.set i v) (U.set i l)
  | [], U, i, v, l => by cases U <;> simp [HU]
  | a :: vals, [], i, v, l => by cases i <;> simp [HU]
  | a :: vals, b :: U, 0, v, l => by simp [HU]
  | a :: vals, b :: U, i + 1, v, l => by
    have := HU_set vals U i v l
    simpa [HU] using this
theorem HU_rep (n : Nat) : HU (List.replicate n (.slice none 0 0)) (List.replicate n []) = List.replicate n (HP.own 3 1 (.slice none 0 0) 0 []) := by
  simp [HU, intCells]
theorem intCells_set (W : List Int) (i : Nat) (v : Int) : (intCells W).set i (.int .i64 v) = intCells (W.set i v) := by simp [intCells, List.map_set]
theorem intCells_at {W : List Int} {i : Nat} {v : Int} (h : W[i]? = some v) : (intCells W)[i]? = some (.int .i64 v) := by simp [intCells, h]
theorem intCells_rep (n : Nat) : List.replicate n (Value.int .i64 0) = intCells (List.replicate n 0) := by simp [intCells]
theorem intCells_snoc (W : List Int) (v : Int) : intCells W ++ [.int .i64 v] = intCells (W ++ [v]) := by simp [intCells]
/-- what a row is, when it is written no more -/
theorem GrS.of {q : Piece} {gU n : Nat} {vals : List Value} {U : List (List Int)} (h1 : ∃ F, (HP.blk gU 41 vals).sat F q.w ∧ ∀ b, F b → q.Z b) (h2 : ∃ F, (HP.many (HU vals U)).sat F q.w ∧ ∀ b, F b → q.Z b) (hv : vals.length = n) (hU : U.length = n) : GrS q (some ⟨gU, 0, none⟩) n U := by
  obtain ⟨F1, s1, z1⟩ := h1
  obtain ⟨F2, ⟨G, s2, g2, _⟩, z2⟩ := h2
  refine ⟨vals.map fun v => [v], ?_, hU.symm, ?_⟩
  · have key : ∀ (vals : List Value) (U : List (List Int)), vals.length = U.length → (∀ (i : Nat) (v : Value) (l : List Int), vals[i]? = some v → U[i]? = some l → LstR (slq q) l [v]) → Rows (LstR (slq q)) 1 U (vals.map fun v => [v]) := by
      intro vals
      induction vals with
      | nil => intro U h _; cases U with
        | nil => trivial
        | cons => simp at h
      | cons v vals ih => intro U h hk; cases U with
        | nil => simp at h
        | cons l U => exact ⟨rfl, hk 0 v l rfl rfl, ih U (by simpa using h) (fun i v l h1 h2 => hk (i + 1) v l (by simpa using h1) (by simpa using h2))⟩
    refine key vals U (hv.trans hU.symm) fun i v l h1 h2 => ?_
    obtain ⟨A, c, rfl, hs⟩ := SlS.of_own (Y := q.Z) (s2 i _ (HU_get h1 h2)) (fun b hb => z2 b (g2 i b hb))
    exact ⟨A, l.length, c, rfl, rfl, hs⟩
  · rw [show (vals.map fun v => [v]).flatten = vals by clear s1 s2 hv; induction vals <;> simp_all]
    exact SlS.of_blk (c := 0) s1 z1 (by omega)
theorem hrow_met_le (v : Nat) : ∀ (l : List Int) (s : List Int × List (List Int) × List Int), (l.foldl (hstep v) s).2.2.length ≤ s.2.2.length + l.length
  | [], s => by simp
  | u :: l, s => by
    have := hrow_met_le v l (hstep v s u)
    have h2 : (hstep v s u).2.2.length ≤ s.2.2.length + 1 := by rw [hstep_met]; split <;> simp
    simp only [List.foldl_cons, List.length_cons]
    omega
/-- what stands while row k is gone through -/
theorem hangIn {g : List (List Int)} (hg : InG g) {k j : Nat} {l : List Int} (hl : g[k]? = some l) {s : List Int × List (List Int) × List Int} (hs : s = (l.take j).foldl (hstep k) ((hangTo g k).1, (hangTo g k).2, [])) :
    s.1.length = g.length ∧ s.2.1.length = g.length ∧ s.1[k]? = some (s.2.2.length : Int) ∧ s.2.2.length ≤ j ∧ ∀ (u : Nat) x, s.2.1[u]? = some x → x.length ≤ k + 1 := by
  have hk : k < g.length := (List.getElem?_eq_some_iff.1 hl).1
  have h1 := hrow_len k (l.take j) ((hangTo g k).1, (hangTo g k).2, [])
  have h2 := hangTo_len g k
  have h3 := hangTo_spec hg k (by omega)
  have hmem : ∀ u ∈ l, 0 ≤ u ∧ u < g.length := hg l (List.mem_of_getElem? hl)
  subst hs
  refine ⟨h1.1.trans h2.1, h1.2.trans h2.2, ?_, ?_, fun u x hx => ?_⟩
  · exact hrow_own k _ _ (by rw [h2.1]; exact hk) (by rw [h3.1 k hk]; simp)
  · have := hrow_met_le k (l.take j) ((hangTo g k).1, (hangTo g k).2, [])
    simp only [List.length_nil, List.length_take] at this
    omega
  · have hu : u < g.length := by
      have := (List.getElem?_eq_some_iff.1 hx).1
      rw [h1.2, h2.2] at this
      exact this
    have h4 := hrow_users k (l.take j) ((hangTo g k).1, (hangTo g k).2, []) u (fun y hy => by rw [h2.2]; exact hmem y (List.mem_of_mem_take hy)) (by rw [h2.2]; exact hu)
    rw [h4] at hx
    cases hx
    obtain ⟨z, hz⟩ : ∃ z, (hangTo g k).2[u]? = some z := ⟨_, List.getElem?_eq_getElem (by rw [h2.2]; exact hu)⟩
    have h5 := hangTo_users_le hg (by omega : k ≤ g.length) hz
    simp only [hz, Option.getD_some, List.length_append]
    split <;> simp <;> omega
theorem hang_next {g : List (List Int)} {k j : Nat} {l : List Int} {u : Int} (hu : l[j]? = some u) (s0 : List Int × List (List Int) × List Int) : (l.take (j + 1)).foldl (hstep k) s0 = hstep k ((l.take j).foldl (hstep k) s0) u := by
  rw [List.take_add_one, hu, Option.toList_some, List.foldl_append]; rfl
theorem hang_row {g : List (List Int)} {k : Nat} {l : List Int} (hl : g[k]? = some l) : hangTo g (k + 1) = (((l.take l.length).foldl (hstep k) ((hangTo g k).1, (hangTo g k).2, [])).1, ((l.take l.length).foldl (hstep k) ((hangTo g k).1, (hangTo g k).2, [])).2.1) := by
  rw [List.take_length, hangTo, hl]; rfl

/-- what hang hands back -/
def HangOk (g : List (List Int)) (n : Nat) (v : Value) (hs : List HP) (q : Piece) : Prop := ∃ gW gU : Nat, v = .tuple #[.slice (some ⟨gW, 0, none⟩) n n, .slice (some ⟨gU, 0, none⟩) n n] ∧ hs = [HP.blk gW 3 (intCells (hangTo g n).1)] ∧ GrS q (some ⟨gU, 0, none⟩) n (hangTo g n).2
theorem hang_any (A : Option Addr) (n c : Nat) (g : List (List Int)) (w : World) (hg : GrS (all w) A n g) (hn : n = g.length) (hn2 : n ≤ 100) (hin : InG g) (hlen : ∀ l ∈ g, (l.length : Int) ≤ 9223372036854775806) :
    Calls Try.prog 89 #[.slice A n c] w (fun y w' => (∃ v hs q, y = .returned v ∧ q.w = w' ∧ HangOk g n v hs q ∧ New w hs q) ∧ Below w.heap.size w w') := by
  refine XK.enter (vs := [.slice A n c]) Try.func89 rfl Try.ntmps89 (by simp) ?_
  refine XK.seq ?_

  refine XK.region ?_
  refine xk_assign rfl (by decide) ?_
  refine xk_assign rfl (by decide) ?_
  refine XK.nil ?_
  (repeat (first | refine XK.thenN ?_ | refine XK.thenE ?_ | refine XK.thenR ?_ | refine XK.inN ?_ | refine XK.inE ?_ | refine XK.inR ?_ | refine XK.inF rfl ?_))
  refine XK.seq ?_

  refine XK.region ?_
  refine xk_move rfl (by decide) ?_
  refine xk_len (el := 41) (by kernel_rfl) rfl (by decide) ?_
  refine xk_makeT 8 (el := 3) (z := .int .i64 0) (by kernel_rfl) (by kernel_rfl) rfl rfl rfl (by omega) (by omega) (by decide) fun gW => ?_
  refine xk_assign rfl (by decide) ?_
  refine XK.nil ?_
  (repeat (first | refine XK.thenN ?_ | refine XK.thenE ?_ | refine XK.thenR ?_ | refine XK.inN ?_ | refine XK.inE ?_ | refine XK.inR ?_ | refine XK.inF rfl ?_))
  refine XK.seq ?_

  refine XK.region ?_
  refine xk_move rfl (by decide) ?_
  refine xk_len (el := 41) (by kernel_rfl) rfl (by decide) ?_
  refine xk_makeT 24 (el := 41) (z := .slice none 0 0) (by kernel_rfl) (by kernel_rfl) rfl rfl rfl (by omega) (by omega) (by decide) fun gU => ?_
  refine xk_assign rfl (by decide) ?_
  refine XK.nil ?_
  (repeat (first | refine XK.thenN ?_ | refine XK.thenE ?_ | refine XK.thenR ?_ | refine XK.inN ?_ | refine XK.inE ?_ | refine XK.inR ?_ | refine XK.inF rfl ?_))
  refine XK.seq ?_
  refine XK.seq ?_

  refine XK.region ?_
  refine xk_move rfl (by decide) ?_
  refine xk_len (el := 41) (by kernel_rfl) rfl (by decide) ?_
  refine xk_move rfl (by decide) ?_
  refine XK.nil ?_
  (repeat (first | refine XK.thenN ?_ | refine XK.thenE ?_ | refine XK.thenR ?_ | refine XK.inN ?_ | refine XK.inE ?_ | refine XK.inR ?_ | refine XK.inF rfl ?_))
  refine XK.env [(17, .int .i64 0), (16, .int .i64 n), (15, .slice A n c), (3, .slice (some ⟨gU, 0, none⟩) n n), (2, .slice (some ⟨gW, 0, none⟩) n n)] ⟨rfl, rfl, rfl, rfl, rfl, trivial⟩ ?_
  refine XK.nils n 3 1 ?_
  refine XK.block ?_
  refine XK.loop (fun m e R H => ∃ (k : Nat) (vals : List Value), k ≤ n ∧ m = n - k ∧ vals.length = n ∧ e = [(17, .int .i64 k), (16, .int .i64 n), (15, .slice A n c), (3, .slice (some ⟨gU, 0, none⟩) n n), (2, .slice (some ⟨gW, 0, none⟩) n n)] ∧ R = [all w] ∧ H = [HP.many (HU vals (hangTo g k).2), HP.blk gU 41 vals, HP.blk gW 3 (intCells (hangTo g k).1)]) n ⟨0, List.replicate n (.slice none 0 0), by omega, rfl, by simp, rfl, rfl, by rw [hangTo, ← hn, HU_rep, ← intCells_rep]⟩ fun m e R H hI => ?_
  obtain ⟨k, vals, hk, rfl, hv, rfl, rfl, rfl⟩ := hI
  refine XK.seq ?_

  refine XK.region ?_
  refine xk_lss rfl rfl (by decide) ?_
  refine XK.nil ?_
  (repeat (first | refine XK.thenN ?_ | refine XK.thenE ?_ | refine XK.thenR ?_ | refine XK.inN ?_ | refine XK.inE ?_ | refine XK.inR ?_ | refine XK.inF rfl ?_))
  refine XK.seq ?_
  refine XK.if_ rfl (fun h => ?_) (fun h => ?_)
  ·
    refine XK.skip ?_
    (repeat (first | refine XK.thenN ?_ | refine XK.thenE ?_ | refine XK.thenR ?_ | refine XK.inN ?_ | refine XK.inE ?_ | refine XK.inR ?_ | refine XK.inF rfl ?_))
    refine XK.seq ?_
    refine XK.block ?_
    refine XK.seq ?_
    have hkn : k < n := by omega
    obtain ⟨l, hl⟩ : ∃ l, g[k]? = some l := ⟨g[k]'(by omega), List.getElem?_eq_getElem _⟩
    obtain ⟨b, off, B, c2, rfl, c1, hsl⟩ := hg.row hl
    have hll := hlen l (List.mem_of_getElem? hl)
    have hmem := hin l (List.mem_of_getElem? hl)

    refine XK.region ?_
    refine xk_move rfl (by decide) ?_
    refine xk_at (k) (off + k) (el := 41) (sz := 1) (by kernel_rfl) (by kernel_rfl) rfl rfl (by omega) (by omega) (by omega) (by decide) ?_
    refine xk_load (by kernel_rfl) rfl (by first | assumption | exact Rd.blk 0 rfl rfl | exact Rd.blk 1 rfl rfl | exact Rd.blk 2 rfl rfl | exact Rd.blk 3 rfl rfl | exact Rd.blk 4 rfl rfl | exact Rd.blk 5 rfl rfl | exact Rd.blk 6 rfl rfl | exact Rd.blk 7 rfl rfl | exact Rd.blk 8 rfl rfl | exact Rd.roc (by simp) (by assumption) | (apply Rd.rocN (by simp); assumption; rfl)) (by decide) ?_
    refine xk_assign rfl (by decide) ?_
    refine xk_assign rfl (by decide) ?_
    refine XK.nil ?_
    (repeat (first | refine XK.thenN ?_ | refine XK.thenE ?_ | refine XK.thenR ?_ | refine XK.inN ?_ | refine XK.inE ?_ | refine XK.inR ?_ | refine XK.inF rfl ?_))
    refine XK.seq ?_

    refine XK.region ?_
    refine xk_makeMap (by decide) fun r => ?_
    refine xk_assign rfl (by decide) ?_
    refine XK.nil ?_
    (repeat (first | refine XK.thenN ?_ | refine XK.thenE ?_ | refine XK.thenR ?_ | refine XK.inN ?_ | refine XK.inE ?_ | refine XK.inR ?_ | refine XK.inF rfl ?_))
    refine XK.seq ?_

    refine XK.region ?_
    refine xk_move rfl (by decide) ?_
    refine xk_len (el := 3) (by kernel_rfl) rfl (by decide) ?_
    refine xk_move rfl (by decide) ?_
    refine XK.nil ?_
    (repeat (first | refine XK.thenN ?_ | refine XK.thenE ?_ | refine XK.thenR ?_ | refine XK.inN ?_ | refine XK.inE ?_ | refine XK.inR ?_ | refine XK.inF rfl ?_))
    refine XK.env [(25, .int .i64 0), (24, .int .i64 l.length), (23, .slice B l.length c2), (6, .map (some r)), (4, .int .i64 k), (17, .int .i64 k), (16, .int .i64 n), (15, .slice (some ⟨b, off, none⟩) n c), (3, .slice (some ⟨gU, 0, none⟩) n n), (2, .slice (some ⟨gW, 0, none⟩) n n)] ⟨rfl, rfl, rfl, rfl, rfl, rfl, rfl, rfl, rfl, rfl, trivial⟩ ?_
    refine XK.block ?_
    refine XK.loop (fun m e R H => ∃ (j : Nat) (vals : List Value) (s : List Int × List (List Int) × List Int), j ≤ l.length ∧ m = l.length - j ∧ vals.length = n ∧ s = (l.take j).foldl (hstep k) ((hangTo g k).1, (hangTo g k).2, []) ∧ e = [(25, .int .i64 j), (24, .int .i64 l.length), (23, .slice B l.length c2), (6, .map (some r)), (4, .int .i64 k), (17, .int .i64 k), (16, .int .i64 n), (15, .slice (some ⟨b, off, none⟩) n c), (3, .slice (some ⟨gU, 0, none⟩) n n), (2, .slice (some ⟨gW, 0, none⟩) n n)] ∧ R = [all w] ∧ H = [HP.map r (setL s.2.2), HP.many (HU vals s.2.1), HP.blk gU 41 vals, HP.blk gW 3 (intCells s.1)]) l.length ⟨0, vals, _, by omega, rfl, hv, rfl, rfl, rfl, rfl⟩ fun m e R H hI => ?_
    obtain ⟨j, vals, s, hj, rfl, hv, hs, rfl, rfl, rfl⟩ := hI
    refine XK.seq ?_

    refine XK.region ?_
    refine xk_lss rfl rfl (by decide) ?_
    refine XK.nil ?_
    (repeat (first | refine XK.thenN ?_ | refine XK.thenE ?_ | refine XK.thenR ?_ | refine XK.inN ?_ | refine XK.inE ?_ | refine XK.inR ?_ | refine XK.inF rfl ?_))
    refine XK.seq ?_
    refine XK.if_ rfl (fun h => ?_) (fun h => ?_)
    ·
      refine XK.skip ?_
      (repeat (first | refine XK.thenN ?_ | refine XK.thenE ?_ | refine XK.thenR ?_ | refine XK.inN ?_ | refine XK.inE ?_ | refine XK.inR ?_ | refine XK.inF rfl ?_))
      refine XK.seq ?_
      refine XK.block ?_
      refine XK.seq ?_
      have hjl : j < l.length := by omega
      obtain ⟨b2, off2, rfl, hz2, hc2⟩ := hsl.2 (by omega)
      obtain ⟨u, hu⟩ : ∃ u, l[j]? = some u := ⟨l[j]'(by omega), List.getElem?_eq_getElem _⟩
      have c3 : ROc w b2 (off2 + j) (.int .i64 u) := ⟨hz2, hc2 j _ (by simp [intCells, hu])⟩
      obtain ⟨hW, hU, hWk, hM, hUl⟩ := hangIn hin hl hs
      obtain ⟨hu0, hun⟩ := hmem u (List.mem_of_getElem? hu)
      obtain ⟨vu, hvu⟩ : ∃ v, vals[u.toNat]? = some v := ⟨_, List.getElem?_eq_getElem (by omega)⟩
      obtain ⟨Uu, hUu⟩ : ∃ x, s.2.1[u.toNat]? = some x := ⟨_, List.getElem?_eq_getElem (by omega)⟩
      have hUl2 := hUl _ _ hUu
      have hnx := hang_next (g := g) (k := k) hu ((hangTo g k).1, (hangTo g k).2, [])
      rw [← hs] at hnx

      refine XK.region ?_
      refine xk_at (j) (off2 + j) (el := 3) (sz := 1) (by kernel_rfl) (by kernel_rfl) rfl rfl (by omega) (by omega) (by omega) (by decide) ?_
      refine xk_load (by kernel_rfl) rfl (by first | assumption | exact Rd.blk 0 rfl rfl | exact Rd.blk 1 rfl rfl | exact Rd.blk 2 rfl rfl | exact Rd.blk 3 rfl rfl | exact Rd.blk 4 rfl rfl | exact Rd.blk 5 rfl rfl | exact Rd.blk 6 rfl rfl | exact Rd.blk 7 rfl rfl | exact Rd.blk 8 rfl rfl | exact Rd.roc (by simp) (by assumption) | (apply Rd.rocN (by simp); assumption; rfl)) (by decide) ?_
      refine xk_assign rfl (by decide) ?_
      refine XK.nil ?_
      (repeat (first | refine XK.thenN ?_ | refine XK.thenE ?_ | refine XK.thenR ?_ | refine XK.inN ?_ | refine XK.inE ?_ | refine XK.inR ?_ | refine XK.inF rfl ?_))
      refine XK.seq ?_
      refine XK.seq ?_

      refine XK.region ?_
      refine xk_move rfl (by decide) ?_
      refine xk_move rfl (by decide) ?_
      refine xk_callR (f := 90) (fi := []) (ca := []) (by kernel_rfl) rfl rfl (by decide) (fun w1 st => marks_has r u s.2.2 w1 (st.map (i := 0) rfl)) ?_
      refine XK.nil ?_
      (repeat (first | refine XK.thenN ?_ | refine XK.thenE ?_ | refine XK.thenR ?_ | refine XK.inN ?_ | refine XK.inE ?_ | refine XK.inR ?_ | refine XK.inF rfl ?_))
      refine XK.cond rfl (fun h => ?_) (fun h => ?_)
      ·
        refine XK.exit ?_
        (repeat (first | refine XK.thenN ?_ | refine XK.thenE ?_ | refine XK.thenR ?_ | refine XK.inN ?_ | refine XK.inE ?_ | refine XK.inR ?_ | refine XK.inF rfl ?_))

        refine XK.region ?_
        refine xk_add rfl rfl (wrap_in (by omega)) (by decide) ?_
        refine xk_move rfl (by decide) ?_
        refine XK.nil ?_
        (repeat (first | refine XK.thenN ?_ | refine XK.thenE ?_ | refine XK.thenR ?_ | refine XK.inN ?_ | refine XK.inE ?_ | refine XK.inR ?_ | refine XK.inF rfl ?_))
        exact XK.env [(25, .int .i64 (j + 1)), (24, .int .i64 l.length), (23, .slice (some ⟨b2, off2, none⟩) l.length c2), (6, .map (some r)), (4, .int .i64 k), (17, .int .i64 k), (16, .int .i64 n), (15, .slice (some ⟨b, off, none⟩) n c), (3, .slice (some ⟨gU, 0, none⟩) n n), (2, .slice (some ⟨gW, 0, none⟩) n n)] ⟨rfl, rfl, rfl, rfl, rfl, rfl, rfl, rfl, rfl, rfl, trivial⟩ (XK.round (l.length - (j + 1)) (by omega) ⟨j + 1, vals, _, by omega, rfl, hv, hnx.symm, rfl, rfl, by rw [hstep, if_pos h]⟩)
      ·
        refine XK.skip ?_
        (repeat (first | refine XK.thenN ?_ | refine XK.thenE ?_ | refine XK.thenR ?_ | refine XK.inN ?_ | refine XK.inE ?_ | refine XK.inR ?_ | refine XK.inF rfl ?_))
        refine XK.seq ?_

        refine XK.region ?_
        refine xk_move rfl (by decide) ?_
        refine xk_move rfl (by decide) ?_
        refine xk_callM (f := 91) (fi := []) (ca := []) 0 (HP.map r (setL (if s.2.2.contains u then s.2.2 else s.2.2 ++ [u]))) (by kernel_rfl) rfl rfl rfl ⟨by decide, rfl⟩ (fun w1 F st hp hF => marks_add r u s.2.2 w1 F hp hF) ?_
        dsimp only [List.set]
        refine XK.nil ?_
        (repeat (first | refine XK.thenN ?_ | refine XK.thenE ?_ | refine XK.thenR ?_ | refine XK.inN ?_ | refine XK.inE ?_ | refine XK.inR ?_ | refine XK.inF rfl ?_))
        refine XK.seq ?_

        refine XK.region ?_
        refine xk_move rfl (by decide) ?_
        refine xk_move rfl (by decide) ?_
        refine xk_at (k) (k) (el := 3) (sz := 1) (by kernel_rfl) (by kernel_rfl) rfl rfl (by omega) (by omega) (by omega) (by decide) ?_
        refine xk_load (by kernel_rfl) rfl (Rd.blk 3 rfl (intCells_at hWk)) (by decide) ?_
        refine xk_add rfl rfl (wrap_in (by omega)) (by decide) ?_
        refine xk_at (k) (k) (el := 3) (sz := 1) (by kernel_rfl) (by kernel_rfl) rfl rfl (by omega) (by omega) (by omega) (by decide) ?_
        refine xk_store 3 rfl (by kernel_rfl) rfl rfl rfl (by simp [intCells]; omega) ?_
        dsimp only [List.set]
        rw [intCells_set]
        refine XK.nil ?_
        (repeat (first | refine XK.thenN ?_ | refine XK.thenE ?_ | refine XK.thenR ?_ | refine XK.inN ?_ | refine XK.inE ?_ | refine XK.inR ?_ | refine XK.inF rfl ?_))

        refine XK.region ?_
        refine xk_move rfl (by decide) ?_
        refine xk_move rfl (by decide) ?_
        refine xk_move rfl (by decide) ?_
        refine xk_move rfl (by decide) ?_
        refine xk_at (u.toNat) (u.toNat) (el := 41) (sz := 1) (by kernel_rfl) (by kernel_rfl) rfl rfl (by omega) (by omega) (by omega) (by decide) ?_
        refine xk_load (by kernel_rfl) rfl (Rd.blk 2 rfl hvu) (by decide) ?_
        refine XK.take 1 u.toNat rfl (HU_get hvu hUu) ?_
        dsimp only [List.set]
        refine xk_move rfl (by decide) ?_
        refine xk_slice (el := 3) (sz := 1) (zs := [.int .i64 0]) (by kernel_rfl) (zeroB_of (by kernel_rfl)) (by kernel_rfl) rfl (by decide) (by decide) rfl (by simp [fillL, setN, Value.cells, List.range_succ, List.set]; rfl) (by decide) fun g3 => ?_
        refine xk_appendT 1 1 8 1 (n' := Uu.length + 1) (el := 3) (by kernel_rfl) (by kernel_rfl) (by decide) rfl rfl rfl (sl_blk 0 rfl rfl) (by simp [Value.oneCell']) rfl (by omega) (by omega) (by decide) fun A' k' => ?_
        dsimp only [List.set]
        rw [intCells_snoc]
        refine xk_at (u.toNat) (u.toNat) (el := 41) (sz := 1) (by kernel_rfl) (by kernel_rfl) rfl rfl (by omega) (by omega) (by omega) (by decide) ?_
        refine xk_store 4 rfl (by kernel_rfl) rfl rfl rfl (by omega) ?_
        dsimp only [List.set]
        refine XK.weak [1, 2, 3, 4, 5] rfl (by decide) (fun _ hp => hp) ?_
        refine XK.give 1 u.toNat rfl (by rw [List.getElem?_set_self (by simp [HU]; omega)]) ?_
        dsimp only [List.set]
        rw [List.set_set, show Uu.length + 1 = (Uu ++ [(k : Int)]).length by simp, HU_set]
        refine XK.nil ?_
        (repeat (first | refine XK.thenN ?_ | refine XK.thenE ?_ | refine XK.thenR ?_ | refine XK.inN ?_ | refine XK.inE ?_ | refine XK.inR ?_ | refine XK.inF rfl ?_))

        refine XK.region ?_
        refine xk_add rfl rfl (wrap_in (by omega)) (by decide) ?_
        refine xk_move rfl (by decide) ?_
        refine XK.nil ?_
        (repeat (first | refine XK.thenN ?_ | refine XK.thenE ?_ | refine XK.thenR ?_ | refine XK.inN ?_ | refine XK.inE ?_ | refine XK.inR ?_ | refine XK.inF rfl ?_))
        exact XK.env [(25, .int .i64 (j + 1)), (24, .int .i64 l.length), (23, .slice (some ⟨b2, off2, none⟩) l.length c2), (6, .map (some r)), (4, .int .i64 k), (17, .int .i64 k), (16, .int .i64 n), (15, .slice (some ⟨b, off, none⟩) n c), (3, .slice (some ⟨gU, 0, none⟩) n n), (2, .slice (some ⟨gW, 0, none⟩) n n)] ⟨rfl, rfl, rfl, rfl, rfl, rfl, rfl, rfl, rfl, rfl, trivial⟩ (XK.round (l.length - (j + 1)) (by omega) ⟨j + 1, vals.set u.toNat (.slice A' (Uu ++ [(k : Int)]).length k'), _, by omega, rfl, by simpa using hv, hnx.symm, rfl, rfl, by rw [hstep, if_neg (by rw [h]; decide), if_neg (by rw [h]; decide), hWk, hUu]; rfl⟩)
    ·
      refine XK.exit ?_
      (repeat (first | refine XK.thenN ?_ | refine XK.thenE ?_ | refine XK.thenR ?_ | refine XK.inN ?_ | refine XK.inE ?_ | refine XK.inR ?_ | refine XK.inF rfl ?_))

      refine XK.region ?_
      obtain rfl : j = l.length := by omega
      have hrw := hang_row hl
      rw [← hs] at hrw
      refine xk_add rfl rfl (wrap_in (by omega)) (by decide) ?_
      refine xk_move rfl (by decide) ?_
      refine XK.nil ?_
      (repeat (first | refine XK.thenN ?_ | refine XK.thenE ?_ | refine XK.thenR ?_ | refine XK.inN ?_ | refine XK.inE ?_ | refine XK.inR ?_ | refine XK.inF rfl ?_))
      exact XK.weak [1, 2, 3] rfl (by decide) (by simp) (XK.env [(17, .int .i64 (k + 1)), (16, .int .i64 n), (15, .slice (some ⟨b, off, none⟩) n c), (3, .slice (some ⟨gU, 0, none⟩) n n), (2, .slice (some ⟨gW, 0, none⟩) n n)] ⟨rfl, rfl, rfl, rfl, rfl, trivial⟩ (XK.round (n - (k + 1)) (by omega) ⟨k + 1, vals, by omega, rfl, hv, rfl, rfl, by rw [hrw]⟩))
  ·
    refine XK.exit ?_
    (repeat (first | refine XK.thenN ?_ | refine XK.thenE ?_ | refine XK.thenR ?_ | refine XK.inN ?_ | refine XK.inE ?_ | refine XK.inR ?_ | refine XK.inF rfl ?_))
    refine XK.seq ?_
    obtain rfl : k = n := by omega
    have hUl := (hangTo_len g k).2

    refine XK.region ?_
    refine xk_move rfl (by decide) ?_
    refine xk_move rfl (by decide) ?_
    refine xk_assign rfl (by decide) ?_
    refine xk_assign rfl (by decide) ?_
    refine XK.nil ?_
    (repeat (first | refine XK.thenN ?_ | refine XK.thenE ?_ | refine XK.thenR ?_ | refine XK.inN ?_ | refine XK.inE ?_ | refine XK.inR ?_ | refine XK.inF rfl ?_))
    refine XK.ret ?_
    (repeat (first | refine XK.thenN ?_ | refine XK.thenE ?_ | refine XK.thenR ?_ | refine XK.inN ?_ | refine XK.inE ?_ | refine XK.inR ?_ | refine XK.inF rfl ?_))
    refine XK.still [] [0, 1] [2] (by simp) rfl (by decide) (by decide) fun q hq _ hfr => ?_
    refine XK.ret2 rfl rfl rfl fun w1 st => ⟨⟨_, _, ⟨w1, q.Z⟩, rfl, rfl, ⟨gW, gU, rfl, rfl, ?_⟩, st.newR (by simp) (by simp) (hfr (by simp) (by simp))⟩, st.below (by simp)⟩
    exact (GrS.of (hq 1 _ (by simp) rfl) (hq 0 _ (by simp) rfl) hv (by omega)).le fun b hb => ⟨hb, st.ro (by simp) hb⟩

end Go.Proofs.Ytbgibbbggajgaaa
