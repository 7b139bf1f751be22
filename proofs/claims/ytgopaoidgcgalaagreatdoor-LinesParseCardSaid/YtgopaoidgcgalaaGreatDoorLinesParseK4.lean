/- package lines: Parse. -/
import Derived.Test.YtgopaoidgcgalaaGreatDoorLinesParseK3
namespace Go.Proofs.YtgopaoidgcgalaaGreatDoor
set_option linter.all false
open Go.RowKit
section
variable {P : Program} {N : Frm} {w0 w : World} {K : Act → World → Prop} {e : Env} {R : List Piece} {H H' : List HP}
theorem XK.newChunk {p : HP} (hp : ∀ w, p.sat (fun _ => False) w) (h : XK N w0 K e R (p :: H)) : XK N w0 K e R H := fun a w hr st =>
  h a w hr (st.new (w' := w) (Below.refl _ _) (by
    rw [show (fresh w w).Z = fun _ => False from by funext b; simp only [fresh, eq_iff_iff, iff_false]; omega]
    exact hp w))
theorem res_cells2 {fn : Func} {t1 t2 s1 s2 b1 b2 n : Nat} {vs : List Value} {v2 : Value} (hr : fn.results = #[.cell t1 s1, .cell t2 s2]) (h1 : rowB P s1 n = true) (h2 : oneB P s2 = true) (hn : vs.length = n) (ht1 : e.get t1 = some (.pointer (some ⟨b1, 0, none⟩))) (ht2 : e.get t2 = some (.pointer (some ⟨b2, 0, none⟩)))
    (r1 : RdN w0 R H b1 0 vs) (r2 : Rd w0 R H b2 0 v2) (a : Act) (w : World) (hrp : Rep N e a) (st : St w0 R H w) : (results fn a.tmps).run P w = .ok (.tuple #[.agg vs.toArray, v2]) w := by
  have l1 := run_load_row (P := P) h1 hn (r1 w st)
  have l2 := run_load_one (P := P) h2 (r2 w st)
  have a1 := hrp.get t1 _ ht1
  have a2 := hrp.get t2 _ ht2
  simp only [Instr.loadAt, Instr.sureAddr, Sem.run_bind, Sem.run_pure, Result.andThen_ok] at l1 l2
  simp only [results, hr]
  simp [a1, a2, asAddr, l1, l2]
end
theorem ROc.go {w w' : World} {g o : Nat} {v : Value} (h : ROc w g o v) (hb : Below w.heap.size w w') : w'.cell? ⟨g, o, none⟩ = some v := (hb.cell (p := ⟨g, o, none⟩) h.1).trans h.2
theorem sls_new (w : World) (t : TypeId) (cs : List Value) (sz n : Nat) (hn : cs.length = n * sz) : SlS (fresh w (w.alloc (.cells cs.toArray t))) sz (some ⟨w.heap.size, 0, none⟩) n cs := by
  have hb := Blk.new w t cs.toArray
  exact SlS.of_blk (Y := (fresh w (w.alloc (.cells cs.toArray t))).Z) (w := w.alloc (.cells cs.toArray t)) (c := 0) (F := (fresh w (w.alloc (.cells cs.toArray t))).Z) ⟨⟨Nat.le_refl _, hb.lt⟩, hb⟩ (fun _ h => h) hn
theorem rows_zip {α β : Type} {R : α → List Value → Prop} {sz : Nat} (pr : β → α) (f : β → List Value) : ∀ l : List β, (∀ x ∈ l, (f x).length = sz ∧ R (pr x) (f x)) → Rows R sz (l.map pr) (l.map f)
  | [], _ => trivial
  | x :: l, h => ⟨(h x (by simp)).1, (h x (by simp)).2, rows_zip pr f l (fun y hy => h y (by simp [hy]))⟩
/-- a description that is built, read -/
theorem SocY.read {x : SocY} {s : Soc} (hx : x.of s) {q : Piece} (h : ∃ F, (HP.many [HP.emp, HP.own 55 6 (.slice x.A1 x.n1 x.c1) x.n1 x.L1, HP.own 69 3 (.slice x.A2 x.n2 x.c2) x.n2 x.L2, HP.own 71 1 (.slice x.A3 x.n3 x.c3) x.n3 x.L3, HP.own 51 6 (.slice x.A4 x.n4 x.c4) x.n4 x.L4, HP.many x.rg, HP.pic (picY x.cs x.ds) (picY_mono x.cs x.ds)]).sat F q.w ∧ ∀ b, F b → q.Z b) :
    RsR (slq q) (ClkR (slq q)) 55 6 x.A1 x.n1 s.clocks ∧ RsR (slq q) DomR 69 3 x.A2 x.n2 s.domains ∧ RsR (slq q) RstR 71 1 x.A3 x.n3 s.resets ∧ RsR (slq q) (DevR (slq q)) 51 6 x.A4 x.n4 s.devs := by
  obtain ⟨F, ⟨G, h1, h2, _⟩, hF⟩ := h
  obtain ⟨e1, e2, e3, e4, e5, e6, e7, e8, e9, e10, e11, e12, e13⟩ := hx
  have hq : ∀ i b, G i b → q.Z b := fun i b hb => hF b (h2 i b hb)
  have o1 := SlS.own ⟨G 1, h1 1 _ rfl, hq 1⟩
  have o2 := SlS.own ⟨G 2, h1 2 _ rfl, hq 2⟩
  have o3 := SlS.own ⟨G 3, h1 3 _ rfl, hq 3⟩
  have o4 := SlS.own ⟨G 4, h1 4 _ rfl, hq 4⟩
  have hp : picY x.cs x.ds q := picY_mono x.cs x.ds ⟨q.w, G 6⟩ q (fun b hb => ⟨hq 6 b hb, rfl⟩) (h1 6 _ rfl)
  obtain ⟨G5, g1, g2, _⟩ := h1 5 _ rfl
  refine ⟨⟨x.cs.map clkRow, ?_, ?_, ?_⟩, ⟨x.dm.map domCells, ?_, ?_, ?_⟩, ⟨x.rs.map fun r => [.int .i64 r], ?_, ?_, ?_⟩, ⟨x.ds.map devRow, ?_, ?_, ?_⟩⟩
  · rw [← e1]
    exact rows_zip _ _ _ fun y hy => ⟨rfl, _, _, _, rfl, rfl, hp.1 y hy⟩
  · rw [e5, ← e1]; simp
  · rw [← List.flatMap_def, ← e9]; exact o1
  · rw [← e2]
    conv => arg 3; rw [← List.map_id x.dm]
    exact rows_zip _ _ _ fun y hy => ⟨rfl, rfl⟩
  · rw [e6, e2]
  · rw [← List.flatMap_def, ← e10]; exact o2
  · rw [← e3]
    conv => arg 3; rw [← List.map_id x.rs]
    exact rows_zip _ _ _ fun y hy => ⟨rfl, rfl⟩
  · rw [e7, e3]
  · rw [e11] at o3
    have : (x.rs.map fun r => [Value.int .i64 r]).flatten = intCells x.rs := by
      rw [← List.flatMap_def]; simp [intCells, List.flatMap]
      induction x.rs with
      | nil => rfl
      | cons r l ih => simp [ih]
    rw [this]; exact o3
  · rw [← e4]
    refine rows_zip _ _ _ fun y hy => ⟨rfl, _, _, _, _, _, _, rfl, rfl, rfl, ?_, hp.2 y hy⟩
    obtain ⟨i, hi⟩ := List.getElem?_of_mem hy
    exact SlS.own ⟨G5 i, g1 i (regOwn y) (by rw [e13, List.getElem?_map, hi]; rfl), fun b hb => hq 5 b (g2 i b hb)⟩
  · rw [e8, ← e4]; simp
  · rw [← List.flatMap_def, ← e12]; exact o4
theorem socR_nil (S : SlP) (hS : ∀ t sz, S t sz none 0 []) : SocR S soc0 #[.slice none 0 0, .slice none 0 0, .slice none 0 0, .slice none 0 0] :=
  ⟨_, _, _, _, _, _, _, _, _, _, _, _, rfl, ⟨[], trivial, rfl, hS _ _⟩, ⟨[], trivial, rfl, hS _ _⟩, ⟨[], trivial, rfl, hS _ _⟩, ⟨[], trivial, rfl, hS _ _⟩⟩
/-- what Parse answers -/
def ParseOk (t : ByteArray) (w : World) : Ending → World → Prop := fun x w' => (∃ cs, x = .returned (.tuple #[.agg cs, .int .i64 (parseF t).1]) ∧ SocR (slq (fresh w w')) (parseF t).2 cs) ∧ Below w.heap.size w w'
theorem short0 : soc0.short := ⟨fun c hc => by simp [soc0] at hc, fun d hd => by simp [soc0] at hd⟩
theorem small_of {s : Soc} (h : s.few 8000) (hs : s.short) : s.small :=
  ⟨Nat.le_trans h.clocks (by omega), Nat.le_trans h.domains (by omega), Nat.le_trans h.resets (by omega), Nat.le_trans h.devs (by omega), fun c hc => Nat.le_trans (hs.1 c hc) (by omega), fun d hd => Nat.le_trans (hs.2 d hd) (by omega)⟩

theorem parse_ok (t : ByteArray) (mm : Int) (w : World) (hM : ROc w 0 0 (.int .i64 mm)) :
    Calls Tryz.prog 11 #[.string t] w (ParseOk t w) := by
  refine XK.enterD (vs := [.string t]) Tryz.func11 rfl Tryz.ntmps11 (by simp) ?_
  refine XK.seq ?_

  refine XK.region ?_
  refine xk_alloc (cs := [.slice none 0 0, .slice none 0 0, .slice none 0 0, .slice none 0 0]) (zeroB_of (by kernel_rfl)) (Nat.le_of_ble_eq_true rfl) fun g1 => ?_
  refine xk_alloc (cs := [.int .i64 0]) (zeroB_of (by kernel_rfl)) (Nat.le_of_ble_eq_true rfl) fun g2 => ?_
  refine XK.nilN ?_
  refine XK.seq ?_

  refine XK.region ?_
  refine xk_func (vf := []) (vc := [.pointer (some ⟨g1, 0, none⟩), .pointer (some ⟨g2, 0, none⟩)]) rfl rfl (Nat.le_of_ble_eq_true rfl) ?_
  refine xk_defer (f := 23) (fi := []) (ca := [.pointer (some ⟨g1, 0, none⟩), .pointer (some ⟨g2, 0, none⟩)]) rfl ?_
  refine XK.nilN ?_
  refine XK.seq ?_
  refine XK.seq ?_

  refine XK.region ?_
  refine xk_move rfl (Nat.le_of_ble_eq_true rfl) ?_
  refine xk_lenS (by kernel_rfl) rfl (Nat.le_of_ble_eq_true rfl) ?_
  refine xk_gtr rfl rfl (Nat.le_of_ble_eq_true rfl) ?_
  refine XK.nilN ?_
  refine XK.if_ rfl (fun hbig => ?_) (fun hbig => ?_)
  ·

    refine XK.region ?_
    refine xk_buildS (zs := []) (L := []) (zeroB_of (by kernel_rfl)) (by kernel_rfl) rfl (by simp [fillL, setN, Value.cells]; rfl) (Nat.le_of_ble_eq_true rfl) ?_
    refine xk_iface (T := 59) (by kernel_rfl) rfl (Nat.le_of_ble_eq_true rfl) ?_
    refine xk_panic rfl ?_
    (repeat (first | refine XK.thenP ?_ | refine XK.inP ?_))
    refine XK.leaveP (H' := [HP.blk g2 29 [.int .i64 2], HP.blk g1 28 [.slice none 0 0, .slice none 0 0, .slice none 0 0, .slice none 0 0]]) (by kernel_rfl) (fun w1 st => rec_catch st) fun a w1 hr st => ⟨_, res_cells2 (s1 := 28) (s2 := 29) rfl (by kernel_rfl) (by kernel_rfl) rfl rfl rfl (RdN.whole 1 rfl) (Rd.blk 0 rfl rfl) a w1 hr st, ?_⟩
    have hpf : parseF t = (2, soc0) := by unfold parseF; rw [show readF t = none from if_pos (by omega)]
    exact ⟨⟨_, by rw [hpf], by rw [hpf]; exact socR_nil _ fun _ _ => SlS.nil _ _⟩, st.below (by simp)⟩
  ·
    refine XK.skip ?_
    refine XK.norm ?_
    refine XK.seq ?_

    refine XK.region ?_
    refine xk_alloc (cs := [.slice none 0 0, .slice none 0 0, .slice none 0 0, .slice none 0 0]) (zeroB_of (by kernel_rfl)) (Nat.le_of_ble_eq_true rfl) fun g3 => ?_
    refine XK.nilN ?_
    refine XK.seq ?_
    have hts : t.size ≤ 8000 := by omega
    have hrd : readF t = contF soc0 t.data.toList := if_neg (by omega)
    refine XK.newChunk (p := HP.many []) (fun w => ⟨fun _ _ => False, fun i p h => by simp at h, fun _ _ h => h, fun _ _ _ _ h => h.elim⟩) ?_
    refine XK.weak [1, 0, 2, 3] rfl (by decide) (fun _ h => h) ?_
    refine XK.push ?_
    refine XK.nilrow 55 6 ?_
    refine XK.push ?_
    refine XK.nilrow 69 3 ?_
    refine XK.push ?_
    refine XK.nilrow 71 1 ?_
    refine XK.push ?_
    refine XK.nilrow 51 6 ?_
    refine XK.push ?_
    refine XK.newChunk (p := HP.many []) (fun w => ⟨fun _ _ => False, fun i p h => by simp at h, fun _ _ h => h, fun _ _ _ _ h => h.elim⟩) ?_
    refine XK.push ?_
    refine XK.newChunk (p := HP.pic (picY [] []) (picY_mono [] [])) (fun w => ⟨fun x hx => by simp at hx, fun x hx => by simp at hx⟩) ?_
    refine XK.push ?_
    simp only [List.nil_append, List.cons_append]
    refine XK.toEx 0 (f := fun X0 : {X0 : SocY // X0.of soc0} => X0.1.hp g3) ⟨⟨[], [], [], [], none, 0, 0, none, 0, 0, none, 0, 0, none, 0, 0, [], [], [], [], []⟩, ⟨rfl, rfl, rfl, rfl, rfl, rfl, rfl, rfl, rfl, rfl, rfl, rfl, rfl⟩⟩ rfl ?_
    dsimp only [List.set]
    refine XK.env [(0, .string (strOf t.data.toList)), (2, .pointer (some ⟨g1, 0, none⟩)), (3, .pointer (some ⟨g2, 0, none⟩)), (4, .pointer (some ⟨g3, 0, none⟩))] ⟨by rw [strOf_data]; rfl, rfl, rfl, rfl, trivial⟩ ?_
    refine XK.block ?_
    refine XK.loop (fun m e R H => ∃ (l : List UInt8) (s : Soc), l.length ≤ 8000 ∧ s.few (8000 - l.length) ∧ s.short ∧ readF t = contF s l ∧ m = l.length ∧ e = [(0, .string (strOf l)), (2, .pointer (some ⟨g1, 0, none⟩)), (3, .pointer (some ⟨g2, 0, none⟩)), (4, .pointer (some ⟨g3, 0, none⟩))] ∧ R = [all w] ∧ H = [SocH g3 s, HP.blk g2 29 [.int .i64 0], HP.blk g1 28 [.slice none 0 0, .slice none 0 0, .slice none 0 0, .slice none 0 0]]) t.data.toList.length ⟨t.data.toList, soc0, by simpa using hts, few0.le (Nat.zero_le _), short0, hrd, rfl, rfl, rfl, rfl⟩ fun m e R H hI => ?_
    obtain ⟨l, s, hl, hfew, hsh, hrd, rfl, rfl, rfl, rfl⟩ := hI
    refine XK.seq ?_
    refine XK.seq ?_

    refine XK.region ?_
    refine xk_move rfl (Nat.le_of_ble_eq_true rfl) ?_
    refine xk_neqStr (by kernel_rfl) rfl rfl (Nat.le_of_ble_eq_true rfl) ?_
    refine XK.nilN ?_
    refine XK.if_ rfl (fun hne => ?_) (fun hne => ?_)
    ·
      have hln : l ≠ [] := fun h0 => hne (by subst h0; rfl)
      have hct : Lib.cut (strOf l).data.toList (ByteArray.mk #[10]).data.toList = cutC 10 l := lib_cut 10 l
      refine XK.skip ?_
      refine XK.norm ?_
      refine XK.block ?_
      refine XK.seq ?_

      refine XK.region ?_
      refine xk_move rfl (Nat.le_of_ble_eq_true rfl) ?_
      refine xk_callR (f := 24) (fi := []) (ca := []) (by kernel_rfl) rfl rfl (Nat.le_of_ble_eq_true rfl) (v0 := .tuple #[.string (strOf (cutC 10 l).1), .string (strOf (cutC 10 l).2.1), .bool (cutC 10 l).2.2]) (fun w1 st => (Tryz.strings_Cut (strOf l) ⟨#[10]⟩ mm w1 (by rw [strOf_size]; omega) (hM.go (st.below (by simp)))).mono fun y w' h => ⟨by rw [h.1, hct]; rfl, by obtain ⟨k, rfl⟩ := h.2; exact Below.drewN w1 k⟩) ?_
      refine xk_move rfl (Nat.le_of_ble_eq_true rfl) ?_
      refine xk_extract rfl rfl (Nat.le_of_ble_eq_true rfl) ?_
      refine xk_extract rfl rfl (Nat.le_of_ble_eq_true rfl) ?_
      refine xk_extract rfl rfl (Nat.le_of_ble_eq_true rfl) ?_
      refine xk_assign rfl (Nat.le_of_ble_eq_true rfl) ?_
      refine xk_assign rfl (Nat.le_of_ble_eq_true rfl) ?_
      refine xk_assign rfl (Nat.le_of_ble_eq_true rfl) ?_
      refine XK.nilN ?_
      refine XK.seq ?_
      refine XK.seq ?_

      refine XK.region ?_
      refine xk_move rfl (Nat.le_of_ble_eq_true rfl) ?_
      refine xk_not rfl (Nat.le_of_ble_eq_true rfl) ?_
      refine XK.nilN ?_
      refine XK.cond rfl (fun hend => ?_) (fun hend => ?_)
      ·

        refine XK.region ?_
        refine xk_buildS (zs := []) (L := []) (zeroB_of (by kernel_rfl)) (by kernel_rfl) rfl (by simp [fillL, setN, Value.cells]; rfl) (Nat.le_of_ble_eq_true rfl) ?_
        refine xk_iface (T := 59) (by kernel_rfl) rfl (Nat.le_of_ble_eq_true rfl) ?_
        refine xk_panic rfl ?_
        (repeat (first | refine XK.thenP ?_ | refine XK.inP ?_))
        have hend : (cutC 10 l).2.2 = false := by simpa using hend
        refine XK.weak [1, 2] rfl (by decide) (fun _ h => h) ?_
        refine XK.leaveP (H' := [HP.blk g2 29 [.int .i64 2], HP.blk g1 28 [.slice none 0 0, .slice none 0 0, .slice none 0 0, .slice none 0 0]]) (by kernel_rfl) (fun w1 st => rec_catch st) fun a w1 hr st => ⟨_, res_cells2 (s1 := 28) (s2 := 29) rfl (by kernel_rfl) (by kernel_rfl) rfl rfl rfl (RdN.whole 1 rfl) (Rd.blk 0 rfl rfl) a w1 hr st, ?_⟩
        have hpf : parseF t = (2, soc0) := by unfold parseF; rw [hrd, contF_bad hln hend]
        exact ⟨⟨_, by rw [hpf], by rw [hpf]; exact socR_nil _ fun _ _ => SlS.nil _ _⟩, st.below (by simp)⟩
      ·
        refine XK.skip ?_
        refine XK.norm ?_
        refine XK.seq ?_

        refine XK.region ?_
        refine xk_move rfl (Nat.le_of_ble_eq_true rfl) ?_
        have hend : (cutC 10 l).2.2 = true := by simpa using hend
        rw [contF_line hln hend] at hrd
        have hcl := cutC_len 10 l hend
        have hsl := splitC_len 32 (cutC 10 l).1
        refine xk_call [] (f := 26) (fi := []) (ca := []) (by kernel_rfl) rfl rfl (Nat.le_of_ble_eq_true rfl) (by simp) (fun v w w' => ∃ A, v = .slice A (wordsF (cutC 10 l).1).length (wordsF (cutC 10 l).1).length ∧ SlS (fresh w w') 1 A (wordsF (cutC 10 l).1).length (strCells (wordsF (cutC 10 l).1))) (fun w1 st => (Tryz.strings_Split (strOf (cutC 10 l).1) ⟨#[32]⟩ mm w1 (by rw [strOf_size]; omega) (hM.go (st.below (by simp))) (by decide)).mono fun y w' h => by
          have hw := wordsB (strOf (cutC 10 l).1)
          have hk := Lib.splitB_all ⟨#[32]⟩ (by decide) 0 _ (strOf (cutC 10 l).1) rfl
          rw [hw] at hk
          rw [hw, ← hk] at h
          obtain ⟨rfl, rfl⟩ := h
          exact ⟨⟨_, rfl, _, rfl, sls_new w1 _ (strCells (wordsF (cutC 10 l).1)) 1 _ (by rw [strCells_len]; omega)⟩, ⟨rfl, rfl, rfl, by simp, fun k hk => Below.heap_alloc w1 _ k hk⟩⟩) ?_
        rintro _ w1 q1 ⟨Aw, rfl, hSw⟩ hq1 _ hF1
        have hSw := hSw.le hq1
        have hwl : (wordsF (cutC 10 l).1).length = (splitC 32 (cutC 10 l).1).length := by simp [wordsF]
        have hw1 : 1 ≤ (wordsF (cutC 10 l).1).length := by
          rw [hwl]
          cases hs : splitC 32 (cutC 10 l).1 with
          | nil => exact absurd hs (splitC_ne _ _)
          | cons x xs => simp
        refine xk_callT 0 (SocH g3 ((takeF s (wordsF (cutC 10 l).1)).getD s)) ((takeF s (wordsF (cutC 10 l).1)).isSome = true) (takeF s (wordsF (cutC 10 l).1) = none) (f := 25) (fi := []) (ca := []) (v := .tuple #[]) (by kernel_rfl) rfl rfl rfl (Nat.le_of_ble_eq_true rfl) (fun w1 F st hp hF hle => take_x g3 s (wordsF (cutC 10 l).1) Aw _ _ w1 F hp hF (hfew.le (by omega)) (hSw.le (hle q1 (by simp))) rfl hw1 (Nat.le_refl _) (by omega) (fun x hx => by
          obtain ⟨y, hy, rfl⟩ := List.mem_map.1 hx
          have := hsl.2 y hy
          rw [strOf_size]; omega)) (fun hp T u => by
          (repeat (first | refine XK.thenP ?_ | refine XK.inP ?_))
          dsimp only [List.set]
          refine XK.weak (R' := [all w]) [1, 2] rfl (by decide) (by simp) ?_
          refine XK.leaveP (H' := [HP.blk g2 29 [.int .i64 2], HP.blk g1 28 [.slice none 0 0, .slice none 0 0, .slice none 0 0, .slice none 0 0]]) (by kernel_rfl) (fun w1 st => rec_catch st) fun a w1 hr st => ⟨_, res_cells2 (s1 := 28) (s2 := 29) rfl (by kernel_rfl) (by kernel_rfl) rfl rfl rfl (RdN.whole 1 rfl) (Rd.blk 0 rfl rfl) a w1 hr st, ?_⟩
          have hpf : parseF t = (2, soc0) := by unfold parseF; rw [hrd, hp]; rw [show (none : Option Soc).bind (fun s' => contF s' (cutC 10 l).2.1) = none from rfl]
          exact ⟨⟨_, by rw [hpf], by rw [hpf]; exact socR_nil _ fun _ _ => SlS.nil _ _⟩, st.below (by simp)⟩) ?_
        dsimp only [List.set]
        intro hsome
        obtain ⟨s', hs'⟩ := Option.isSome_iff_exists.1 hsome
        rw [hs', Option.bind_some] at hrd
        rw [hs', Option.getD_some]
        refine XK.nilN ?_

        refine XK.region ?_
        refine xk_move rfl (Nat.le_of_ble_eq_true rfl) ?_
        refine xk_assign rfl (Nat.le_of_ble_eq_true rfl) ?_
        refine XK.nilN ?_
        exact XK.weakR (R' := [all w]) (by simp) (XK.envS [(0, .string (strOf (cutC 10 l).2.1)), (2, .pointer (some ⟨g1, 0, none⟩)), (3, .pointer (some ⟨g2, 0, none⟩)), (4, .pointer (some ⟨g3, 0, none⟩))] (XK.round _ (by omega) ⟨(cutC 10 l).2.1, s', by omega, (takeF_few hs' hfew).le (by omega), takeF_short hs' (by omega) hsh, hrd, rfl, rfl, rfl, rfl⟩))
    ·
      refine XK.exit ?_
      refine XK.norm ?_
      refine XK.seq ?_
      refine XK.seq ?_
      have hl0 : l = [] := by
        have h0 : strOf l = ⟨#[]⟩ := Classical.not_not.1 hne
        have h1 := congrArg (fun b : ByteArray => b.data.toList) h0
        simpa [strOf] using h1
      subst hl0
      rw [contF_nil] at hrd
      have hsm := small_of (hfew.le (by omega)) hsh
      refine XK.openEx 0 rfl ?_
      rintro ⟨⟨cs, dm, rs, ds, A1, n1, c1, A2, n2, c2, A3, n3, c3, A4, n4, c4, L1, L2, L3, L4, rg⟩, hx⟩
      dsimp only [List.set, SocY.hp]
      refine XK.take 0 0 rfl rfl ?_
      dsimp only [List.set]
      refine XK.still [] [1] [0, 2, 3] (by simp) rfl (by decide) (by decide) fun q hq _ hfr => ?_
      have hfr := hfr (by simp) (by simp)
      obtain ⟨r1, r2, r3, r4⟩ := SocY.read hx (hq 1 _ (by simp) rfl)
      dsimp only at r1 r2 r3 r4
      clear hq

      refine XK.region ?_
      refine xk_loadN 4 (by kernel_rfl) rfl (by first | assumption | exact RdN.whole 0 rfl | exact RdN.whole 1 rfl | exact RdN.whole 2 rfl | exact RdN.whole 3 rfl | exact RdN.whole 4 rfl | exact RdN.whole 5 rfl | exact RdN.whole 6 rfl | exact RdN.whole 7 rfl | exact RdN.whole 8 rfl | exact RdN.roc (by simp) (by assumption)) rfl (Nat.le_of_ble_eq_true rfl) ?_
      refine xk_callR (f := 22) (fi := []) (ca := []) (by kernel_rfl) rfl rfl (Nat.le_of_ble_eq_true rfl) (fun w1 st => checkS_any s A1 A2 A3 A4 n1 c1 n2 c2 n3 c3 n4 c4 w1 (by
        have hl := slq_le (st.le (p := q) (by simp))
        exact ⟨r1.mono hl (fun _ _ => ClkR.mono hl), r2.mono hl (fun _ _ h => h), r3.mono hl (fun _ _ h => h), r4.mono hl (fun _ _ => DevR.mono hl), hsm⟩)) ?_
      refine xk_assign rfl (Nat.le_of_ble_eq_true rfl) ?_
      refine XK.nilN ?_
      refine XK.seq ?_

      refine XK.region ?_
      refine xk_move rfl (Nat.le_of_ble_eq_true rfl) ?_
      refine xk_neq rfl rfl (Nat.le_of_ble_eq_true rfl) ?_
      refine XK.nilN ?_
      refine XK.if_ rfl (fun hck => ?_) (fun hck => ?_)
      ·
        refine XK.seq ?_

        refine XK.region ?_
        refine xk_buildS (zs := [.slice none 0 0, .slice none 0 0, .slice none 0 0, .slice none 0 0]) (L := [(0, 1), (1, 1), (2, 1), (3, 1)]) (zeroB_of (by kernel_rfl)) (by kernel_rfl) rfl (by simp [fillL, setN, Value.cells]; rfl) (Nat.le_of_ble_eq_true rfl) ?_
        refine xk_move rfl (Nat.le_of_ble_eq_true rfl) ?_
        (first | (refine xk_storeN 0 rfl rfl rfl (by kernel_rfl) (by simp [Value.cells, Value.oneCell']) (by simp [Value.cells]) ?_) | (refine xk_storeN 1 rfl rfl rfl (by kernel_rfl) (by simp [Value.cells, Value.oneCell']) (by simp [Value.cells]) ?_) | (refine xk_storeN 2 rfl rfl rfl (by kernel_rfl) (by simp [Value.cells, Value.oneCell']) (by simp [Value.cells]) ?_) | (refine xk_storeN 3 rfl rfl rfl (by kernel_rfl) (by simp [Value.cells, Value.oneCell']) (by simp [Value.cells]) ?_) | (refine xk_storeN 4 rfl rfl rfl (by kernel_rfl) (by simp [Value.cells, Value.oneCell']) (by simp [Value.cells]) ?_) | (refine xk_storeN 5 rfl rfl rfl (by kernel_rfl) (by simp [Value.cells, Value.oneCell']) (by simp [Value.cells]) ?_) | (refine xk_storeN 6 rfl rfl rfl (by kernel_rfl) (by simp [Value.cells, Value.oneCell']) (by simp [Value.cells]) ?_) | (refine xk_storeN 7 rfl rfl rfl (by kernel_rfl) (by simp [Value.cells, Value.oneCell']) (by simp [Value.cells]) ?_) | (refine xk_storeN 8 rfl rfl rfl (by kernel_rfl) (by simp [Value.cells, Value.oneCell']) (by simp [Value.cells]) ?_)); simp only [putN, Value.cells, List.set, List.take, List.drop, List.nil_append, List.append_nil, List.length_cons, List.length_nil, List.cons_append, Nat.reduceAdd]
        refine xk_st rfl rfl ?_; dsimp only [List.set]
        refine XK.nilN ?_
        refine XK.ret ?_
        refine XK.norm ?_
        refine XK.leaveR (H' := [HP.blk g3 28 [.slice A1 n1 c1, .slice A2 n2 c2, .slice A3 n3 c3, .slice A4 n4 c4], HP.blk g2 29 [.int .i64 (checkS s)], HP.blk g1 28 [.slice none 0 0, .slice none 0 0, .slice none 0 0, .slice none 0 0]]) (by kernel_rfl) (fun w1 st => (rec_idle g1 g2 w1).mono fun y u' w' h => by obtain ⟨h1, h2, rfl⟩ := h; exact ⟨⟨_, h1⟩, h2, st⟩) fun a w1 hr st => ⟨_, res_cells2 (s1 := 28) (s2 := 29) rfl (by kernel_rfl) (by kernel_rfl) rfl rfl rfl (RdN.whole 2 rfl) (Rd.blk 1 rfl rfl) a w1 hr st, ?_⟩
        have hpf : parseF t = (checkS s, soc0) := by unfold parseF; rw [hrd]; exact if_neg hck
        exact ⟨⟨_, by rw [hpf], by rw [hpf]; exact socR_nil _ fun _ _ => SlS.nil _ _⟩, st.below (by simp)⟩
      ·
        refine XK.skip ?_
        refine XK.norm ?_
        refine XK.seq ?_

        refine XK.region ?_
        refine xk_loadN 4 (by kernel_rfl) rfl (by first | assumption | exact RdN.whole 0 rfl | exact RdN.whole 1 rfl | exact RdN.whole 2 rfl | exact RdN.whole 3 rfl | exact RdN.whole 4 rfl | exact RdN.whole 5 rfl | exact RdN.whole 6 rfl | exact RdN.whole 7 rfl | exact RdN.whole 8 rfl | exact RdN.roc (by simp) (by assumption)) rfl (Nat.le_of_ble_eq_true rfl) ?_
        (first | (refine xk_storeN 0 rfl rfl rfl (by kernel_rfl) (by simp [Value.cells, Value.oneCell']) (by simp [Value.cells]) ?_) | (refine xk_storeN 1 rfl rfl rfl (by kernel_rfl) (by simp [Value.cells, Value.oneCell']) (by simp [Value.cells]) ?_) | (refine xk_storeN 2 rfl rfl rfl (by kernel_rfl) (by simp [Value.cells, Value.oneCell']) (by simp [Value.cells]) ?_) | (refine xk_storeN 3 rfl rfl rfl (by kernel_rfl) (by simp [Value.cells, Value.oneCell']) (by simp [Value.cells]) ?_) | (refine xk_storeN 4 rfl rfl rfl (by kernel_rfl) (by simp [Value.cells, Value.oneCell']) (by simp [Value.cells]) ?_) | (refine xk_storeN 5 rfl rfl rfl (by kernel_rfl) (by simp [Value.cells, Value.oneCell']) (by simp [Value.cells]) ?_) | (refine xk_storeN 6 rfl rfl rfl (by kernel_rfl) (by simp [Value.cells, Value.oneCell']) (by simp [Value.cells]) ?_) | (refine xk_storeN 7 rfl rfl rfl (by kernel_rfl) (by simp [Value.cells, Value.oneCell']) (by simp [Value.cells]) ?_) | (refine xk_storeN 8 rfl rfl rfl (by kernel_rfl) (by simp [Value.cells, Value.oneCell']) (by simp [Value.cells]) ?_)); simp only [putN, Value.cells, List.set, List.take, List.drop, List.nil_append, List.append_nil, List.length_cons, List.length_nil, List.cons_append, Nat.reduceAdd]
        refine xk_st rfl rfl ?_; dsimp only [List.set]
        refine XK.nilN ?_
        refine XK.ret ?_
        refine XK.norm ?_
        refine XK.leaveR (H' := [HP.blk g3 28 [.slice A1 n1 c1, .slice A2 n2 c2, .slice A3 n3 c3, .slice A4 n4 c4], HP.blk g2 29 [.int .i64 0], HP.blk g1 28 [.slice A1 n1 c1, .slice A2 n2 c2, .slice A3 n3 c3, .slice A4 n4 c4]]) (by kernel_rfl) (fun w1 st => (rec_idle g1 g2 w1).mono fun y u' w' h => by obtain ⟨h1, h2, rfl⟩ := h; exact ⟨⟨_, h1⟩, h2, st⟩) fun a w1 hr st => ⟨_, res_cells2 (s1 := 28) (s2 := 29) rfl (by kernel_rfl) (by kernel_rfl) rfl rfl rfl (RdN.whole 2 rfl) (Rd.blk 1 rfl rfl) a w1 hr st, ?_⟩
        have hpf : parseF t = (0, s) := by unfold parseF; rw [hrd]; exact if_pos (Classical.not_not.1 hck)
        exact ⟨⟨_, by rw [hpf], by rw [hpf]; exact (by
          have hl := slq_le (st.fresh_le (p := q) (by simp) hfr)
          exact ⟨_, _, _, _, _, _, _, _, _, _, _, _, rfl, r1.mono hl (fun _ _ => ClkR.mono hl), r2.mono hl (fun _ _ h => h), r3.mono hl (fun _ _ h => h), r4.mono hl (fun _ _ => DevR.mono hl)⟩)⟩, st.below (by simp)⟩

end Go.Proofs.YtgopaoidgcgalaaGreatDoor
/- Chips and their texts: what the laws of chapter 5 need, in plain words. -/
namespace Go.Proofs.YtgopaoidgcgalaaGreatDoor
set_option linter.all false
open Go.RowKit
theorem firstE_zero {es : List Int} (h : firstE es = 0) : ∀ e ∈ es, e = 0 := by
  intro e he
  refine Classical.byContradiction fun hne => ?_
  unfold firstE at h
  cases hf : es.find? (fun e => decide (e ≠ 0)) with
  | none =>
    have := List.find?_eq_none.1 hf e he
    simp [hne] at this
  | some x =>
    have h1 := List.find?_some hf
    rw [hf] at h
    simp at h h1
    exact h1 h
theorem whenE_zero {b : Bool} {e : Int} (he : e ≠ 0) (h : whenE b e = 0) : b = false := by
  unfold whenE at h
  cases b
  · rfl
  · exact absurd h he
/-- what conf.Check has looked at -/
structure Soc.okB (s : Soc) : Prop where
  nc : s.clocks.length ≤ 12
  nd : s.domains.length ≤ 6
  nr : s.resets.length ≤ 6
  nv : s.devs.length ≤ 6
  src : ∀ c ∈ s.clocks, c.src.length ≤ 4
  devs : ∀ d ∈ s.devs, d.regs.length ≤ 8 ∧ d.needs.length ≤ 6
theorem full_zero {s : Soc} (h : fullE s = 0) : s.clocks.length ≤ 12 ∧ s.domains.length ≤ 6 ∧ s.resets.length ≤ 6 ∧ s.devs.length ≤ 6 ∧ ∀ d ∈ s.devs, d.regs.length ≤ 8 ∧ d.needs.length ≤ 6 := by
  unfold fullE at h
  split at h
  · cases h
  · rename_i hn
    refine ⟨by omega, by omega, by omega, by omega, fun d hd => ?_⟩
    have h1 := firstE_zero h (manyE d) (List.mem_map.2 ⟨d, hd, rfl⟩)
    have h2 := whenE_zero (by decide) h1
    rw [Bool.or_eq_false_iff] at h2
    have h3 := of_decide_eq_false h2.1
    have h4 := of_decide_eq_false h2.2
    omega
theorem check_ok {s : Soc} (h : checkS s = 0) : s.okB := by
  have hz := firstE_zero h
  obtain ⟨h1, h2, h3, h4, h5⟩ := full_zero (hz (fullE s) (by simp [checkL]))
  refine ⟨h1, h2, h3, h4, fun c hc => ?_, h5⟩
  have hc1 := firstE_zero (hz (firstE (s.clocks.map (clockE s.clocks.length))) (by simp [checkL])) _ (List.mem_map.2 ⟨c, hc, rfl⟩)
  have hc2 := whenE_zero (by decide) (firstE_zero hc1 (whenE (!shapeB c.kind c.src.length) 1) (by simp))
  unfold shapeB at hc2
  simp only [Bool.not_eq_false'] at hc2
  split at hc2
  · have := of_decide_eq_true hc2; omega
  · split at hc2
    · have := of_decide_eq_true hc2; omega
    · split at hc2
      · unfold withinB at hc2
        rw [Bool.and_eq_true] at hc2
        have := of_decide_eq_true hc2.2
        omega
      · cases hc2
/-! ### chips that texts can say -/
section
variable {s : Soc} (h : s.made)
include h
end
/-! ### how long they are -/
/-! ### a text is read as it was printed -/
theorem readF_of {t : List UInt8} (h : t.length ≤ 8000) : readF (strOf t) = contF soc0 t := by
  unfold readF
  rw [if_neg (by rw [strOf_size]; omega)]
  simp [strOf]
theorem parse_none {t : List UInt8} (hc : contF soc0 t = none) : parseF (strOf t) = (2, soc0) := by
  unfold parseF readF
  split
  · rename_i h
    rfl
  · rename_i s h
    exfalso
    revert h
    split
    · intro h; cases h
    · intro h
      rw [show (strOf t).data.toList = t from by simp [strOf], hc] at h
      cases h
/-- what is parsed is right -/
theorem parse_back {t : ByteArray} {e : Int} {s : Soc} (h : parseF t = (e, s)) : (e = 0 ∧ s.can ∧ checkS s = 0 ∧ contF soc0 t.data.toList = some s ∧ t.size ≤ 8000) ∨ (e ≠ 0 ∧ s = soc0) := by
  unfold parseF at h
  cases hr : readF t with
  | none => rw [hr] at h; cases h; exact .inr ⟨by decide, rfl⟩
  | some x =>
    rw [hr] at h
    dsimp only at h
    unfold readF at hr
    split at hr
    · cases hr
    · split at h
      · rename_i h0
        cases h
        exact .inl ⟨rfl, contF_can hr, h0, hr, by omega⟩
      · rename_i h0
        cases h
        exact .inr ⟨h0, rfl⟩
end Go.Proofs.YtgopaoidgcgalaaGreatDoor
/- The reference's check of any chip. -/
namespace Go.Proofs.YtgopaoidgcgalaaGreatDoor
set_option linter.all false
open Go.RowKit
theorem within_iff {v a b : Int} : withinB v a b = true ↔ a ≤ v ∧ v ≤ b := by unfold withinB; rw [Bool.and_eq_true, decide_eq_true_eq, decide_eq_true_eq]
theorem within_iff_f {v a b : Int} : withinB v a b = false ↔ ¬ (a ≤ v ∧ v ≤ b) := by rw [← within_iff]; simp
theorem firstE_cons0 {es : List Int} : firstE (0 :: es) = firstE es := by unfold firstE; rw [List.find?_cons_of_neg (by simp)]
theorem firstE_cons {e : Int} {es : List Int} (h : e ≠ 0) : firstE (e :: es) = e := by unfold firstE; rw [List.find?_cons_of_pos (by simpa using h)]; rfl
theorem firstE_if {e : Int} {es : List Int} : firstE (e :: es) = if e = 0 then firstE es else e := by
  by_cases h : e = 0
  · subst h; rw [firstE_cons0]; rfl
  · rw [firstE_cons h, if_neg h]
theorem firstE_nil : firstE [] = 0 := rfl
theorem firstE_z0 : ∀ (es : List Int), (∀ e ∈ es, e = 0) → firstE es = 0
  | [], _ => rfl
  | e :: es, h => by rw [h e (by simp), firstE_cons0, firstE_z0 es fun x hx => h x (by simp [hx])]
theorem firstE_map0 {α : Type} {f : α → Int} {l : List α} (h : ∀ x ∈ l, f x = 0) : firstE (l.map f) = 0 := firstE_z0 _ fun e he => by
  rw [List.mem_map] at he
  obtain ⟨x, hx, rfl⟩ := he
  exact h x hx
theorem firstM_at {α : Type} {f : α → Int} : ∀ {l : List α} {i : Nat} {y : α}, l[i]? = some y → (∀ x ∈ l.take i, f x = 0) → f y ≠ 0 → firstE (l.map f) = f y
  | [], i, y, h, _, _ => by simp at h
  | x :: l, 0, y, h, _, hy => by
    simp at h
    subst h
    rw [List.map_cons, firstE_cons hy]
  | x :: l, i + 1, y, h, h0, hy => by
    rw [List.map_cons, h0 x (by simp), firstE_cons0]
    exact firstM_at (by simpa using h) (fun z hz => h0 z (by simp [hz])) hy
theorem take_snoc {α : Type} {P : α → Prop} {l : List α} {i : Nat} {y : α} (h : l[i]? = some y) (h0 : ∀ x ∈ l.take i, P x) (hy : P y) : ∀ x ∈ l.take (i + 1), P x := by
  intro x hx
  rw [List.take_add_one, h] at hx
  rcases List.mem_append.1 hx with hx | hx
  · exact h0 x hx
  · simp at hx; subst hx; exact hy
theorem take_all {α : Type} {P : α → Prop} {l : List α} {i : Nat} (h : l.length ≤ i) (h0 : ∀ x ∈ l.take i, P x) : ∀ x ∈ l, P x := by rwa [List.take_of_length_le h] at h0
theorem shape_iff (k : Int) (n : Nat) : shapeB k n = true ↔ (k = 111 ∧ (n : Int) = 0) ∨ ((k = 112 ∨ k = 100 ∨ k = 103) ∧ (n : Int) = 1) ∨ (k = 109 ∧ 1 ≤ (n : Int) ∧ (n : Int) ≤ 4) := by
  unfold shapeB
  split
  · rw [decide_eq_true_eq]; omega
  · split
    · rw [decide_eq_true_eq]; omega
    · split
      · rw [within_iff]; omega
      · constructor
        · intro h; cases h
        · omega
theorem numbers_iff (k r m d l : Int) : numbersB k r m d l = false ↔ (k = 111 ∧ (r < 1 ∨ 1099511627776 < r)) ∨ (k = 112 ∧ (¬ (1 ≤ m ∧ m ≤ 1000) ∨ ¬ (1 ≤ d ∧ d ≤ 1000) ∨ ¬ (0 ≤ l ∧ l ≤ 20))) ∨ (k = 100 ∧ ¬ (1 ≤ d ∧ d ≤ 1000)) := by
  unfold numbersB
  split
  · rw [Bool.and_eq_false_iff, decide_eq_false_iff_not, decide_eq_false_iff_not]; omega
  · split
    · rw [Bool.and_eq_false_iff, Bool.and_eq_false_iff, within_iff_f, within_iff_f, within_iff_f]; omega
    · split
      · rw [within_iff_f]; omega
      · constructor
        · intro h; cases h
        · omega
theorem srcE {n : Nat} {x : Int} : whenE (!withinB x 0 ((n : Int) - 1)) 4 = if 0 ≤ x ∧ x < n then 0 else 4 := by
  cases h : withinB x 0 ((n : Int) - 1) with
  | true => rw [within_iff] at h; rw [if_pos (by omega)]; rfl
  | false => rw [within_iff_f] at h; rw [if_neg (by omega)]; rfl
section
variable {nn : Nat} {c : Clk}
theorem clockE_form (h : ¬ ((c.kind = 111 ∧ (c.src.length : Int) = 0) ∨ ((c.kind = 112 ∨ c.kind = 100 ∨ c.kind = 103) ∧ (c.src.length : Int) = 1) ∨ (c.kind = 109 ∧ 1 ≤ (c.src.length : Int) ∧ (c.src.length : Int) ≤ 4))) : clockE nn c = 1 := by
  unfold clockE
  rw [← shape_iff] at h
  rw [show shapeB c.kind c.src.length = false by simpa using h, show whenE (!false) 1 = 1 from rfl, firstE_cons (by decide)]
theorem clockE_src {i : Nat} {y : Int} (h : (c.kind = 111 ∧ (c.src.length : Int) = 0) ∨ ((c.kind = 112 ∨ c.kind = 100 ∨ c.kind = 103) ∧ (c.src.length : Int) = 1) ∨ (c.kind = 109 ∧ 1 ≤ (c.src.length : Int) ∧ (c.src.length : Int) ≤ 4)) (hi : c.src[i]? = some y) (h0 : ∀ x ∈ c.src.take i, 0 ≤ x ∧ x < (nn : Int)) (hy : ¬ (0 ≤ y ∧ y < (nn : Int))) : clockE nn c = 4 := by
  unfold clockE
  rw [← shape_iff] at h
  rw [h, show whenE (!true) 1 = 0 from rfl, firstE_cons0, firstM_at hi (fun x hx => by rw [srcE, if_pos (h0 x hx)]) (by rw [srcE, if_neg hy]; decide), srcE, if_neg hy, firstE_cons (by decide)]
theorem clockE_num (h : (c.kind = 111 ∧ (c.src.length : Int) = 0) ∨ ((c.kind = 112 ∨ c.kind = 100 ∨ c.kind = 103) ∧ (c.src.length : Int) = 1) ∨ (c.kind = 109 ∧ 1 ≤ (c.src.length : Int) ∧ (c.src.length : Int) ≤ 4)) (h0 : ∀ x ∈ c.src, 0 ≤ x ∧ x < (nn : Int)) : clockE nn c = whenE (!numbersB c.kind c.rate c.mul c.div c.lock) 3 := by
  unfold clockE
  rw [← shape_iff] at h
  rw [h, show whenE (!true) 1 = 0 from rfl, firstE_cons0, firstE_map0 (fun x hx => by rw [srcE, if_pos (h0 x hx)]), firstE_cons0]
  cases numbersB c.kind c.rate c.mul c.div c.lock <;> rfl
theorem clockE_bad (h : (c.kind = 111 ∧ (c.src.length : Int) = 0) ∨ ((c.kind = 112 ∨ c.kind = 100 ∨ c.kind = 103) ∧ (c.src.length : Int) = 1) ∨ (c.kind = 109 ∧ 1 ≤ (c.src.length : Int) ∧ (c.src.length : Int) ≤ 4)) (h0 : ∀ x ∈ c.src, 0 ≤ x ∧ x < (nn : Int)) (hb : (c.kind = 111 ∧ (c.rate < 1 ∨ 1099511627776 < c.rate)) ∨ (c.kind = 112 ∧ (¬ (1 ≤ c.mul ∧ c.mul ≤ 1000) ∨ ¬ (1 ≤ c.div ∧ c.div ≤ 1000) ∨ ¬ (0 ≤ c.lock ∧ c.lock ≤ 20))) ∨ (c.kind = 100 ∧ ¬ (1 ≤ c.div ∧ c.div ≤ 1000))) : clockE nn c = 3 := by
  rw [clockE_num h h0, (numbers_iff _ _ _ _ _).2 hb]; rfl
theorem clockE_ok (h : (c.kind = 111 ∧ (c.src.length : Int) = 0) ∨ ((c.kind = 112 ∨ c.kind = 100 ∨ c.kind = 103) ∧ (c.src.length : Int) = 1) ∨ (c.kind = 109 ∧ 1 ≤ (c.src.length : Int) ∧ (c.src.length : Int) ≤ 4)) (h0 : ∀ x ∈ c.src, 0 ≤ x ∧ x < (nn : Int)) (hb : ¬ ((c.kind = 111 ∧ (c.rate < 1 ∨ 1099511627776 < c.rate)) ∨ (c.kind = 112 ∧ (¬ (1 ≤ c.mul ∧ c.mul ≤ 1000) ∨ ¬ (1 ≤ c.div ∧ c.div ≤ 1000) ∨ ¬ (0 ≤ c.lock ∧ c.lock ≤ 20))) ∨ (c.kind = 100 ∧ ¬ (1 ≤ c.div ∧ c.div ≤ 1000)))) : clockE nn c = 0 := by
  rw [clockE_num h h0]
  rw [← numbers_iff] at hb
  rw [show numbersB c.kind c.rate c.mul c.div c.lock = true by simpa using hb]; rfl
end

theorem refIn5_any (v n : Int) (w : World) : Calls Tryz.prog 124 #[.int .i64 v, .int .i64 n] w (Rt (.bool (decide (0 ≤ v ∧ v < n))) w) := by
  refine XK.enter (vs := [.int .i64 v, .int .i64 n]) Tryz.func124 rfl Tryz.ntmps124 (by simp) ?_
  refine XK.seq ?_

  refine XK.region ?_
  refine xk_assign rfl (by decide) ?_
  refine XK.nilN ?_
  refine XK.seq ?_

  refine XK.region ?_
  refine xk_move rfl (by decide) ?_
  refine xk_geq rfl rfl (by decide) ?_
  refine xk_move rfl (by decide) ?_
  refine xk_split (t := 7) rfl (fun hg => ?_) (fun hg => ?_)
  ·
    refine xk_guardT rfl rfl ?_; refine xk_move rfl (by decide) ?_
    refine xk_guardT rfl rfl ?_; refine xk_move rfl (by decide) ?_
    refine xk_guardT rfl rfl ?_; refine xk_lss rfl rfl (by decide) ?_
    (first | refine xk_pickT rfl rfl (by decide) ?_ | refine xk_pickF rfl rfl (by decide) ?_)
    refine xk_assign rfl (by decide) ?_
    refine XK.nilN ?_
    refine XK.ret ?_
    refine XK.norm ?_
    rw [show decide (0 ≤ v ∧ v < n) = decide (v < n) from decide_eq_decide.2 ⟨fun h => h.2, fun h => ⟨hg, h⟩⟩]
    exact XK.ret1 rfl rfl fun w1 st => ⟨rfl, st.below (by simp)⟩
  ·
    refine xk_guardF rfl rfl rfl (by decide) ?_
    refine xk_guardF rfl rfl rfl (by decide) ?_
    refine xk_guardF rfl rfl rfl (by decide) ?_
    (first | refine xk_pickT rfl rfl (by decide) ?_ | refine xk_pickF rfl rfl (by decide) ?_)
    refine xk_assign rfl (by decide) ?_
    refine XK.nilN ?_
    refine XK.ret ?_
    refine XK.norm ?_
    rw [show decide (0 ≤ v ∧ v < n) = false from decide_eq_false (fun h => hg h.1)]
    exact XK.ret1 rfl rfl fun w1 st => ⟨rfl, st.below (by simp)⟩

theorem refWithin5_any (v a b : Int) (w : World) : Calls Tryz.prog 89 #[.int .i64 v, .int .i64 a, .int .i64 b] w (Rt (.bool (decide (a ≤ v ∧ v ≤ b))) w) := by
  refine XK.enter (vs := [.int .i64 v, .int .i64 a, .int .i64 b]) Tryz.func89 rfl Tryz.ntmps89 (by simp) ?_
  refine XK.seq ?_

  refine XK.region ?_
  refine xk_assign rfl (by decide) ?_
  refine XK.nilN ?_
  refine XK.seq ?_

  refine XK.region ?_
  refine xk_move rfl (by decide) ?_
  refine xk_move rfl (by decide) ?_
  refine xk_geq rfl rfl (by decide) ?_
  refine xk_move rfl (by decide) ?_
  refine xk_split (t := 10) rfl (fun hg => ?_) (fun hg => ?_)
  ·
    refine xk_guardT rfl rfl ?_; refine xk_move rfl (by decide) ?_
    refine xk_guardT rfl rfl ?_; refine xk_move rfl (by decide) ?_
    refine xk_guardT rfl rfl ?_; refine xk_leq rfl rfl (by decide) ?_
    (first | refine xk_pickT rfl rfl (by decide) ?_ | refine xk_pickF rfl rfl (by decide) ?_)
    refine xk_assign rfl (by decide) ?_
    refine XK.nilN ?_
    refine XK.ret ?_
    refine XK.norm ?_
    rw [show decide (a ≤ v ∧ v ≤ b) = decide (v ≤ b) from decide_eq_decide.2 ⟨fun h => h.2, fun h => ⟨hg, h⟩⟩]
    exact XK.ret1 rfl rfl fun w1 st => ⟨rfl, st.below (by simp)⟩
  ·
    refine xk_guardF rfl rfl rfl (by decide) ?_
    refine xk_guardF rfl rfl rfl (by decide) ?_
    refine xk_guardF rfl rfl rfl (by decide) ?_
    (first | refine xk_pickT rfl rfl (by decide) ?_ | refine xk_pickF rfl rfl (by decide) ?_)
    refine xk_assign rfl (by decide) ?_
    refine XK.nilN ?_
    refine XK.ret ?_
    refine XK.norm ?_
    rw [show decide (a ≤ v ∧ v ≤ b) = false from decide_eq_false (fun h => hg h.1)]
    exact XK.ret1 rfl rfl fun w1 st => ⟨rfl, st.below (by simp)⟩

set_option maxHeartbeats 1000000 in
theorem refClockG_any (c : Clk) (nn : Nat) (As : Option Addr) (ns ks : Nat) (w : World) (hs : SlS (all w) 1 As ns (intCells c.src)) (hns : ns = c.src.length) (hn9 : ns ≤ 1000000) (hnn : nn ≤ 1000000) : Calls Tryz.prog 121 #[.agg #[.int .u8 c.kind, .slice As ns ks, .int .u64 c.rate, .int .i64 c.mul, .int .i64 c.div, .int .i64 c.lock], .int .i64 (nn : Int)] w (Rt (.int .i64 (clockE nn c)) w) := by
  refine XK.enter (vs := [.agg #[.int .u8 c.kind, .slice As ns ks, .int .u64 c.rate, .int .i64 c.mul, .int .i64 c.div, .int .i64 c.lock], .int .i64 (nn : Int)]) Tryz.func121 rfl Tryz.ntmps121 (by simp) ?_
  refine XK.seq ?_

  refine XK.region ?_
  refine xk_box rfl (by decide) fun g1 => ?_
  refine xk_assign rfl (by decide) ?_
  refine XK.nilN ?_
  refine XK.seq ?_

  refine XK.region ?_
  refine xk_field (off := 1) (by kernel_rfl) rfl (by decide) ?_
  refine xk_ld rfl ?_
  refine xk_len (el := 3) (by kernel_rfl) rfl (by decide) ?_
  refine xk_assign rfl (by decide) ?_
  refine XK.nilN ?_
  refine XK.cutB 6 ((c.kind = 111 ∧ (ns : Int) = 0) ∨ ((c.kind = 112 ∨ c.kind = 100 ∨ c.kind = 103) ∧ (ns : Int) = 1) ∨ (c.kind = 109 ∧ 1 ≤ (ns : Int) ∧ (ns : Int) ≤ 4)) ?_ ?_
  · skip

    refine XK.region ?_
    refine xk_field (off := 0) (by kernel_rfl) rfl (by decide) ?_
    refine xk_ld rfl ?_
    refine xk_eql rfl rfl (by decide) ?_
    refine xk_move rfl (by decide) ?_
    refine xk_split (t := 14) rfl (fun hg14 => ?_) (fun hg14 => ?_)
    ·
      refine xk_guardT rfl rfl ?_; refine xk_move rfl (by decide) ?_
      refine xk_guardT rfl rfl ?_; refine xk_eql rfl rfl (by decide) ?_
      (first | refine xk_pickT rfl rfl (by decide) ?_ | refine xk_pickF rfl rfl (by decide) ?_)
      refine xk_move rfl (by decide) ?_
      refine xk_split (t := 18) rfl (fun hg18 => ?_) (fun hg18 => ?_)
      ·
        refine xk_guardF rfl rfl rfl (by decide) ?_
        refine xk_guardF rfl rfl rfl (by decide) ?_
        refine xk_guardF rfl rfl rfl (by decide) ?_
        refine xk_guardF rfl rfl rfl (by decide) ?_
        refine xk_guardU rfl rfl (by decide) ?_
        refine xk_guardU rfl rfl (by decide) ?_
        refine xk_guardU rfl rfl (by decide) ?_
        refine xk_guardF rfl rfl rfl (by decide) ?_
        refine xk_guardF rfl rfl rfl (by decide) ?_
        refine xk_guardU rfl rfl (by decide) ?_
        refine xk_guardU rfl rfl (by decide) ?_
        refine xk_guardU rfl rfl (by decide) ?_
        refine xk_guardF rfl rfl rfl (by decide) ?_
        refine xk_guardF rfl rfl rfl (by decide) ?_
        refine xk_guardU rfl rfl (by decide) ?_
        refine xk_guardU rfl rfl (by decide) ?_
        refine xk_guardF rfl rfl rfl (by decide) ?_
        (first | refine xk_pickT rfl rfl (by decide) ?_ | refine xk_pickF rfl rfl (by decide) ?_)
        refine xk_move rfl (by decide) ?_
        refine xk_guardF rfl rfl rfl (by decide) ?_
        refine xk_guardF rfl rfl rfl (by decide) ?_
        refine xk_guardF rfl rfl rfl (by decide) ?_
        refine xk_guardF rfl rfl rfl (by decide) ?_
        refine xk_guardU rfl rfl (by decide) ?_
        refine xk_guardU rfl rfl (by decide) ?_
        refine xk_guardF rfl rfl rfl (by decide) ?_
        (first | refine xk_pickT rfl rfl (by decide) ?_ | refine xk_pickF rfl rfl (by decide) ?_)
        refine xk_assign rfl (by decide) ?_
        refine XK.nilN ?_
        exact XK.meetB (by repeat (first | exact trivial | refine ⟨rfl, ?_⟩)) (by first | (refine get_iff rfl ?_; omega) | (refine get_true rfl ?_; omega) | (refine get_false rfl ?_; omega))
      ·
        refine xk_guardT rfl rfl ?_; refine xk_field (off := 0) (by kernel_rfl) rfl (by decide) ?_
        refine xk_guardT rfl rfl ?_; refine xk_ld rfl ?_
        refine xk_guardT rfl rfl ?_; refine xk_eql rfl rfl (by decide) ?_
        refine xk_guardT rfl rfl ?_; refine xk_move rfl (by decide) ?_
        refine xk_split (t := 22) rfl (fun hg22 => ?_) (fun hg22 => ?_)
        ·
          refine xk_guardF rfl rfl rfl (by decide) ?_
          refine xk_guardF rfl rfl rfl (by decide) ?_
          refine xk_guardF rfl rfl rfl (by decide) ?_
          refine xk_guardT rfl rfl ?_; (first | refine xk_pickT rfl rfl (by decide) ?_ | refine xk_pickF rfl rfl (by decide) ?_)
          refine xk_guardT rfl rfl ?_; refine xk_move rfl (by decide) ?_
          refine xk_guardF rfl rfl rfl (by decide) ?_
          refine xk_guardF rfl rfl rfl (by decide) ?_
          refine xk_guardF rfl rfl rfl (by decide) ?_
          refine xk_guardT rfl rfl ?_; (first | refine xk_pickT rfl rfl (by decide) ?_ | refine xk_pickF rfl rfl (by decide) ?_)
          refine xk_guardT rfl rfl ?_; refine xk_move rfl (by decide) ?_
          refine xk_guardT rfl rfl ?_; refine xk_move rfl (by decide) ?_
          refine xk_guardT rfl rfl ?_; refine xk_eql rfl rfl (by decide) ?_
          refine xk_guardT rfl rfl ?_; (first | refine xk_pickT rfl rfl (by decide) ?_ | refine xk_pickF rfl rfl (by decide) ?_)
          (first | refine xk_pickT rfl rfl (by decide) ?_ | refine xk_pickF rfl rfl (by decide) ?_)
          refine xk_move rfl (by decide) ?_
          refine xk_split (t := 37) rfl (fun hg37 => ?_) (fun hg37 => ?_)
          ·
            refine xk_guardF rfl rfl rfl (by decide) ?_
            refine xk_guardF rfl rfl rfl (by decide) ?_
            refine xk_guardF rfl rfl rfl (by decide) ?_
            refine xk_guardF rfl rfl rfl (by decide) ?_
            refine xk_guardU rfl rfl (by decide) ?_
            refine xk_guardU rfl rfl (by decide) ?_
            refine xk_guardF rfl rfl rfl (by decide) ?_
            (first | refine xk_pickT rfl rfl (by decide) ?_ | refine xk_pickF rfl rfl (by decide) ?_)
            refine xk_assign rfl (by decide) ?_
            refine XK.nilN ?_
            exact XK.meetB (by repeat (first | exact trivial | refine ⟨rfl, ?_⟩)) (by first | (refine get_iff rfl ?_; omega) | (refine get_true rfl ?_; omega) | (refine get_false rfl ?_; omega))
          ·
            refine xk_guardT rfl rfl ?_; refine xk_field (off := 0) (by kernel_rfl) rfl (by decide) ?_
            refine xk_guardT rfl rfl ?_; refine xk_ld rfl ?_
            refine xk_guardT rfl rfl ?_; refine xk_eql rfl rfl (by decide) ?_
            refine xk_guardT rfl rfl ?_; refine xk_move rfl (by decide) ?_
            refine xk_split (t := 41) rfl (fun hg41 => ?_) (fun hg41 => ?_)
            ·
              refine xk_guardT rfl rfl ?_; refine xk_move rfl (by decide) ?_
              refine xk_guardT rfl rfl ?_; refine xk_callR (f := 89) (fi := []) (ca := []) (by kernel_rfl) rfl rfl (by decide) (fun w1 st => refWithin5_any _ _ _ w1) ?_
              refine xk_guardT rfl rfl ?_; (first | refine xk_pickT rfl rfl (by decide) ?_ | refine xk_pickF rfl rfl (by decide) ?_)
              (first | refine xk_pickT rfl rfl (by decide) ?_ | refine xk_pickF rfl rfl (by decide) ?_)
              refine xk_assign rfl (by decide) ?_
              refine XK.nilN ?_
              exact XK.meetB (by repeat (first | exact trivial | refine ⟨rfl, ?_⟩)) (by first | (refine get_iff rfl ?_; omega) | (refine get_true rfl ?_; omega) | (refine get_false rfl ?_; omega))
            ·
              refine xk_guardF rfl rfl rfl (by decide) ?_
              refine xk_guardF rfl rfl rfl (by decide) ?_
              refine xk_guardT rfl rfl ?_; (first | refine xk_pickT rfl rfl (by decide) ?_ | refine xk_pickF rfl rfl (by decide) ?_)
              (first | refine xk_pickT rfl rfl (by decide) ?_ | refine xk_pickF rfl rfl (by decide) ?_)
              refine xk_assign rfl (by decide) ?_
              refine XK.nilN ?_
              exact XK.meetB (by repeat (first | exact trivial | refine ⟨rfl, ?_⟩)) (by first | (refine get_iff rfl ?_; omega) | (refine get_true rfl ?_; omega) | (refine get_false rfl ?_; omega))
        ·
          refine xk_guardT rfl rfl ?_; refine xk_field (off := 0) (by kernel_rfl) rfl (by decide) ?_
          refine xk_guardT rfl rfl ?_; refine xk_ld rfl ?_
          refine xk_guardT rfl rfl ?_; refine xk_eql rfl rfl (by decide) ?_
          refine xk_guardT rfl rfl ?_; (first | refine xk_pickT rfl rfl (by decide) ?_ | refine xk_pickF rfl rfl (by decide) ?_)
          refine xk_guardT rfl rfl ?_; refine xk_move rfl (by decide) ?_
          refine xk_split (t := 27) rfl (fun hg27 => ?_) (fun hg27 => ?_)
          ·
            refine xk_guardF rfl rfl rfl (by decide) ?_
            refine xk_guardF rfl rfl rfl (by decide) ?_
            refine xk_guardF rfl rfl rfl (by decide) ?_
            refine xk_guardT rfl rfl ?_; (first | refine xk_pickT rfl rfl (by decide) ?_ | refine xk_pickF rfl rfl (by decide) ?_)
            refine xk_guardT rfl rfl ?_; refine xk_move rfl (by decide) ?_
            refine xk_guardT rfl rfl ?_; refine xk_move rfl (by decide) ?_
            refine xk_guardT rfl rfl ?_; refine xk_eql rfl rfl (by decide) ?_
            refine xk_guardT rfl rfl ?_; (first | refine xk_pickT rfl rfl (by decide) ?_ | refine xk_pickF rfl rfl (by decide) ?_)
            (first | refine xk_pickT rfl rfl (by decide) ?_ | refine xk_pickF rfl rfl (by decide) ?_)
            refine xk_move rfl (by decide) ?_
            refine xk_split (t := 37) rfl (fun hg37 => ?_) (fun hg37 => ?_)
            ·
              refine xk_guardF rfl rfl rfl (by decide) ?_
              refine xk_guardF rfl rfl rfl (by decide) ?_
              refine xk_guardF rfl rfl rfl (by decide) ?_
              refine xk_guardF rfl rfl rfl (by decide) ?_
              refine xk_guardU rfl rfl (by decide) ?_
              refine xk_guardU rfl rfl (by decide) ?_
              refine xk_guardF rfl rfl rfl (by decide) ?_
              (first | refine xk_pickT rfl rfl (by decide) ?_ | refine xk_pickF rfl rfl (by decide) ?_)
              refine xk_assign rfl (by decide) ?_
              refine XK.nilN ?_
              exact XK.meetB (by repeat (first | exact trivial | refine ⟨rfl, ?_⟩)) (by first | (refine get_iff rfl ?_; omega) | (refine get_true rfl ?_; omega) | (refine get_false rfl ?_; omega))
            ·
              refine xk_guardT rfl rfl ?_; refine xk_field (off := 0) (by kernel_rfl) rfl (by decide) ?_
              refine xk_guardT rfl rfl ?_; refine xk_ld rfl ?_
              refine xk_guardT rfl rfl ?_; refine xk_eql rfl rfl (by decide) ?_
              refine xk_guardT rfl rfl ?_; refine xk_move rfl (by decide) ?_
              refine xk_split (t := 41) rfl (fun hg41 => ?_) (fun hg41 => ?_)
              ·
                refine xk_guardT rfl rfl ?_; refine xk_move rfl (by decide) ?_
                refine xk_guardT rfl rfl ?_; refine xk_callR (f := 89) (fi := []) (ca := []) (by kernel_rfl) rfl rfl (by decide) (fun w1 st => refWithin5_any _ _ _ w1) ?_
                refine xk_guardT rfl rfl ?_; (first | refine xk_pickT rfl rfl (by decide) ?_ | refine xk_pickF rfl rfl (by decide) ?_)
                (first | refine xk_pickT rfl rfl (by decide) ?_ | refine xk_pickF rfl rfl (by decide) ?_)
                refine xk_assign rfl (by decide) ?_
                refine XK.nilN ?_
                exact XK.meetB (by repeat (first | exact trivial | refine ⟨rfl, ?_⟩)) (by first | (refine get_iff rfl ?_; omega) | (refine get_true rfl ?_; omega) | (refine get_false rfl ?_; omega))
              ·
                refine xk_guardF rfl rfl rfl (by decide) ?_
                refine xk_guardF rfl rfl rfl (by decide) ?_
                refine xk_guardT rfl rfl ?_; (first | refine xk_pickT rfl rfl (by decide) ?_ | refine xk_pickF rfl rfl (by decide) ?_)
                (first | refine xk_pickT rfl rfl (by decide) ?_ | refine xk_pickF rfl rfl (by decide) ?_)
                refine xk_assign rfl (by decide) ?_
                refine XK.nilN ?_
                exact XK.meetB (by repeat (first | exact trivial | refine ⟨rfl, ?_⟩)) (by first | (refine get_iff rfl ?_; omega) | (refine get_true rfl ?_; omega) | (refine get_false rfl ?_; omega))
          ·
            refine xk_guardT rfl rfl ?_; refine xk_field (off := 0) (by kernel_rfl) rfl (by decide) ?_
            refine xk_guardT rfl rfl ?_; refine xk_ld rfl ?_
            refine xk_guardT rfl rfl ?_; refine xk_eql rfl rfl (by decide) ?_
            refine xk_guardT rfl rfl ?_; (first | refine xk_pickT rfl rfl (by decide) ?_ | refine xk_pickF rfl rfl (by decide) ?_)
            refine xk_guardT rfl rfl ?_; refine xk_move rfl (by decide) ?_
            refine xk_split (t := 32) rfl (fun hg32 => ?_) (fun hg32 => ?_)
            ·
              refine xk_guardT rfl rfl ?_; refine xk_move rfl (by decide) ?_
              refine xk_guardT rfl rfl ?_; refine xk_eql rfl rfl (by decide) ?_
              refine xk_guardT rfl rfl ?_; (first | refine xk_pickT rfl rfl (by decide) ?_ | refine xk_pickF rfl rfl (by decide) ?_)
              (first | refine xk_pickT rfl rfl (by decide) ?_ | refine xk_pickF rfl rfl (by decide) ?_)
              refine xk_move rfl (by decide) ?_
              refine xk_split (t := 37) rfl (fun hg37 => ?_) (fun hg37 => ?_)
              ·
                refine xk_guardF rfl rfl rfl (by decide) ?_
                refine xk_guardF rfl rfl rfl (by decide) ?_
                refine xk_guardF rfl rfl rfl (by decide) ?_
                refine xk_guardF rfl rfl rfl (by decide) ?_
                refine xk_guardU rfl rfl (by decide) ?_
                refine xk_guardU rfl rfl (by decide) ?_
                refine xk_guardF rfl rfl rfl (by decide) ?_
                (first | refine xk_pickT rfl rfl (by decide) ?_ | refine xk_pickF rfl rfl (by decide) ?_)
                refine xk_assign rfl (by decide) ?_
                refine XK.nilN ?_
                exact XK.meetB (by repeat (first | exact trivial | refine ⟨rfl, ?_⟩)) (by first | (refine get_iff rfl ?_; omega) | (refine get_true rfl ?_; omega) | (refine get_false rfl ?_; omega))
              ·
                refine xk_guardT rfl rfl ?_; refine xk_field (off := 0) (by kernel_rfl) rfl (by decide) ?_
                refine xk_guardT rfl rfl ?_; refine xk_ld rfl ?_
                refine xk_guardT rfl rfl ?_; refine xk_eql rfl rfl (by decide) ?_
                refine xk_guardT rfl rfl ?_; refine xk_move rfl (by decide) ?_
                refine xk_split (t := 41) rfl (fun hg41 => ?_) (fun hg41 => ?_)
                ·
                  refine xk_guardT rfl rfl ?_; refine xk_move rfl (by decide) ?_
                  refine xk_guardT rfl rfl ?_; refine xk_callR (f := 89) (fi := []) (ca := []) (by kernel_rfl) rfl rfl (by decide) (fun w1 st => refWithin5_any _ _ _ w1) ?_
                  refine xk_guardT rfl rfl ?_; (first | refine xk_pickT rfl rfl (by decide) ?_ | refine xk_pickF rfl rfl (by decide) ?_)
                  (first | refine xk_pickT rfl rfl (by decide) ?_ | refine xk_pickF rfl rfl (by decide) ?_)
                  refine xk_assign rfl (by decide) ?_
                  refine XK.nilN ?_
                  exact XK.meetB (by repeat (first | exact trivial | refine ⟨rfl, ?_⟩)) (by first | (refine get_iff rfl ?_; omega) | (refine get_true rfl ?_; omega) | (refine get_false rfl ?_; omega))
                ·
                  refine xk_guardF rfl rfl rfl (by decide) ?_
                  refine xk_guardF rfl rfl rfl (by decide) ?_
                  refine xk_guardT rfl rfl ?_; (first | refine xk_pickT rfl rfl (by decide) ?_ | refine xk_pickF rfl rfl (by decide) ?_)
                  (first | refine xk_pickT rfl rfl (by decide) ?_ | refine xk_pickF rfl rfl (by decide) ?_)
                  refine xk_assign rfl (by decide) ?_
                  refine XK.nilN ?_
                  exact XK.meetB (by repeat (first | exact trivial | refine ⟨rfl, ?_⟩)) (by first | (refine get_iff rfl ?_; omega) | (refine get_true rfl ?_; omega) | (refine get_false rfl ?_; omega))
            ·
              refine xk_guardF rfl rfl rfl (by decide) ?_
              refine xk_guardF rfl rfl rfl (by decide) ?_
              refine xk_guardT rfl rfl ?_; (first | refine xk_pickT rfl rfl (by decide) ?_ | refine xk_pickF rfl rfl (by decide) ?_)
              (first | refine xk_pickT rfl rfl (by decide) ?_ | refine xk_pickF rfl rfl (by decide) ?_)
              refine xk_move rfl (by decide) ?_
              refine xk_guardT rfl rfl ?_; refine xk_field (off := 0) (by kernel_rfl) rfl (by decide) ?_
              refine xk_guardT rfl rfl ?_; refine xk_ld rfl ?_
              refine xk_guardT rfl rfl ?_; refine xk_eql rfl rfl (by decide) ?_
              refine xk_guardT rfl rfl ?_; refine xk_move rfl (by decide) ?_
              refine xk_split (t := 41) rfl (fun hg41 => ?_) (fun hg41 => ?_)
              ·
                refine xk_guardT rfl rfl ?_; refine xk_move rfl (by decide) ?_
                refine xk_guardT rfl rfl ?_; refine xk_callR (f := 89) (fi := []) (ca := []) (by kernel_rfl) rfl rfl (by decide) (fun w1 st => refWithin5_any _ _ _ w1) ?_
                refine xk_guardT rfl rfl ?_; (first | refine xk_pickT rfl rfl (by decide) ?_ | refine xk_pickF rfl rfl (by decide) ?_)
                (first | refine xk_pickT rfl rfl (by decide) ?_ | refine xk_pickF rfl rfl (by decide) ?_)
                refine xk_assign rfl (by decide) ?_
                refine XK.nilN ?_
                exact XK.meetB (by repeat (first | exact trivial | refine ⟨rfl, ?_⟩)) (by first | (refine get_iff rfl ?_; omega) | (refine get_true rfl ?_; omega) | (refine get_false rfl ?_; omega))
              ·
                refine xk_guardF rfl rfl rfl (by decide) ?_
                refine xk_guardF rfl rfl rfl (by decide) ?_
                refine xk_guardT rfl rfl ?_; (first | refine xk_pickT rfl rfl (by decide) ?_ | refine xk_pickF rfl rfl (by decide) ?_)
                (first | refine xk_pickT rfl rfl (by decide) ?_ | refine xk_pickF rfl rfl (by decide) ?_)
                refine xk_assign rfl (by decide) ?_
                refine XK.nilN ?_
                exact XK.meetB (by repeat (first | exact trivial | refine ⟨rfl, ?_⟩)) (by first | (refine get_iff rfl ?_; omega) | (refine get_true rfl ?_; omega) | (refine get_false rfl ?_; omega))
    ·
      refine xk_guardF rfl rfl rfl (by decide) ?_
      refine xk_guardF rfl rfl rfl (by decide) ?_
      (first | refine xk_pickT rfl rfl (by decide) ?_ | refine xk_pickF rfl rfl (by decide) ?_)
      refine xk_move rfl (by decide) ?_
      refine xk_guardT rfl rfl ?_; refine xk_field (off := 0) (by kernel_rfl) rfl (by decide) ?_
      refine xk_guardT rfl rfl ?_; refine xk_ld rfl ?_
      refine xk_guardT rfl rfl ?_; refine xk_eql rfl rfl (by decide) ?_
      refine xk_guardT rfl rfl ?_; refine xk_move rfl (by decide) ?_
      refine xk_split (t := 22) rfl (fun hg22 => ?_) (fun hg22 => ?_)
      ·
        refine xk_guardF rfl rfl rfl (by decide) ?_
        refine xk_guardF rfl rfl rfl (by decide) ?_
        refine xk_guardF rfl rfl rfl (by decide) ?_
        refine xk_guardT rfl rfl ?_; (first | refine xk_pickT rfl rfl (by decide) ?_ | refine xk_pickF rfl rfl (by decide) ?_)
        refine xk_guardT rfl rfl ?_; refine xk_move rfl (by decide) ?_
        refine xk_guardF rfl rfl rfl (by decide) ?_
        refine xk_guardF rfl rfl rfl (by decide) ?_
        refine xk_guardF rfl rfl rfl (by decide) ?_
        refine xk_guardT rfl rfl ?_; (first | refine xk_pickT rfl rfl (by decide) ?_ | refine xk_pickF rfl rfl (by decide) ?_)
        refine xk_guardT rfl rfl ?_; refine xk_move rfl (by decide) ?_
        refine xk_guardT rfl rfl ?_; refine xk_move rfl (by decide) ?_
        refine xk_guardT rfl rfl ?_; refine xk_eql rfl rfl (by decide) ?_
        refine xk_guardT rfl rfl ?_; (first | refine xk_pickT rfl rfl (by decide) ?_ | refine xk_pickF rfl rfl (by decide) ?_)
        (first | refine xk_pickT rfl rfl (by decide) ?_ | refine xk_pickF rfl rfl (by decide) ?_)
        refine xk_move rfl (by decide) ?_
        refine xk_split (t := 37) rfl (fun hg37 => ?_) (fun hg37 => ?_)
        ·
          refine xk_guardF rfl rfl rfl (by decide) ?_
          refine xk_guardF rfl rfl rfl (by decide) ?_
          refine xk_guardF rfl rfl rfl (by decide) ?_
          refine xk_guardF rfl rfl rfl (by decide) ?_
          refine xk_guardU rfl rfl (by decide) ?_
          refine xk_guardU rfl rfl (by decide) ?_
          refine xk_guardF rfl rfl rfl (by decide) ?_
          (first | refine xk_pickT rfl rfl (by decide) ?_ | refine xk_pickF rfl rfl (by decide) ?_)
          refine xk_assign rfl (by decide) ?_
          refine XK.nilN ?_
          exact XK.meetB (by repeat (first | exact trivial | refine ⟨rfl, ?_⟩)) (by first | (refine get_iff rfl ?_; omega) | (refine get_true rfl ?_; omega) | (refine get_false rfl ?_; omega))
        ·
          refine xk_guardT rfl rfl ?_; refine xk_field (off := 0) (by kernel_rfl) rfl (by decide) ?_
          refine xk_guardT rfl rfl ?_; refine xk_ld rfl ?_
          refine xk_guardT rfl rfl ?_; refine xk_eql rfl rfl (by decide) ?_
          refine xk_guardT rfl rfl ?_; refine xk_move rfl (by decide) ?_
          refine xk_split (t := 41) rfl (fun hg41 => ?_) (fun hg41 => ?_)
          ·
            refine xk_guardT rfl rfl ?_; refine xk_move rfl (by decide) ?_
            refine xk_guardT rfl rfl ?_; refine xk_callR (f := 89) (fi := []) (ca := []) (by kernel_rfl) rfl rfl (by decide) (fun w1 st => refWithin5_any _ _ _ w1) ?_
            refine xk_guardT rfl rfl ?_; (first | refine xk_pickT rfl rfl (by decide) ?_ | refine xk_pickF rfl rfl (by decide) ?_)
            (first | refine xk_pickT rfl rfl (by decide) ?_ | refine xk_pickF rfl rfl (by decide) ?_)
            refine xk_assign rfl (by decide) ?_
            refine XK.nilN ?_
            exact XK.meetB (by repeat (first | exact trivial | refine ⟨rfl, ?_⟩)) (by first | (refine get_iff rfl ?_; omega) | (refine get_true rfl ?_; omega) | (refine get_false rfl ?_; omega))
          ·
            refine xk_guardF rfl rfl rfl (by decide) ?_
            refine xk_guardF rfl rfl rfl (by decide) ?_
            refine xk_guardT rfl rfl ?_; (first | refine xk_pickT rfl rfl (by decide) ?_ | refine xk_pickF rfl rfl (by decide) ?_)
            (first | refine xk_pickT rfl rfl (by decide) ?_ | refine xk_pickF rfl rfl (by decide) ?_)
            refine xk_assign rfl (by decide) ?_
            refine XK.nilN ?_
            exact XK.meetB (by repeat (first | exact trivial | refine ⟨rfl, ?_⟩)) (by first | (refine get_iff rfl ?_; omega) | (refine get_true rfl ?_; omega) | (refine get_false rfl ?_; omega))
      ·
        refine xk_guardT rfl rfl ?_; refine xk_field (off := 0) (by kernel_rfl) rfl (by decide) ?_
        refine xk_guardT rfl rfl ?_; refine xk_ld rfl ?_
        refine xk_guardT rfl rfl ?_; refine xk_eql rfl rfl (by decide) ?_
        refine xk_guardT rfl rfl ?_; (first | refine xk_pickT rfl rfl (by decide) ?_ | refine xk_pickF rfl rfl (by decide) ?_)
        refine xk_guardT rfl rfl ?_; refine xk_move rfl (by decide) ?_
        refine xk_split (t := 27) rfl (fun hg27 => ?_) (fun hg27 => ?_)
        ·
          refine xk_guardF rfl rfl rfl (by decide) ?_
          refine xk_guardF rfl rfl rfl (by decide) ?_
          refine xk_guardF rfl rfl rfl (by decide) ?_
          refine xk_guardT rfl rfl ?_; (first | refine xk_pickT rfl rfl (by decide) ?_ | refine xk_pickF rfl rfl (by decide) ?_)
          refine xk_guardT rfl rfl ?_; refine xk_move rfl (by decide) ?_
          refine xk_guardT rfl rfl ?_; refine xk_move rfl (by decide) ?_
          refine xk_guardT rfl rfl ?_; refine xk_eql rfl rfl (by decide) ?_
          refine xk_guardT rfl rfl ?_; (first | refine xk_pickT rfl rfl (by decide) ?_ | refine xk_pickF rfl rfl (by decide) ?_)
          (first | refine xk_pickT rfl rfl (by decide) ?_ | refine xk_pickF rfl rfl (by decide) ?_)
          refine xk_move rfl (by decide) ?_
          refine xk_split (t := 37) rfl (fun hg37 => ?_) (fun hg37 => ?_)
          ·
            refine xk_guardF rfl rfl rfl (by decide) ?_
            refine xk_guardF rfl rfl rfl (by decide) ?_
            refine xk_guardF rfl rfl rfl (by decide) ?_
            refine xk_guardF rfl rfl rfl (by decide) ?_
            refine xk_guardU rfl rfl (by decide) ?_
            refine xk_guardU rfl rfl (by decide) ?_
            refine xk_guardF rfl rfl rfl (by decide) ?_
            (first | refine xk_pickT rfl rfl (by decide) ?_ | refine xk_pickF rfl rfl (by decide) ?_)
            refine xk_assign rfl (by decide) ?_
            refine XK.nilN ?_
            exact XK.meetB (by repeat (first | exact trivial | refine ⟨rfl, ?_⟩)) (by first | (refine get_iff rfl ?_; omega) | (refine get_true rfl ?_; omega) | (refine get_false rfl ?_; omega))
          ·
            refine xk_guardT rfl rfl ?_; refine xk_field (off := 0) (by kernel_rfl) rfl (by decide) ?_
            refine xk_guardT rfl rfl ?_; refine xk_ld rfl ?_
            refine xk_guardT rfl rfl ?_; refine xk_eql rfl rfl (by decide) ?_
            refine xk_guardT rfl rfl ?_; refine xk_move rfl (by decide) ?_
            refine xk_split (t := 41) rfl (fun hg41 => ?_) (fun hg41 => ?_)
            ·
              refine xk_guardT rfl rfl ?_; refine xk_move rfl (by decide) ?_
              refine xk_guardT rfl rfl ?_; refine xk_callR (f := 89) (fi := []) (ca := []) (by kernel_rfl) rfl rfl (by decide) (fun w1 st => refWithin5_any _ _ _ w1) ?_
              refine xk_guardT rfl rfl ?_; (first | refine xk_pickT rfl rfl (by decide) ?_ | refine xk_pickF rfl rfl (by decide) ?_)
              (first | refine xk_pickT rfl rfl (by decide) ?_ | refine xk_pickF rfl rfl (by decide) ?_)
              refine xk_assign rfl (by decide) ?_
              refine XK.nilN ?_
              exact XK.meetB (by repeat (first | exact trivial | refine ⟨rfl, ?_⟩)) (by first | (refine get_iff rfl ?_; omega) | (refine get_true rfl ?_; omega) | (refine get_false rfl ?_; omega))
            ·
              refine xk_guardF rfl rfl rfl (by decide) ?_
              refine xk_guardF rfl rfl rfl (by decide) ?_
              refine xk_guardT rfl rfl ?_; (first | refine xk_pickT rfl rfl (by decide) ?_ | refine xk_pickF rfl rfl (by decide) ?_)
              (first | refine xk_pickT rfl rfl (by decide) ?_ | refine xk_pickF rfl rfl (by decide) ?_)
              refine xk_assign rfl (by decide) ?_
              refine XK.nilN ?_
              exact XK.meetB (by repeat (first | exact trivial | refine ⟨rfl, ?_⟩)) (by first | (refine get_iff rfl ?_; omega) | (refine get_true rfl ?_; omega) | (refine get_false rfl ?_; omega))
        ·
          refine xk_guardT rfl rfl ?_; refine xk_field (off := 0) (by kernel_rfl) rfl (by decide) ?_
          refine xk_guardT rfl rfl ?_; refine xk_ld rfl ?_
          refine xk_guardT rfl rfl ?_; refine xk_eql rfl rfl (by decide) ?_
          refine xk_guardT rfl rfl ?_; (first | refine xk_pickT rfl rfl (by decide) ?_ | refine xk_pickF rfl rfl (by decide) ?_)
          refine xk_guardT rfl rfl ?_; refine xk_move rfl (by decide) ?_
          refine xk_split (t := 32) rfl (fun hg32 => ?_) (fun hg32 => ?_)
          ·
            refine xk_guardT rfl rfl ?_; refine xk_move rfl (by decide) ?_
            refine xk_guardT rfl rfl ?_; refine xk_eql rfl rfl (by decide) ?_
            refine xk_guardT rfl rfl ?_; (first | refine xk_pickT rfl rfl (by decide) ?_ | refine xk_pickF rfl rfl (by decide) ?_)
            (first | refine xk_pickT rfl rfl (by decide) ?_ | refine xk_pickF rfl rfl (by decide) ?_)
            refine xk_move rfl (by decide) ?_
            refine xk_split (t := 37) rfl (fun hg37 => ?_) (fun hg37 => ?_)
            ·
              refine xk_guardF rfl rfl rfl (by decide) ?_
              refine xk_guardF rfl rfl rfl (by decide) ?_
              refine xk_guardF rfl rfl rfl (by decide) ?_
              refine xk_guardF rfl rfl rfl (by decide) ?_
              refine xk_guardU rfl rfl (by decide) ?_
              refine xk_guardU rfl rfl (by decide) ?_
              refine xk_guardF rfl rfl rfl (by decide) ?_
              (first | refine xk_pickT rfl rfl (by decide) ?_ | refine xk_pickF rfl rfl (by decide) ?_)
              refine xk_assign rfl (by decide) ?_
              refine XK.nilN ?_
              exact XK.meetB (by repeat (first | exact trivial | refine ⟨rfl, ?_⟩)) (by first | (refine get_iff rfl ?_; omega) | (refine get_true rfl ?_; omega) | (refine get_false rfl ?_; omega))
            ·
              refine xk_guardT rfl rfl ?_; refine xk_field (off := 0) (by kernel_rfl) rfl (by decide) ?_
              refine xk_guardT rfl rfl ?_; refine xk_ld rfl ?_
              refine xk_guardT rfl rfl ?_; refine xk_eql rfl rfl (by decide) ?_
              refine xk_guardT rfl rfl ?_; refine xk_move rfl (by decide) ?_
              refine xk_split (t := 41) rfl (fun hg41 => ?_) (fun hg41 => ?_)
              ·
                refine xk_guardT rfl rfl ?_; refine xk_move rfl (by decide) ?_
                refine xk_guardT rfl rfl ?_; refine xk_callR (f := 89) (fi := []) (ca := []) (by kernel_rfl) rfl rfl (by decide) (fun w1 st => refWithin5_any _ _ _ w1) ?_
                refine xk_guardT rfl rfl ?_; (first | refine xk_pickT rfl rfl (by decide) ?_ | refine xk_pickF rfl rfl (by decide) ?_)
                (first | refine xk_pickT rfl rfl (by decide) ?_ | refine xk_pickF rfl rfl (by decide) ?_)
                refine xk_assign rfl (by decide) ?_
                refine XK.nilN ?_
                exact XK.meetB (by repeat (first | exact trivial | refine ⟨rfl, ?_⟩)) (by first | (refine get_iff rfl ?_; omega) | (refine get_true rfl ?_; omega) | (refine get_false rfl ?_; omega))
              ·
                refine xk_guardF rfl rfl rfl (by decide) ?_
                refine xk_guardF rfl rfl rfl (by decide) ?_
                refine xk_guardT rfl rfl ?_; (first | refine xk_pickT rfl rfl (by decide) ?_ | refine xk_pickF rfl rfl (by decide) ?_)
                (first | refine xk_pickT rfl rfl (by decide) ?_ | refine xk_pickF rfl rfl (by decide) ?_)
                refine xk_assign rfl (by decide) ?_
                refine XK.nilN ?_
                exact XK.meetB (by repeat (first | exact trivial | refine ⟨rfl, ?_⟩)) (by first | (refine get_iff rfl ?_; omega) | (refine get_true rfl ?_; omega) | (refine get_false rfl ?_; omega))
          ·
            refine xk_guardF rfl rfl rfl (by decide) ?_
            refine xk_guardF rfl rfl rfl (by decide) ?_
            refine xk_guardT rfl rfl ?_; (first | refine xk_pickT rfl rfl (by decide) ?_ | refine xk_pickF rfl rfl (by decide) ?_)
            (first | refine xk_pickT rfl rfl (by decide) ?_ | refine xk_pickF rfl rfl (by decide) ?_)
            refine xk_move rfl (by decide) ?_
            refine xk_guardT rfl rfl ?_; refine xk_field (off := 0) (by kernel_rfl) rfl (by decide) ?_
            refine xk_guardT rfl rfl ?_; refine xk_ld rfl ?_
            refine xk_guardT rfl rfl ?_; refine xk_eql rfl rfl (by decide) ?_
            refine xk_guardT rfl rfl ?_; refine xk_move rfl (by decide) ?_
            refine xk_split (t := 41) rfl (fun hg41 => ?_) (fun hg41 => ?_)
            ·
              refine xk_guardT rfl rfl ?_; refine xk_move rfl (by decide) ?_
              refine xk_guardT rfl rfl ?_; refine xk_callR (f := 89) (fi := []) (ca := []) (by kernel_rfl) rfl rfl (by decide) (fun w1 st => refWithin5_any _ _ _ w1) ?_
              refine xk_guardT rfl rfl ?_; (first | refine xk_pickT rfl rfl (by decide) ?_ | refine xk_pickF rfl rfl (by decide) ?_)
              (first | refine xk_pickT rfl rfl (by decide) ?_ | refine xk_pickF rfl rfl (by decide) ?_)
              refine xk_assign rfl (by decide) ?_
              refine XK.nilN ?_
              exact XK.meetB (by repeat (first | exact trivial | refine ⟨rfl, ?_⟩)) (by first | (refine get_iff rfl ?_; omega) | (refine get_true rfl ?_; omega) | (refine get_false rfl ?_; omega))
            ·
              refine xk_guardF rfl rfl rfl (by decide) ?_
              refine xk_guardF rfl rfl rfl (by decide) ?_
              refine xk_guardT rfl rfl ?_; (first | refine xk_pickT rfl rfl (by decide) ?_ | refine xk_pickF rfl rfl (by decide) ?_)
              (first | refine xk_pickT rfl rfl (by decide) ?_ | refine xk_pickF rfl rfl (by decide) ?_)
              refine xk_assign rfl (by decide) ?_
              refine XK.nilN ?_
              exact XK.meetB (by repeat (first | exact trivial | refine ⟨rfl, ?_⟩)) (by first | (refine get_iff rfl ?_; omega) | (refine get_true rfl ?_; omega) | (refine get_false rfl ?_; omega))
  refine XK.seq ?_
  refine XK.seq ?_

  refine XK.region ?_
  refine xk_move rfl (by decide) ?_
  refine xk_notD rfl (by decide) ?_
  refine XK.nilN ?_
  refine XK.if_ rfl (fun hF => ?_) (fun hF => ?_)
  ·
    refine XK.seq ?_

    refine XK.region ?_
    refine xk_assign rfl (by decide) ?_
    refine XK.nilN ?_
    refine XK.ret ?_
    refine XK.norm ?_
    rw [clockE_form (by rw [← hns]; exact hF)]
    exact XK.ret1 rfl rfl fun w1 st => ⟨rfl, st.below (by simp)⟩
  ·
    refine XK.skip ?_
    refine XK.norm ?_
    refine XK.seq ?_
    refine XK.seq ?_
    have hF' : (c.kind = 111 ∧ (c.src.length : Int) = 0) ∨ ((c.kind = 112 ∨ c.kind = 100 ∨ c.kind = 103) ∧ (c.src.length : Int) = 1) ∨ (c.kind = 109 ∧ 1 ≤ (c.src.length : Int) ∧ (c.src.length : Int) ≤ 4) := by rw [← hns]; exact Classical.not_not.1 hF

    refine XK.region ?_
    refine xk_assign rfl (by decide) ?_
    refine XK.nilN ?_
    refine XK.envS [(7, .int .i64 0), (5, .int .i64 ns), (2, .pointer (some ⟨g1, 0, none⟩)), (1, .int .i64 nn)] ?_
    refine XK.block ?_
    refine XK.loop (fun m e R H => ∃ (i : Nat), i ≤ ns ∧ (∀ x ∈ c.src.take i, 0 ≤ x ∧ x < (nn : Int)) ∧ m = ns - i ∧ e = [(7, .int .i64 i), (5, .int .i64 ns), (2, .pointer (some ⟨g1, 0, none⟩)), (1, .int .i64 nn)] ∧ R = [all w] ∧ H = [HP.blk g1 55 [.int .u8 c.kind, .slice As ns ks, .int .u64 c.rate, .int .i64 c.mul, .int .i64 c.div, .int .i64 c.lock]]) ns ⟨0, by omega, by simp, rfl, rfl, rfl, rfl⟩ fun m e R H hI => ?_
    obtain ⟨i, hi, hpre, rfl, rfl, rfl, rfl⟩ := hI
    refine XK.seq ?_
    refine XK.seq ?_

    refine XK.region ?_
    refine xk_move rfl (by decide) ?_
    refine xk_move rfl (by decide) ?_
    refine xk_lss rfl rfl (by decide) ?_
    refine XK.nilN ?_
    refine XK.if_ rfl (fun hil => ?_) (fun hil => ?_)
    ·
      refine XK.skip ?_
      refine XK.norm ?_
      refine XK.seq ?_
      refine XK.block ?_
      refine XK.seq ?_
      have hil' : i < ns := by have h' : (i : Int) < (ns : Int) := hil; omega
      obtain ⟨y, hy⟩ : ∃ y, c.src[i]? = some y := ⟨_, List.getElem?_eq_getElem (by omega)⟩
      obtain ⟨bI, oI, hAI, hcI⟩ := hs.intR (by omega)
      subst hAI
      have hcy := hcI i y hy

      refine XK.region ?_
      refine xk_field (off := 1) (by kernel_rfl) rfl (by decide) ?_
      refine xk_ld rfl ?_
      refine xk_move rfl (by decide) ?_
      refine xk_at (i) (oI + i) (el := 3) (sz := 1) (by kernel_rfl) (by kernel_rfl) rfl rfl (by omega) (by omega) (by omega) (by decide) ?_
      refine xk_load (by kernel_rfl) rfl (Rd.roc (by simp) hcy) (by decide) ?_
      refine xk_move rfl (by decide) ?_
      refine xk_callR (f := 124) (fi := []) (ca := []) (by kernel_rfl) rfl rfl (by decide) (fun w1 st => refIn5_any _ _ w1) ?_
      refine xk_notD rfl (by decide) ?_
      refine XK.nilN ?_
      refine XK.if_ rfl (fun hyn => ?_) (fun hyn => ?_)
      ·
        refine XK.seq ?_

        refine XK.region ?_
        refine xk_assign rfl (by decide) ?_
        refine XK.nilN ?_
        refine XK.ret ?_
        refine XK.norm ?_
        rw [clockE_src hF' hy hpre hyn]
        exact XK.ret1 rfl rfl fun w1 st => ⟨rfl, st.below (by simp)⟩
      ·
        refine XK.skip ?_
        refine XK.norm ?_

        refine XK.region ?_
        refine xk_move rfl (by decide) ?_
        refine xk_add rfl rfl (wrap_in (by omega)) (by decide) ?_
        refine xk_assign rfl (by decide) ?_
        refine XK.nilN ?_
        exact XK.envS [(7, .int .i64 ((i : Int) + 1)), (5, .int .i64 ns), (2, .pointer (some ⟨g1, 0, none⟩)), (1, .int .i64 nn)] (XK.round (ns - (i + 1)) (by omega) ⟨i + 1, by omega, take_snoc hy hpre (Classical.not_not.1 hyn), rfl, rfl, rfl, rfl⟩)
    ·
      refine XK.exit ?_
      refine XK.norm ?_
      refine XK.seq ?_
      have hall := take_all (by omega) hpre
      refine XK.cutB 73 (c.kind = 111 ∧ (c.rate < 1 ∨ 1099511627776 < c.rate)) ?_ ?_
      · skip

        refine XK.region ?_
        refine xk_field (off := 0) (by kernel_rfl) rfl (by decide) ?_
        refine xk_ld rfl ?_
        refine xk_eql rfl rfl (by decide) ?_
        refine xk_move rfl (by decide) ?_
        refine xk_split (t := 64) rfl (fun hg64 => ?_) (fun hg64 => ?_)
        ·
          refine xk_guardT rfl rfl ?_; refine xk_field (off := 2) (by kernel_rfl) rfl (by decide) ?_
          refine xk_guardT rfl rfl ?_; refine xk_ld rfl ?_
          refine xk_guardT rfl rfl ?_; refine xk_lss rfl rfl (by decide) ?_
          refine xk_guardT rfl rfl ?_; refine xk_move rfl (by decide) ?_
          refine xk_split (t := 68) rfl (fun hg68 => ?_) (fun hg68 => ?_)
          ·
            refine xk_guardF rfl rfl rfl (by decide) ?_
            refine xk_guardF rfl rfl rfl (by decide) ?_
            refine xk_guardF rfl rfl rfl (by decide) ?_
            refine xk_guardT rfl rfl ?_; (first | refine xk_pickT rfl rfl (by decide) ?_ | refine xk_pickF rfl rfl (by decide) ?_)
            (first | refine xk_pickT rfl rfl (by decide) ?_ | refine xk_pickF rfl rfl (by decide) ?_)
            refine XK.nilN ?_
            exact XK.meetB (by repeat (first | exact trivial | refine ⟨rfl, ?_⟩)) (by first | (refine get_iff rfl ?_; omega) | (refine get_true rfl ?_; omega) | (refine get_false rfl ?_; omega))
          ·
            refine xk_guardT rfl rfl ?_; refine xk_field (off := 2) (by kernel_rfl) rfl (by decide) ?_
            refine xk_guardT rfl rfl ?_; refine xk_ld rfl ?_
            refine xk_guardT rfl rfl ?_; refine xk_gtr rfl rfl (by decide) ?_
            refine xk_guardT rfl rfl ?_; (first | refine xk_pickT rfl rfl (by decide) ?_ | refine xk_pickF rfl rfl (by decide) ?_)
            (first | refine xk_pickT rfl rfl (by decide) ?_ | refine xk_pickF rfl rfl (by decide) ?_)
            refine XK.nilN ?_
            exact XK.meetB (by repeat (first | exact trivial | refine ⟨rfl, ?_⟩)) (by first | (refine get_iff rfl ?_; omega) | (refine get_true rfl ?_; omega) | (refine get_false rfl ?_; omega))
        ·
          refine xk_guardF rfl rfl rfl (by decide) ?_
          refine xk_guardF rfl rfl rfl (by decide) ?_
          refine xk_guardF rfl rfl rfl (by decide) ?_
          refine xk_guardF rfl rfl rfl (by decide) ?_
          refine xk_guardU rfl rfl (by decide) ?_
          refine xk_guardU rfl rfl (by decide) ?_
          refine xk_guardU rfl rfl (by decide) ?_
          refine xk_guardF rfl rfl rfl (by decide) ?_
          (first | refine xk_pickT rfl rfl (by decide) ?_ | refine xk_pickF rfl rfl (by decide) ?_)
          refine XK.nilN ?_
          exact XK.meetB (by repeat (first | exact trivial | refine ⟨rfl, ?_⟩)) (by first | (refine get_iff rfl ?_; omega) | (refine get_true rfl ?_; omega) | (refine get_false rfl ?_; omega))
      refine XK.if_ rfl (fun h73 => ?_) (fun h73 => ?_)
      ·
        refine XK.seq ?_

        refine XK.region ?_
        refine xk_assign rfl (by decide) ?_
        refine XK.nilN ?_
        refine XK.ret ?_
        refine XK.norm ?_
        rw [clockE_bad hF' hall (.inl h73)]
        exact XK.ret1 rfl rfl fun w1 st => ⟨rfl, st.below (by simp)⟩
      ·
        refine XK.skip ?_
        refine XK.norm ?_
        refine XK.seq ?_
        refine XK.cutB 94 (c.kind = 112 ∧ (¬ (1 ≤ c.mul ∧ c.mul ≤ 1000) ∨ ¬ (1 ≤ c.div ∧ c.div ≤ 1000) ∨ ¬ (0 ≤ c.lock ∧ c.lock ≤ 20))) ?_ ?_
        · skip

          refine XK.region ?_
          refine xk_field (off := 0) (by kernel_rfl) rfl (by decide) ?_
          refine xk_ld rfl ?_
          refine xk_eql rfl rfl (by decide) ?_
          refine xk_move rfl (by decide) ?_
          refine xk_split (t := 77) rfl (fun hg77 => ?_) (fun hg77 => ?_)
          ·
            refine xk_guardT rfl rfl ?_; refine xk_field (off := 3) (by kernel_rfl) rfl (by decide) ?_
            refine xk_guardT rfl rfl ?_; refine xk_ld rfl ?_
            refine xk_guardT rfl rfl ?_; refine xk_callR (f := 89) (fi := []) (ca := []) (by kernel_rfl) rfl rfl (by decide) (fun w1 st => refWithin5_any _ _ _ w1) ?_
            refine xk_guardT rfl rfl ?_; refine xk_notD rfl (by decide) ?_
            refine xk_guardT rfl rfl ?_; refine xk_move rfl (by decide) ?_
            refine xk_split (t := 82) rfl (fun hg82 => ?_) (fun hg82 => ?_)
            ·
              refine xk_guardF rfl rfl rfl (by decide) ?_
              refine xk_guardF rfl rfl rfl (by decide) ?_
              refine xk_guardF rfl rfl rfl (by decide) ?_
              refine xk_guardF rfl rfl rfl (by decide) ?_
              refine xk_guardT rfl rfl ?_; (first | refine xk_pickT rfl rfl (by decide) ?_ | refine xk_pickF rfl rfl (by decide) ?_)
              refine xk_guardT rfl rfl ?_; refine xk_move rfl (by decide) ?_
              refine xk_guardF rfl rfl rfl (by decide) ?_
              refine xk_guardF rfl rfl rfl (by decide) ?_
              refine xk_guardF rfl rfl rfl (by decide) ?_
              refine xk_guardF rfl rfl rfl (by decide) ?_
              refine xk_guardT rfl rfl ?_; (first | refine xk_pickT rfl rfl (by decide) ?_ | refine xk_pickF rfl rfl (by decide) ?_)
              (first | refine xk_pickT rfl rfl (by decide) ?_ | refine xk_pickF rfl rfl (by decide) ?_)
              refine XK.nilN ?_
              exact XK.meetB (by repeat (first | exact trivial | refine ⟨rfl, ?_⟩)) (by first | (refine get_iff rfl ?_; omega) | (refine get_true rfl ?_; omega) | (refine get_false rfl ?_; omega))
            ·
              refine xk_guardT rfl rfl ?_; refine xk_field (off := 4) (by kernel_rfl) rfl (by decide) ?_
              refine xk_guardT rfl rfl ?_; refine xk_ld rfl ?_
              refine xk_guardT rfl rfl ?_; refine xk_callR (f := 89) (fi := []) (ca := []) (by kernel_rfl) rfl rfl (by decide) (fun w1 st => refWithin5_any _ _ _ w1) ?_
              refine xk_guardT rfl rfl ?_; refine xk_notD rfl (by decide) ?_
              refine xk_guardT rfl rfl ?_; (first | refine xk_pickT rfl rfl (by decide) ?_ | refine xk_pickF rfl rfl (by decide) ?_)
              refine xk_guardT rfl rfl ?_; refine xk_move rfl (by decide) ?_
              refine xk_split (t := 88) rfl (fun hg88 => ?_) (fun hg88 => ?_)
              ·
                refine xk_guardF rfl rfl rfl (by decide) ?_
                refine xk_guardF rfl rfl rfl (by decide) ?_
                refine xk_guardF rfl rfl rfl (by decide) ?_
                refine xk_guardF rfl rfl rfl (by decide) ?_
                refine xk_guardT rfl rfl ?_; (first | refine xk_pickT rfl rfl (by decide) ?_ | refine xk_pickF rfl rfl (by decide) ?_)
                (first | refine xk_pickT rfl rfl (by decide) ?_ | refine xk_pickF rfl rfl (by decide) ?_)
                refine XK.nilN ?_
                exact XK.meetB (by repeat (first | exact trivial | refine ⟨rfl, ?_⟩)) (by first | (refine get_iff rfl ?_; omega) | (refine get_true rfl ?_; omega) | (refine get_false rfl ?_; omega))
              ·
                refine xk_guardT rfl rfl ?_; refine xk_field (off := 5) (by kernel_rfl) rfl (by decide) ?_
                refine xk_guardT rfl rfl ?_; refine xk_ld rfl ?_
                refine xk_guardT rfl rfl ?_; refine xk_callR (f := 89) (fi := []) (ca := []) (by kernel_rfl) rfl rfl (by decide) (fun w1 st => refWithin5_any _ _ _ w1) ?_
                refine xk_guardT rfl rfl ?_; refine xk_notD rfl (by decide) ?_
                refine xk_guardT rfl rfl ?_; (first | refine xk_pickT rfl rfl (by decide) ?_ | refine xk_pickF rfl rfl (by decide) ?_)
                (first | refine xk_pickT rfl rfl (by decide) ?_ | refine xk_pickF rfl rfl (by decide) ?_)
                refine XK.nilN ?_
                exact XK.meetB (by repeat (first | exact trivial | refine ⟨rfl, ?_⟩)) (by first | (refine get_iff rfl ?_; omega) | (refine get_true rfl ?_; omega) | (refine get_false rfl ?_; omega))
          ·
            refine xk_guardF rfl rfl rfl (by decide) ?_
            refine xk_guardF rfl rfl rfl (by decide) ?_
            refine xk_guardF rfl rfl rfl (by decide) ?_
            refine xk_guardF rfl rfl rfl (by decide) ?_
            refine xk_guardF rfl rfl rfl (by decide) ?_
            refine xk_guardU rfl rfl (by decide) ?_
            refine xk_guardU rfl rfl (by decide) ?_
            refine xk_guardU rfl rfl (by decide) ?_
            refine xk_guardU rfl rfl (by decide) ?_
            refine xk_guardF rfl rfl rfl (by decide) ?_
            refine xk_guardF rfl rfl rfl (by decide) ?_
            refine xk_guardU rfl rfl (by decide) ?_
            refine xk_guardU rfl rfl (by decide) ?_
            refine xk_guardU rfl rfl (by decide) ?_
            refine xk_guardU rfl rfl (by decide) ?_
            refine xk_guardF rfl rfl rfl (by decide) ?_
            (first | refine xk_pickT rfl rfl (by decide) ?_ | refine xk_pickF rfl rfl (by decide) ?_)
            refine XK.nilN ?_
            exact XK.meetB (by repeat (first | exact trivial | refine ⟨rfl, ?_⟩)) (by first | (refine get_iff rfl ?_; omega) | (refine get_true rfl ?_; omega) | (refine get_false rfl ?_; omega))
        refine XK.if_ rfl (fun h94 => ?_) (fun h94 => ?_)
        ·
          refine XK.seq ?_

          refine XK.region ?_
          refine xk_assign rfl (by decide) ?_
          refine XK.nilN ?_
          refine XK.ret ?_
          refine XK.norm ?_
          rw [clockE_bad hF' hall (.inr (.inl h94))]
          exact XK.ret1 rfl rfl fun w1 st => ⟨rfl, st.below (by simp)⟩
        ·
          refine XK.skip ?_
          refine XK.norm ?_
          refine XK.seq ?_
          refine XK.cutB 103 (c.kind = 100 ∧ ¬ (1 ≤ c.div ∧ c.div ≤ 1000)) ?_ ?_
          · skip

            refine XK.region ?_
            refine xk_field (off := 0) (by kernel_rfl) rfl (by decide) ?_
            refine xk_ld rfl ?_
            refine xk_eql rfl rfl (by decide) ?_
            refine xk_move rfl (by decide) ?_
            refine xk_split (t := 98) rfl (fun hg98 => ?_) (fun hg98 => ?_)
            ·
              refine xk_guardT rfl rfl ?_; refine xk_field (off := 4) (by kernel_rfl) rfl (by decide) ?_
              refine xk_guardT rfl rfl ?_; refine xk_ld rfl ?_
              refine xk_guardT rfl rfl ?_; refine xk_callR (f := 89) (fi := []) (ca := []) (by kernel_rfl) rfl rfl (by decide) (fun w1 st => refWithin5_any _ _ _ w1) ?_
              refine xk_guardT rfl rfl ?_; refine xk_notD rfl (by decide) ?_
              (first | refine xk_pickT rfl rfl (by decide) ?_ | refine xk_pickF rfl rfl (by decide) ?_)
              refine XK.nilN ?_
              exact XK.meetB (by repeat (first | exact trivial | refine ⟨rfl, ?_⟩)) (by first | (refine get_iff rfl ?_; omega) | (refine get_true rfl ?_; omega) | (refine get_false rfl ?_; omega))
            ·
              refine xk_guardF rfl rfl rfl (by decide) ?_
              refine xk_guardF rfl rfl rfl (by decide) ?_
              refine xk_guardF rfl rfl rfl (by decide) ?_
              refine xk_guardF rfl rfl rfl (by decide) ?_
              (first | refine xk_pickT rfl rfl (by decide) ?_ | refine xk_pickF rfl rfl (by decide) ?_)
              refine XK.nilN ?_
              exact XK.meetB (by repeat (first | exact trivial | refine ⟨rfl, ?_⟩)) (by first | (refine get_iff rfl ?_; omega) | (refine get_true rfl ?_; omega) | (refine get_false rfl ?_; omega))
          refine XK.if_ rfl (fun h103 => ?_) (fun h103 => ?_)
          ·
            refine XK.seq ?_

            refine XK.region ?_
            refine xk_assign rfl (by decide) ?_
            refine XK.nilN ?_
            refine XK.ret ?_
            refine XK.norm ?_
            rw [clockE_bad hF' hall (.inr (.inr h103))]
            exact XK.ret1 rfl rfl fun w1 st => ⟨rfl, st.below (by simp)⟩
          ·
            refine XK.skip ?_
            refine XK.norm ?_
            refine XK.seq ?_

            refine XK.region ?_
            refine xk_assign rfl (by decide) ?_
            refine XK.nilN ?_
            refine XK.ret ?_
            refine XK.norm ?_
            rw [clockE_ok hF' hall (by rintro (h | h | h); exact h73 h; exact h94 h; exact h103 h)]
            exact XK.ret1 rfl rfl fun w1 st => ⟨rfl, st.below (by simp)⟩

theorem fullE_many {s : Soc} (h : (12 : Int) < s.clocks.length ∨ (6 : Int) < s.domains.length ∨ (6 : Int) < s.resets.length ∨ (6 : Int) < s.devs.length) : fullE s = 8 := by unfold fullE; rw [if_pos h]
theorem manyE_eq {d : Dev} : manyE d = if (8 : Int) < d.regs.length ∨ (6 : Int) < d.needs.length then 8 else 0 := by
  unfold manyE
  by_cases h : (8 : Int) < d.regs.length ∨ (6 : Int) < d.needs.length
  · rw [if_pos h, show (decide ((8 : Int) < d.regs.length) || decide ((6 : Int) < d.needs.length)) = true by rw [Bool.or_eq_true, decide_eq_true_eq, decide_eq_true_eq]; exact h]; rfl
  · rw [if_neg h, show (decide ((8 : Int) < d.regs.length) || decide ((6 : Int) < d.needs.length)) = false by rw [Bool.or_eq_false_iff, decide_eq_false_iff_not, decide_eq_false_iff_not]; omega]; rfl
theorem fullE_dev {s : Soc} {i : Nat} {d : Dev} (h : ¬ ((12 : Int) < s.clocks.length ∨ (6 : Int) < s.domains.length ∨ (6 : Int) < s.resets.length ∨ (6 : Int) < s.devs.length)) (hd : s.devs[i]? = some d) (h0 : ∀ x ∈ s.devs.take i, manyE x = 0) (hm : manyE d ≠ 0) : fullE s = manyE d := by
  unfold fullE; rw [if_neg h, firstM_at hd h0 hm]
theorem fullE_ok {s : Soc} (h : ¬ ((12 : Int) < s.clocks.length ∨ (6 : Int) < s.domains.length ∨ (6 : Int) < s.resets.length ∨ (6 : Int) < s.devs.length)) (h0 : ∀ x ∈ s.devs, manyE x = 0) : fullE s = 0 := by
  unfold fullE; rw [if_neg h, firstE_map0 h0]

theorem refCountsG_any (s : Soc) (A1 A2 A3 A4 : Option Addr) (n1 k1 n2 k2 n3 k3 n4 k4 : Nat) (w : World) (hW : SocW w s A1 n1 A2 n2 A3 n3 A4 n4) : Calls Tryz.prog 86 #[.agg #[.slice A1 n1 k1, .slice A2 n2 k2, .slice A3 n3 k3, .slice A4 n4 k4]] w (Rt (.bool (decide (fullE s = 0))) w) := by
  have hn1 := hW.len1
  have hn2 := hW.len2
  have hn3 := hW.len3
  have hn4 := hW.len4
  have hsm := hW.small
  unfold Soc.small at hsm
  obtain ⟨hs1, hs2, hs3, hs4, hs5, hs6⟩ := hsm
  refine XK.enter (vs := [.agg #[.slice A1 n1 k1, .slice A2 n2 k2, .slice A3 n3 k3, .slice A4 n4 k4]]) Tryz.func86 rfl Tryz.ntmps86 (by simp) ?_
  refine XK.seq ?_

  refine XK.region ?_
  refine xk_box rfl (by decide) fun g1 => ?_
  refine xk_assign rfl (by decide) ?_
  refine XK.nilN ?_
  refine XK.seq ?_
  refine XK.cutB 25 ((12 : Int) < n1 ∨ (6 : Int) < n2 ∨ (6 : Int) < n3 ∨ (6 : Int) < n4) ?_ ?_
  · skip

    refine XK.region ?_
    refine xk_field (off := 0) (by kernel_rfl) rfl (by decide) ?_
    refine xk_ld rfl ?_
    refine xk_len (el := 55) (by kernel_rfl) rfl (by decide) ?_
    refine xk_gtr rfl rfl (by decide) ?_
    refine xk_move rfl (by decide) ?_
    refine xk_split (t := 8) rfl (fun hg8 => ?_) (fun hg8 => ?_)
    ·
      refine xk_guardF rfl rfl rfl (by decide) ?_
      refine xk_guardF rfl rfl rfl (by decide) ?_
      refine xk_guardF rfl rfl rfl (by decide) ?_
      refine xk_guardF rfl rfl rfl (by decide) ?_
      (first | refine xk_pickT rfl rfl (by decide) ?_ | refine xk_pickF rfl rfl (by decide) ?_)
      refine xk_move rfl (by decide) ?_
      refine xk_guardF rfl rfl rfl (by decide) ?_
      refine xk_guardF rfl rfl rfl (by decide) ?_
      refine xk_guardF rfl rfl rfl (by decide) ?_
      refine xk_guardF rfl rfl rfl (by decide) ?_
      (first | refine xk_pickT rfl rfl (by decide) ?_ | refine xk_pickF rfl rfl (by decide) ?_)
      refine xk_move rfl (by decide) ?_
      refine xk_guardF rfl rfl rfl (by decide) ?_
      refine xk_guardF rfl rfl rfl (by decide) ?_
      refine xk_guardF rfl rfl rfl (by decide) ?_
      refine xk_guardF rfl rfl rfl (by decide) ?_
      (first | refine xk_pickT rfl rfl (by decide) ?_ | refine xk_pickF rfl rfl (by decide) ?_)
      refine XK.nilN ?_
      exact XK.meetB (by repeat (first | exact trivial | refine ⟨rfl, ?_⟩)) (by first | (refine get_iff rfl ?_; omega) | (refine get_true rfl ?_; omega) | (refine get_false rfl ?_; omega))
    ·
      refine xk_guardT rfl rfl ?_; refine xk_field (off := 1) (by kernel_rfl) rfl (by decide) ?_
      refine xk_guardT rfl rfl ?_; refine xk_ld rfl ?_
      refine xk_guardT rfl rfl ?_; refine xk_len (el := 69) (by kernel_rfl) rfl (by decide) ?_
      refine xk_guardT rfl rfl ?_; refine xk_gtr rfl rfl (by decide) ?_
      (first | refine xk_pickT rfl rfl (by decide) ?_ | refine xk_pickF rfl rfl (by decide) ?_)
      refine xk_move rfl (by decide) ?_
      refine xk_split (t := 14) rfl (fun hg14 => ?_) (fun hg14 => ?_)
      ·
        refine xk_guardF rfl rfl rfl (by decide) ?_
        refine xk_guardF rfl rfl rfl (by decide) ?_
        refine xk_guardF rfl rfl rfl (by decide) ?_
        refine xk_guardF rfl rfl rfl (by decide) ?_
        (first | refine xk_pickT rfl rfl (by decide) ?_ | refine xk_pickF rfl rfl (by decide) ?_)
        refine xk_move rfl (by decide) ?_
        refine xk_guardF rfl rfl rfl (by decide) ?_
        refine xk_guardF rfl rfl rfl (by decide) ?_
        refine xk_guardF rfl rfl rfl (by decide) ?_
        refine xk_guardF rfl rfl rfl (by decide) ?_
        (first | refine xk_pickT rfl rfl (by decide) ?_ | refine xk_pickF rfl rfl (by decide) ?_)
        refine XK.nilN ?_
        exact XK.meetB (by repeat (first | exact trivial | refine ⟨rfl, ?_⟩)) (by first | (refine get_iff rfl ?_; omega) | (refine get_true rfl ?_; omega) | (refine get_false rfl ?_; omega))
      ·
        refine xk_guardT rfl rfl ?_; refine xk_field (off := 2) (by kernel_rfl) rfl (by decide) ?_
        refine xk_guardT rfl rfl ?_; refine xk_ld rfl ?_
        refine xk_guardT rfl rfl ?_; refine xk_len (el := 71) (by kernel_rfl) rfl (by decide) ?_
        refine xk_guardT rfl rfl ?_; refine xk_gtr rfl rfl (by decide) ?_
        (first | refine xk_pickT rfl rfl (by decide) ?_ | refine xk_pickF rfl rfl (by decide) ?_)
        refine xk_move rfl (by decide) ?_
        refine xk_split (t := 20) rfl (fun hg20 => ?_) (fun hg20 => ?_)
        ·
          refine xk_guardF rfl rfl rfl (by decide) ?_
          refine xk_guardF rfl rfl rfl (by decide) ?_
          refine xk_guardF rfl rfl rfl (by decide) ?_
          refine xk_guardF rfl rfl rfl (by decide) ?_
          (first | refine xk_pickT rfl rfl (by decide) ?_ | refine xk_pickF rfl rfl (by decide) ?_)
          refine XK.nilN ?_
          exact XK.meetB (by repeat (first | exact trivial | refine ⟨rfl, ?_⟩)) (by first | (refine get_iff rfl ?_; omega) | (refine get_true rfl ?_; omega) | (refine get_false rfl ?_; omega))
        ·
          refine xk_guardT rfl rfl ?_; refine xk_field (off := 3) (by kernel_rfl) rfl (by decide) ?_
          refine xk_guardT rfl rfl ?_; refine xk_ld rfl ?_
          refine xk_guardT rfl rfl ?_; refine xk_len (el := 51) (by kernel_rfl) rfl (by decide) ?_
          refine xk_guardT rfl rfl ?_; refine xk_gtr rfl rfl (by decide) ?_
          (first | refine xk_pickT rfl rfl (by decide) ?_ | refine xk_pickF rfl rfl (by decide) ?_)
          refine XK.nilN ?_
          exact XK.meetB (by repeat (first | exact trivial | refine ⟨rfl, ?_⟩)) (by first | (refine get_iff rfl ?_; omega) | (refine get_true rfl ?_; omega) | (refine get_false rfl ?_; omega))
  refine XK.if_ rfl (fun hfl => ?_) (fun hfl => ?_)
  rw [hn1, hn2, hn3, hn4] at hfl
  ·
    refine XK.seq ?_

    refine XK.region ?_
    refine xk_assign rfl (by decide) ?_
    refine XK.nilN ?_
    refine XK.ret ?_
    refine XK.norm ?_
    rw [fullE_many hfl]
    exact XK.ret1 rfl rfl fun w1 st => ⟨rfl, st.below (by simp)⟩
  ·
    refine XK.skip ?_
    refine XK.norm ?_
    refine XK.seq ?_
    refine XK.seq ?_
    rw [hn1, hn2, hn3, hn4] at hfl

    refine XK.region ?_
    refine xk_assign rfl (by decide) ?_
    refine XK.nilN ?_
    refine XK.envS [(3, .int .i64 0), (1, .pointer (some ⟨g1, 0, none⟩))] ?_
    refine XK.block ?_
    refine XK.loop (fun m e R H => ∃ (i : Nat), i ≤ n4 ∧ (∀ x ∈ s.devs.take i, manyE x = 0) ∧ m = n4 - i ∧ e = [(3, .int .i64 i), (1, .pointer (some ⟨g1, 0, none⟩))] ∧ R = [all w] ∧ H = [HP.blk g1 28 [.slice A1 n1 k1, .slice A2 n2 k2, .slice A3 n3 k3, .slice A4 n4 k4]]) n4 ⟨0, by omega, by simp, rfl, rfl, rfl, rfl⟩ fun m e R H hI => ?_
    obtain ⟨i, hi, hpre, rfl, rfl, rfl, rfl⟩ := hI
    refine XK.seq ?_
    refine XK.seq ?_

    refine XK.region ?_
    refine xk_move rfl (by decide) ?_
    refine xk_field (off := 3) (by kernel_rfl) rfl (by decide) ?_
    refine xk_ld rfl ?_
    refine xk_len (el := 51) (by kernel_rfl) rfl (by decide) ?_
    refine xk_lss rfl rfl (by decide) ?_
    refine XK.nilN ?_
    refine XK.if_ rfl (fun hil => ?_) (fun hil => ?_)
    ·
      refine XK.skip ?_
      refine XK.norm ?_
      refine XK.seq ?_
      refine XK.block ?_
      have hil' : i < n4 := by have h' : (i : Int) < (n4 : Int) := hil; omega
      obtain ⟨d, hd⟩ : ∃ d, s.devs[i]? = some d := ⟨_, List.getElem?_eq_getElem (by omega)⟩
      obtain ⟨b, off, r, rfl, hrl, hR, hro⟩ := hW.dev.row hd
      obtain ⟨Ar, nr, kr, An, nn, kn, rfl, hnr9, hnn9, hsr, hsn⟩ := hR
      have hmE := @manyE_eq d
      rw [← hnr9, ← hnn9] at hmE
      have hsd := hs6 d (List.mem_of_getElem? hd)
      refine XK.cutB 50 ((8 : Int) < nr ∨ (6 : Int) < nn) ?_ ?_
      · skip

        refine XK.region ?_
        refine xk_field (off := 3) (by kernel_rfl) rfl (by decide) ?_
        refine xk_ld rfl ?_
        refine xk_move rfl (by decide) ?_
        refine xk_at i (off + i * 6) (el := 51) (sz := 6) (by kernel_rfl) (by kernel_rfl) rfl rfl (by omega) (by omega) (by omega) (by decide) ?_
        refine xk_field (off := 4) (by kernel_rfl) rfl (by decide) ?_
        refine xk_load (by kernel_rfl) rfl (Rd.roc (by simp) (hro.at_ (j := 4) rfl)) (by decide) ?_
        refine xk_len (el := 57) (by kernel_rfl) rfl (by decide) ?_
        refine xk_gtr rfl rfl (by decide) ?_
        refine xk_move rfl (by decide) ?_
        refine xk_split (t := 41) rfl (fun hg41 => ?_) (fun hg41 => ?_)
        ·
          refine xk_guardF rfl rfl rfl (by decide) ?_
          refine xk_guardF rfl rfl rfl (by decide) ?_
          refine xk_guardF rfl rfl rfl (by decide) ?_
          refine xk_guardF rfl rfl rfl (by decide) ?_
          refine xk_guardF rfl rfl rfl (by decide) ?_
          refine xk_guardF rfl rfl rfl (by decide) ?_
          refine xk_guardF rfl rfl rfl (by decide) ?_
          refine xk_guardF rfl rfl rfl (by decide) ?_
          (first | refine xk_pickT rfl rfl (by decide) ?_ | refine xk_pickF rfl rfl (by decide) ?_)
          refine XK.nilN ?_
          exact XK.meetB (by repeat (first | exact trivial | refine ⟨rfl, ?_⟩)) (by first | (refine get_iff rfl ?_; omega) | (refine get_true rfl ?_; omega) | (refine get_false rfl ?_; omega))
        ·
          refine xk_guardT rfl rfl ?_; refine xk_field (off := 3) (by kernel_rfl) rfl (by decide) ?_
          refine xk_guardT rfl rfl ?_; refine xk_ld rfl ?_
          refine xk_guardT rfl rfl ?_; refine xk_move rfl (by decide) ?_
          refine xk_guardT rfl rfl ?_; refine xk_at i (off + i * 6) (el := 51) (sz := 6) (by kernel_rfl) (by kernel_rfl) rfl rfl (by omega) (by omega) (by omega) (by decide) ?_
          refine xk_guardT rfl rfl ?_; refine xk_field (off := 5) (by kernel_rfl) rfl (by decide) ?_
          refine xk_guardT rfl rfl ?_; refine xk_load (by kernel_rfl) rfl (Rd.roc (by simp) (hro.at_ (j := 5) rfl)) (by decide) ?_
          refine xk_guardT rfl rfl ?_; refine xk_len (el := 3) (by kernel_rfl) rfl (by decide) ?_
          refine xk_guardT rfl rfl ?_; refine xk_gtr rfl rfl (by decide) ?_
          (first | refine xk_pickT rfl rfl (by decide) ?_ | refine xk_pickF rfl rfl (by decide) ?_)
          refine XK.nilN ?_
          exact XK.meetB (by repeat (first | exact trivial | refine ⟨rfl, ?_⟩)) (by first | (refine get_iff rfl ?_; omega) | (refine get_true rfl ?_; omega) | (refine get_false rfl ?_; omega))
      refine XK.if_ rfl (fun hmd => ?_) (fun hmd => ?_)
      ·
        refine XK.seq ?_

        refine XK.region ?_
        refine xk_assign rfl (by decide) ?_
        refine XK.nilN ?_
        refine XK.ret ?_
        refine XK.norm ?_
        rw [if_pos hmd] at hmE
        rw [fullE_dev hfl hd hpre (by rw [hmE]; decide), hmE]
        exact XK.ret1 rfl rfl fun w1 st => ⟨rfl, st.below (by simp)⟩
      ·
        refine XK.skip ?_
        refine XK.norm ?_

        refine XK.region ?_
        refine xk_move rfl (by decide) ?_
        refine xk_add rfl rfl (wrap_in (by omega)) (by decide) ?_
        refine xk_assign rfl (by decide) ?_
        refine XK.nilN ?_
        exact XK.envS [(3, .int .i64 ((i : Int) + 1)), (1, .pointer (some ⟨g1, 0, none⟩))] (XK.round (n4 - (i + 1)) (by omega) ⟨i + 1, by omega, take_snoc hd hpre (by rw [hmE, if_neg hmd]), rfl, rfl, rfl, rfl⟩)
    ·
      refine XK.exit ?_
      refine XK.norm ?_
      refine XK.seq ?_

      refine XK.region ?_
      refine xk_assign rfl (by decide) ?_
      refine XK.nilN ?_
      refine XK.ret ?_
      refine XK.norm ?_
      rw [fullE_ok hfl (take_all (by omega) hpre)]
      exact XK.ret1 rfl rfl fun w1 st => ⟨rfl, st.below (by simp)⟩

theorem clockE_in {nn : Nat} {c : Clk} (h : clockE nn c = 0) : ∀ x ∈ c.src, 0 ≤ x ∧ x < (nn : Int) := by
  intro x hx
  have h1 := firstE_zero h (firstE (c.src.map fun f => whenE (!withinB f 0 ((nn : Int) - 1)) 4)) (by simp)
  have h2 := firstE_zero h1 _ (List.mem_map.2 ⟨x, hx, rfl⟩)
  rw [srcE] at h2
  by_cases h3 : 0 ≤ x ∧ x < (nn : Int)
  · exact h3
  · rw [if_neg h3] at h2; cases h2
theorem clocks_in {s : Soc} (h : ∀ c ∈ s.clocks, clockE s.clocks.length c = 0) : InG (clocksG s) := by
  intro l hl u hu
  simp only [clocksG, List.mem_map] at hl
  obtain ⟨z, hz, rfl⟩ := hl
  have := clockE_in (h z hz) u hu
  simpa [clocksG] using this

theorem refClocksG_any (s : Soc) (A1 A2 A3 A4 : Option Addr) (n1 k1 n2 k2 n3 k3 n4 k4 : Nat) (w : World) (hW : SocW w s A1 n1 A2 n2 A3 n3 A4 n4) (hfl : fullE s = 0) : Calls Tryz.prog 87 #[.agg #[.slice A1 n1 k1, .slice A2 n2 k2, .slice A3 n3 k3, .slice A4 n4 k4]] w (Rt (.int .i64 (firstE [firstE (s.clocks.map (clockE s.clocks.length)), cycE (clocksG s)])) w) := by
  have hn1 := hW.len1
  have hn2 := hW.len2
  have hn3 := hW.len3
  have hn4 := hW.len4
  have hsm := hW.small
  unfold Soc.small at hsm
  obtain ⟨hs1, hs2, hs3, hs4, hs5, hs6⟩ := hsm
  obtain ⟨hf1, hf2, hf3, hf4, hf5⟩ := full_zero hfl
  refine XK.enter (vs := [.agg #[.slice A1 n1 k1, .slice A2 n2 k2, .slice A3 n3 k3, .slice A4 n4 k4]]) Tryz.func87 rfl Tryz.ntmps87 (by simp) ?_
  refine XK.seq ?_

  refine XK.region ?_
  refine xk_box rfl (by decide) fun g1 => ?_
  refine xk_assign rfl (by decide) ?_
  refine XK.nilN ?_
  refine XK.seq ?_
  refine XK.seq ?_

  refine XK.region ?_
  refine xk_assign rfl (by decide) ?_
  refine XK.nilN ?_
  refine XK.envS [(3, .int .i64 0), (1, .pointer (some ⟨g1, 0, none⟩))] ?_
  refine XK.block ?_
  refine XK.loop (fun m e R H => ∃ (i : Nat), i ≤ n1 ∧ (∀ x ∈ s.clocks.take i, clockE s.clocks.length x = 0) ∧ m = n1 - i ∧ e = [(3, .int .i64 i), (1, .pointer (some ⟨g1, 0, none⟩))] ∧ R = [all w] ∧ H = [HP.blk g1 28 [.slice A1 n1 k1, .slice A2 n2 k2, .slice A3 n3 k3, .slice A4 n4 k4]]) n1 ⟨0, by omega, by simp, rfl, rfl, rfl, rfl⟩ fun m e R H hI => ?_
  obtain ⟨i, hi, hpre, rfl, rfl, rfl, rfl⟩ := hI
  refine XK.seq ?_
  refine XK.seq ?_

  refine XK.region ?_
  refine xk_move rfl (by decide) ?_
  refine xk_field (off := 0) (by kernel_rfl) rfl (by decide) ?_
  refine xk_ld rfl ?_
  refine xk_len (el := 55) (by kernel_rfl) rfl (by decide) ?_
  refine xk_lss rfl rfl (by decide) ?_
  refine XK.nilN ?_
  refine XK.if_ rfl (fun hil => ?_) (fun hil => ?_)
  ·
    refine XK.skip ?_
    refine XK.norm ?_
    refine XK.seq ?_
    refine XK.block ?_
    refine XK.seq ?_
    have hil' : i < n1 := by have h' : (i : Int) < (n1 : Int) := hil; omega
    obtain ⟨c, hc⟩ : ∃ c, s.clocks[i]? = some c := ⟨_, List.getElem?_eq_getElem (by omega)⟩
    obtain ⟨b, off, r, rfl, hrl, hR, hro⟩ := hW.clk.row hc
    obtain ⟨Af, nf, kf, rfl, hnf, hsf⟩ := hR
    have hsc := hs5 c (List.mem_of_getElem? hc)

    refine XK.draw 8 (by kernel_rfl) (by kernel_rfl) ?_
    refine XA.dA 0 rfl rfl rfl (does_field (off := 0) (by kernel_rfl) rfl) ?_
    refine XA.dA 1 rfl rfl rfl (does_ld rfl) ?_
    refine XA.dA 2 rfl rfl rfl (does_move rfl) ?_
    refine XA.dA 3 rfl rfl rfl (does_at (i) (off + i * 6) (el := 55) (sz := 6) (by kernel_rfl) (by kernel_rfl) rfl rfl (by omega) (by omega) (by omega)) ?_
    refine XA.dA 4 rfl rfl rfl (does_loadN 6 (by kernel_rfl) rfl (RdN.of (vs := [.int .u8 c.kind, .slice Af nf kf, .int .u64 c.rate, .int .i64 c.mul, .int .i64 c.div, .int .i64 c.lock]) fun j v hj => Rd.roc (by simp) (hro.at_ (j := j) hj)) rfl) ?_
    refine XA.dA 5 rfl rfl rfl (does_field (off := 0) (by kernel_rfl) rfl) ?_
    refine XA.dA 6 rfl rfl rfl (does_ld rfl) ?_
    refine XA.dA 7 rfl rfl rfl (does_len (el := 55) (by kernel_rfl) rfl) ?_
    refine XA.next 8 rfl (by kernel_rfl) ?_
    refine xk_callR (f := 121) (fi := []) (ca := []) (by kernel_rfl) rfl rfl (by decide) (fun w1 st => refClockG_any c n1 Af nf kf w1 (SlS.le hsf (all_le (st.started (by simp)))) hnf (by omega) (by omega)) ?_
    rw [show clockE n1 c = clockE s.clocks.length c from by rw [hn1]]
    refine XA.bt ?_
    refine XA.next 9 rfl (by kernel_rfl) ?_
    refine xk_assign rfl (by decide) ?_
    refine XA.bt ?_
    refine XA.done (by kernel_rfl) ?_
    refine XK.norm ?_
    refine XK.seq ?_

    refine XK.region ?_
    refine xk_move rfl (by decide) ?_
    refine xk_neq rfl rfl (by decide) ?_
    refine XK.nilN ?_
    refine XK.if_ rfl (fun hce => ?_) (fun hce => ?_)
    ·
      refine XK.seq ?_

      refine XK.region ?_
      refine xk_move rfl (by decide) ?_
      refine xk_assign rfl (by decide) ?_
      refine XK.nilN ?_
      refine XK.ret ?_
      refine XK.norm ?_
      rw [firstM_at hc hpre hce, firstE_cons hce]
      exact XK.ret1 rfl rfl fun w1 st => ⟨rfl, st.below (by simp)⟩
    ·
      refine XK.skip ?_
      refine XK.norm ?_

      refine XK.region ?_
      refine xk_move rfl (by decide) ?_
      refine xk_add rfl rfl (wrap_in (by omega)) (by decide) ?_
      refine xk_assign rfl (by decide) ?_
      refine XK.nilN ?_
      exact XK.envS [(3, .int .i64 ((i : Int) + 1)), (1, .pointer (some ⟨g1, 0, none⟩))] (XK.round (n1 - (i + 1)) (by omega) ⟨i + 1, by omega, take_snoc hc hpre (Classical.not_not.1 hce), rfl, rfl, rfl, rfl⟩)
  ·
    refine XK.exit ?_
    refine XK.norm ?_
    refine XK.seq ?_

    refine XK.region ?_
    refine xk_ldN 4 rfl ?_
    have hall := take_all (by omega) hpre
    refine xk_call [] (f := 123) (fi := []) (ca := []) (by kernel_rfl) rfl rfl (by decide) (by simp) (GrOk (clocksG s)) (fun w1 st => refClocks_any s A1 A2 A3 A4 n1 k1 n2 k2 n3 k3 n4 k4 w1 (hW.le (st.started (by simp)))) ?_
    rintro _ w1 qa ⟨Ag, cg, rfl, hgr⟩ hf _ _
    have hgr := hgr.le hf
    clear hf
    refine xk_callR (f := 122) (fi := []) (ca := []) (by kernel_rfl) rfl rfl (by decide) (fun w1 st => refCheckG_any Ag _ cg (clocksG s) w1 (hgr.le (st.le (by simp))) rfl (by simp [clocksG]; omega) (fun l hl => by
        simp only [clocksG, List.mem_map] at hl
        obtain ⟨z, hz, rfl⟩ := hl
        have := hs5 z hz; omega) (clocks_in hall)) ?_
    refine xk_assign rfl (by decide) ?_
    refine XK.nilN ?_
    refine XK.ret ?_
    refine XK.norm ?_
    rw [firstE_map0 hall, firstE_cons0, show firstE [cycE (clocksG s)] = cycE (clocksG s) from by rw [firstE_if]; split <;> simp_all [firstE_nil]]
    exact XK.ret1 rfl rfl fun w1 st => ⟨rfl, st.below (by simp)⟩

theorem domE_if {n : Nat} {d : Dom} : domainE n d = if ¬ d.above = -1 ∧ ¬ (0 ≤ d.above ∧ d.above < (n : Int)) then 4 else if 0 ≤ d.delay ∧ d.delay ≤ 20 then 0 else 3 := by
  unfold domainE
  have e1 : whenE (decide (¬ d.above = -1) && !withinB d.above 0 ((n : Int) - 1)) 4 = if ¬ d.above = -1 ∧ ¬ (0 ≤ d.above ∧ d.above < (n : Int)) then 4 else 0 := by
    by_cases h : d.above = -1
    · rw [if_neg (fun hh => hh.1 h), show decide (¬ d.above = -1) = false by simpa using h]; rfl
    · rw [show decide (¬ d.above = -1) = true by simpa using h, Bool.true_and, srcE]
      by_cases h2 : 0 ≤ d.above ∧ d.above < (n : Int)
      · rw [if_pos h2, if_neg (fun hh => hh.2 h2)]
      · rw [if_neg h2, if_pos ⟨h, h2⟩]
  have e2 : whenE (!withinB d.delay 0 20) 3 = if 0 ≤ d.delay ∧ d.delay ≤ 20 then 0 else 3 := by
    cases h : withinB d.delay 0 20 with
    | true => rw [within_iff] at h; rw [if_pos h]; rfl
    | false => rw [within_iff_f] at h; rw [if_neg h]; rfl
  rw [e1, e2, firstE_if]
  by_cases h : ¬ d.above = -1 ∧ ¬ (0 ≤ d.above ∧ d.above < (n : Int))
  · rw [if_pos h, if_pos h]; rfl
  · rw [if_neg h, if_neg h, firstE_if]
    split <;> simp_all [firstE_nil]
theorem doms_in {s : Soc} (h : ∀ d ∈ s.domains, domainE s.domains.length d = 0) : InG (domsG s) := by
  intro l hl u hu
  simp only [domsG, List.mem_map] at hl
  obtain ⟨z, hz, rfl⟩ := hl
  have h1 := h z hz
  rw [domE_if] at h1
  split at hu
  · cases hu
  · simp at hu
    subst hu
    split at h1
    · cases h1
    · have : (domsG s).length = s.domains.length := by simp [domsG]
      rw [this]
      omega

theorem refDomsG_any (s : Soc) (A1 A2 A3 A4 : Option Addr) (n1 k1 n2 k2 n3 k3 n4 k4 : Nat) (w : World) (hW : SocW w s A1 n1 A2 n2 A3 n3 A4 n4) (hfl : fullE s = 0) : Calls Tryz.prog 88 #[.agg #[.slice A1 n1 k1, .slice A2 n2 k2, .slice A3 n3 k3, .slice A4 n4 k4]] w (Rt (.int .i64 (firstE [firstE (s.domains.map (domainE s.domains.length)), cycE (domsG s)])) w) := by
  have hn1 := hW.len1
  have hn2 := hW.len2
  have hn3 := hW.len3
  have hn4 := hW.len4
  have hsm := hW.small
  unfold Soc.small at hsm
  obtain ⟨hs1, hs2, hs3, hs4, hs5, hs6⟩ := hsm
  obtain ⟨hf1, hf2, hf3, hf4, hf5⟩ := full_zero hfl
  refine XK.enter (vs := [.agg #[.slice A1 n1 k1, .slice A2 n2 k2, .slice A3 n3 k3, .slice A4 n4 k4]]) Tryz.func88 rfl Tryz.ntmps88 (by simp) ?_
  refine XK.seq ?_

  refine XK.region ?_
  refine xk_box rfl (by decide) fun g1 => ?_
  refine xk_assign rfl (by decide) ?_
  refine XK.nilN ?_
  refine XK.seq ?_
  refine XK.seq ?_

  refine XK.region ?_
  refine xk_assign rfl (by decide) ?_
  refine XK.nilN ?_
  refine XK.envS [(3, .int .i64 0), (1, .pointer (some ⟨g1, 0, none⟩))] ?_
  refine XK.block ?_
  refine XK.loop (fun m e R H => ∃ (i : Nat), i ≤ n2 ∧ (∀ x ∈ s.domains.take i, domainE s.domains.length x = 0) ∧ m = n2 - i ∧ e = [(3, .int .i64 i), (1, .pointer (some ⟨g1, 0, none⟩))] ∧ R = [all w] ∧ H = [HP.blk g1 28 [.slice A1 n1 k1, .slice A2 n2 k2, .slice A3 n3 k3, .slice A4 n4 k4]]) n2 ⟨0, by omega, by simp, rfl, rfl, rfl, rfl⟩ fun m e R H hI => ?_
  obtain ⟨i, hi, hpre, rfl, rfl, rfl, rfl⟩ := hI
  refine XK.seq ?_
  refine XK.seq ?_

  refine XK.region ?_
  refine xk_move rfl (by decide) ?_
  refine xk_field (off := 1) (by kernel_rfl) rfl (by decide) ?_
  refine xk_ld rfl ?_
  refine xk_len (el := 69) (by kernel_rfl) rfl (by decide) ?_
  refine xk_lss rfl rfl (by decide) ?_
  refine XK.nilN ?_
  refine XK.if_ rfl (fun hil => ?_) (fun hil => ?_)
  ·
    refine XK.skip ?_
    refine XK.norm ?_
    refine XK.seq ?_
    refine XK.block ?_
    refine XK.seq ?_
    have hil' : i < n2 := by have h' : (i : Int) < (n2 : Int) := hil; omega
    obtain ⟨d, hd⟩ : ∃ d, s.domains[i]? = some d := ⟨_, List.getElem?_eq_getElem (by omega)⟩
    obtain ⟨b, off, r, rfl, hrl, rfl, hro⟩ := hW.dom.row hd
    have hdE := @domE_if s.domains.length d
    rw [← hn2] at hdE

    refine XK.region ?_
    refine xk_field (off := 1) (by kernel_rfl) rfl (by decide) ?_
    refine xk_ld rfl ?_
    refine xk_move rfl (by decide) ?_
    refine xk_at (i) (off + i * 3) (el := 69) (sz := 3) (by kernel_rfl) (by kernel_rfl) rfl rfl (by omega) (by omega) (by omega) (by decide) ?_
    refine xk_loadN 3 (by kernel_rfl) rfl (RdN.of (vs := [.int .i64 d.above, .int .i64 d.delay, .bool d.ret]) fun j v hj => Rd.roc (by simp) (hro.at_ (j := j) hj)) rfl (by decide) ?_
    refine xk_alloc (cs := [.int .i64 0, .int .i64 0, .bool false]) (zeroB_of (by kernel_rfl)) (by decide) fun g2 => ?_
    (first | (refine xk_storeN 0 rfl rfl rfl (by kernel_rfl) (by simp [Value.cells, Value.oneCell']) (by simp [Value.cells]) ?_) | (refine xk_storeN 1 rfl rfl rfl (by kernel_rfl) (by simp [Value.cells, Value.oneCell']) (by simp [Value.cells]) ?_) | (refine xk_storeN 2 rfl rfl rfl (by kernel_rfl) (by simp [Value.cells, Value.oneCell']) (by simp [Value.cells]) ?_) | (refine xk_storeN 3 rfl rfl rfl (by kernel_rfl) (by simp [Value.cells, Value.oneCell']) (by simp [Value.cells]) ?_) | (refine xk_storeN 4 rfl rfl rfl (by kernel_rfl) (by simp [Value.cells, Value.oneCell']) (by simp [Value.cells]) ?_) | (refine xk_storeN 5 rfl rfl rfl (by kernel_rfl) (by simp [Value.cells, Value.oneCell']) (by simp [Value.cells]) ?_) | (refine xk_storeN 6 rfl rfl rfl (by kernel_rfl) (by simp [Value.cells, Value.oneCell']) (by simp [Value.cells]) ?_) | (refine xk_storeN 7 rfl rfl rfl (by kernel_rfl) (by simp [Value.cells, Value.oneCell']) (by simp [Value.cells]) ?_) | (refine xk_storeN 8 rfl rfl rfl (by kernel_rfl) (by simp [Value.cells, Value.oneCell']) (by simp [Value.cells]) ?_)); simp only [putN, Value.cells, List.set, List.take, List.drop, List.nil_append, List.append_nil, List.length_cons, List.length_nil, List.cons_append, Nat.reduceAdd]
    refine XK.nilN ?_
    refine XK.seq ?_
    refine XK.cutB 28 (¬ d.above = -1 ∧ ¬ (0 ≤ d.above ∧ d.above < (n2 : Int))) ?_ ?_
    · skip

      refine XK.region ?_
      refine xk_field (off := 0) (by kernel_rfl) rfl (by decide) ?_
      refine xk_ld rfl ?_
      refine xk_neq rfl rfl (by decide) ?_
      refine xk_move rfl (by decide) ?_
      refine xk_split (t := 20) rfl (fun hg20 => ?_) (fun hg20 => ?_)
      ·
        refine xk_guardT rfl rfl ?_; refine xk_field (off := 0) (by kernel_rfl) rfl (by decide) ?_
        refine xk_guardT rfl rfl ?_; refine xk_ld rfl ?_
        refine xk_guardT rfl rfl ?_; refine xk_field (off := 1) (by kernel_rfl) rfl (by decide) ?_
        refine xk_guardT rfl rfl ?_; refine xk_ld rfl ?_
        refine xk_guardT rfl rfl ?_; refine xk_len (el := 69) (by kernel_rfl) rfl (by decide) ?_
        refine xk_guardT rfl rfl ?_; refine xk_callR (f := 124) (fi := []) (ca := []) (by kernel_rfl) rfl rfl (by decide) (fun w1 st => refIn5_any _ _ w1) ?_
        refine xk_guardT rfl rfl ?_; refine xk_notD rfl (by decide) ?_
        (first | refine xk_pickT rfl rfl (by decide) ?_ | refine xk_pickF rfl rfl (by decide) ?_)
        refine XK.nilN ?_
        exact XK.meetB (by repeat (first | exact trivial | refine ⟨rfl, ?_⟩)) (by first | (refine get_iff rfl ?_; omega) | (refine get_true rfl ?_; omega) | (refine get_false rfl ?_; omega))
      ·
        refine xk_guardF rfl rfl rfl (by decide) ?_
        refine xk_guardF rfl rfl rfl (by decide) ?_
        refine xk_guardF rfl rfl rfl (by decide) ?_
        refine xk_guardF rfl rfl rfl (by decide) ?_
        refine xk_guardF rfl rfl rfl (by decide) ?_
        refine xk_guardF rfl rfl rfl (by decide) ?_
        refine xk_guardF rfl rfl rfl (by decide) ?_
        (first | refine xk_pickT rfl rfl (by decide) ?_ | refine xk_pickF rfl rfl (by decide) ?_)
        refine XK.nilN ?_
        exact XK.meetB (by repeat (first | exact trivial | refine ⟨rfl, ?_⟩)) (by first | (refine get_iff rfl ?_; omega) | (refine get_true rfl ?_; omega) | (refine get_false rfl ?_; omega))
    refine XK.if_ rfl (fun h28 => ?_) (fun h28 => ?_)
    ·
      refine XK.seq ?_

      refine XK.region ?_
      refine xk_assign rfl (by decide) ?_
      refine XK.nilN ?_
      refine XK.ret ?_
      refine XK.norm ?_
      rw [if_pos h28, hn2] at hdE
      rw [firstM_at hd hpre (by rw [hdE]; decide), hdE, firstE_cons (by decide)]
      exact XK.ret1 rfl rfl fun w1 st => ⟨rfl, st.below (by simp)⟩
    ·
      refine XK.skip ?_
      refine XK.norm ?_
      refine XK.seq ?_

      refine XK.region ?_
      refine xk_field (off := 1) (by kernel_rfl) rfl (by decide) ?_
      refine xk_ld rfl ?_
      refine xk_callR (f := 89) (fi := []) (ca := []) (by kernel_rfl) rfl rfl (by decide) (fun w1 st => refWithin5_any _ _ _ w1) ?_
      refine xk_notD rfl (by decide) ?_
      refine XK.nilN ?_
      refine XK.if_ rfl (fun hdl => ?_) (fun hdl => ?_)
      ·
        refine XK.seq ?_

        refine XK.region ?_
        refine xk_assign rfl (by decide) ?_
        refine XK.nilN ?_
        refine XK.ret ?_
        refine XK.norm ?_
        rw [if_neg h28, if_neg hdl, hn2] at hdE
        rw [firstM_at hd hpre (by rw [hdE]; decide), hdE, firstE_cons (by decide)]
        exact XK.ret1 rfl rfl fun w1 st => ⟨rfl, st.below (by simp)⟩
      ·
        refine XK.skip ?_
        refine XK.norm ?_

        refine XK.region ?_
        refine xk_move rfl (by decide) ?_
        refine xk_add rfl rfl (wrap_in (by omega)) (by decide) ?_
        refine xk_assign rfl (by decide) ?_
        refine XK.nilN ?_
        exact XK.weak [1] rfl (by decide) (fun _ h => h) (XK.envS [(3, .int .i64 ((i : Int) + 1)), (1, .pointer (some ⟨g1, 0, none⟩))] (XK.round (n2 - (i + 1)) (by omega) ⟨i + 1, by omega, take_snoc hd hpre (by rw [if_neg h28, if_pos (Classical.not_not.1 hdl), hn2] at hdE; exact hdE), rfl, rfl, rfl, rfl⟩))
  ·
    refine XK.exit ?_
    refine XK.norm ?_
    refine XK.seq ?_

    refine XK.region ?_
    refine xk_ldN 4 rfl ?_
    have hall := take_all (by omega) hpre
    refine xk_call [] (f := 125) (fi := []) (ca := []) (by kernel_rfl) rfl rfl (by decide) (by simp) (GrOk (domsG s)) (fun w1 st => refDoms_any s A1 A2 A3 A4 n1 k1 n2 k2 n3 k3 n4 k4 w1 (hW.le (st.started (by simp)))) ?_
    rintro _ w1 qa ⟨Ag, cg, rfl, hgr⟩ hf _ _
    have hgr := hgr.le hf
    clear hf
    refine xk_callR (f := 122) (fi := []) (ca := []) (by kernel_rfl) rfl rfl (by decide) (fun w1 st => refCheckG_any Ag _ cg (domsG s) w1 (hgr.le (st.le (by simp))) rfl (by simp [domsG]; omega) (fun l hl => by
        simp only [domsG, List.mem_map] at hl
        obtain ⟨z, _, rfl⟩ := hl
        split <;> simp) (doms_in hall)) ?_
    refine xk_assign rfl (by decide) ?_
    refine XK.nilN ?_
    refine XK.ret ?_
    refine XK.norm ?_
    rw [firstE_map0 hall, firstE_cons0, show firstE [cycE (domsG s)] = cycE (domsG s) from by rw [firstE_if]; split <;> simp_all [firstE_nil]]
    exact XK.ret1 rfl rfl fun w1 st => ⟨rfl, st.below (by simp)⟩

theorem refNeeds5_any (s : Soc) (A1 A2 A3 A4 : Option Addr) (n1 k1 n2 k2 n3 k3 n4 k4 : Nat) (w : World) (hW : SocW w s A1 n1 A2 n2 A3 n3 A4 n4) :
    Calls Tryz.prog 126 #[.agg #[.slice A1 n1 k1, .slice A2 n2 k2, .slice A3 n3 k3, .slice A4 n4 k4]] w (fun y w' => (∃ v, y = .returned v ∧ GrOk (needsG s) v w w') ∧ Below w.heap.size w w') := by
  have hn := hW.len4
  have hsm := hW.small
  unfold Soc.small at hsm
  obtain ⟨hs1, hs2, hs3, hs4, hs5, hs6⟩ := hsm
  refine XK.enter (vs := [.agg #[.slice A1 n1 k1, .slice A2 n2 k2, .slice A3 n3 k3, .slice A4 n4 k4]]) Tryz.func126 rfl Tryz.ntmps126 (by simp) ?_
  refine XK.seq ?_

  refine XK.region ?_
  refine xk_box rfl (by decide) fun g1 => ?_
  refine xk_assign rfl (by decide) ?_
  refine XK.nilN ?_
  refine XK.seq ?_

  refine XK.region ?_
  refine xk_assign rfl (by decide) ?_
  refine XK.nilN ?_
  refine XK.seq ?_
  refine XK.seq ?_

  refine XK.region ?_
  refine xk_assign rfl (by decide) ?_
  refine XK.nilN ?_
  refine XK.envS [(4, .int .i64 0), (3, .slice none 0 0), (1, .pointer (some ⟨g1, 0, none⟩))] ?_
  refine XK.nilrow 40 1 ?_
  refine XK.still [] [] [0, 1] (by simp) rfl (by decide) (by decide) fun q0 _ _ hfr0 => ?_
  refine XK.block ?_
  refine XK.loop (fun m e R H => ∃ (k : Nat) (vs : List Value) (q : Piece) (Ag : Option Addr) (cg : Nat), k ≤ n4 ∧ m = n4 - k ∧ Fresh w q ∧ Rows (LstR (slq q)) 1 ((needsG s).take k) (vs.map fun v => [v]) ∧ e = [(4, .int .i64 k), (3, .slice Ag k cg), (1, .pointer (some ⟨g1, 0, none⟩))] ∧ R = [q, all w] ∧ H = [HP.own 40 1 (.slice Ag k cg) k vs, HP.blk g1 28 [.slice A1 n1 k1, .slice A2 n2 k2, .slice A3 n3 k3, .slice A4 n4 k4]]) n4 ⟨0, [], _, none, 0, by omega, rfl, hfr0 (by simp) (by simp), trivial, rfl, rfl, rfl⟩ fun m e R H hI => ?_
  obtain ⟨k, vs, q, Ag, cg, hk, rfl, hfq, hrows, rfl, rfl, rfl⟩ := hI
  refine XK.seq ?_
  refine XK.seq ?_

  refine XK.region ?_
  refine xk_move rfl (by decide) ?_
  refine xk_field (off := 3) (by kernel_rfl) rfl (by decide) ?_
  refine xk_ld rfl ?_
  refine xk_len (el := 51) (by kernel_rfl) rfl (by decide) ?_
  refine xk_lss rfl rfl (by decide) ?_
  refine XK.nilN ?_
  refine XK.if_ rfl (fun h => ?_) (fun h => ?_)
  ·
    refine XK.skip ?_
    refine XK.norm ?_
    refine XK.seq ?_
    refine XK.block ?_
    have hkn : k < s.devs.length := by omega
    obtain ⟨e, he⟩ : ∃ e, s.devs[k]? = some e := ⟨_, List.getElem?_eq_getElem hkn⟩
    obtain ⟨b, off, r, rfl, hrl, hR, hro⟩ := hW.dev.row he
    obtain ⟨Ar, nr, kr, Af, nf, kf, rfl, hnr9, hnf, hsr, hsf⟩ := hR
    have hgk : (needsG s)[k]? = some (e.needs) := by simp [needsG, he]

    refine XK.region ?_
    refine xk_move rfl (by decide) ?_
    refine xk_slice0 (el := 3) (sz := 1) (by kernel_rfl) (by kernel_rfl) (by decide) fun g4 => ?_
    refine XK.asOwn 0 1 0 rfl rfl (by omega) ?_
    dsimp only [List.set]
    refine xk_field (off := 3) (by kernel_rfl) rfl (by decide) ?_
    refine xk_ld rfl ?_
    refine xk_move rfl (by decide) ?_
    refine xk_at k (off + k * 6) (el := 51) (sz := 6) (by kernel_rfl) (by kernel_rfl) rfl rfl (by omega) (by omega) (by omega) (by decide) ?_
    refine xk_field (off := 5) (by kernel_rfl) rfl (by decide) ?_
    refine xk_load (by kernel_rfl) rfl (Rd.roc (by simp) (hro.at_ (j := 5) rfl)) (by decide) ?_
    refine xk_appendT 0 1 8 nf (n' := nf) (el := 3) (by kernel_rfl) (by kernel_rfl) (by decide) rfl rfl rfl (sl_ro (p := all w) (by simp) hsf) (by simp [intCells, Value.oneCell']) (by omega) (by have := hs6 e (List.mem_of_getElem? he); omega) (by have := hs6 e (List.mem_of_getElem? he); omega) (by decide) fun A5 c5 => ?_
    dsimp only [List.set, List.nil_append]
    refine xk_slice (el := 40) (sz := 1) (zs := [.slice none 0 0]) (by kernel_rfl) (zeroB_of (by kernel_rfl)) (by kernel_rfl) rfl (by decide) (by decide) rfl (by simp [fillL, setN, Value.cells, List.range_succ, List.set]; rfl) (by decide) fun g3 => ?_
    refine xk_appendT 2 1 24 1 (n' := k + 1) (el := 40) (by kernel_rfl) (by kernel_rfl) (by decide) rfl rfl rfl (sl_blk 0 rfl rfl) (by simp [Value.oneCell']) rfl (by omega) (by omega) (by decide) fun A6 c6 => ?_
    dsimp only [List.set]
    refine xk_assign rfl (by decide) ?_
    refine XK.nilN ?_

    refine XK.region ?_
    refine xk_move rfl (by decide) ?_
    refine xk_add rfl rfl (wrap_in (by omega)) (by decide) ?_
    refine xk_assign rfl (by decide) ?_
    refine XK.nilN ?_
    refine XK.still [q] [1] [2, 3] (by simp) rfl (by decide) (by decide) fun q' hq' hle hfr' => ?_
    obtain ⟨Fg, hsg, hzg⟩ := hq' 1 _ (by simp) rfl
    obtain ⟨A7, c7, e7, hso⟩ := SlS.of_own (Y := q'.Z) hsg hzg
    injection e7 with f1 f2 f3
    subst f1
    exact XK.weak [0, 1] rfl (by decide) (by simp) (XK.envS [(4, .int .i64 (k + 1)), (3, .slice A6 (k + 1) c6), (1, .pointer (some ⟨g1, 0, none⟩))] (XK.round (n4 - (k + 1)) (by omega) ⟨k + 1, vs ++ [_], q', A6, c6, by omega, rfl, hfr' (by simp) (by simpa using hfq), rows_next hrows (hle q (by simp)) hgk ⟨A5, nf, c5, rfl, hnf, hso⟩, rfl, rfl, rfl⟩))
  ·
    refine XK.exit ?_
    refine XK.norm ?_
    refine XK.seq ?_
    obtain rfl : k = n4 := by omega
    rw [List.take_of_length_le (by simp [needsG]; omega)] at hrows

    refine XK.region ?_
    refine xk_move rfl (by decide) ?_
    refine xk_assign rfl (by decide) ?_
    refine XK.nilN ?_
    refine XK.ret ?_
    refine XK.norm ?_
    refine XK.still [q] [0] [] (by simp) rfl (by decide) (by decide) fun q2 hq hle hfr => ?_
    have hgl : k = (needsG s).length := by simp [needsG]; omega
    exact XK.ret1 rfl rfl fun w1 st => ⟨⟨_, rfl, Ag, cg, by rw [← hgl], by rw [← hgl]; exact (GrS.ofOwn hrows (hle q (by simp)) (hq 0 _ (by simp) rfl) hgl).le (st.fresh_le (by simp) (hfr (by simp) (by simpa using hfq)))⟩, st.below (by simp)⟩

section
variable {n1 n2 n3 n4 : Nat} {d : Dev}
theorem devE_if : deviceE n1 n2 n3 n4 d = if ¬ (0 ≤ d.clock ∧ d.clock < (n1 : Int)) ∨ ¬ (0 ≤ d.domain ∧ d.domain < (n2 : Int)) ∨ ¬ (0 ≤ d.reset ∧ d.reset < (n3 : Int)) then 4 else firstE (d.needs.map fun f => whenE (!withinB f 0 ((n4 : Int) - 1)) 4) := by
  unfold deviceE
  rw [srcE, srcE, srcE]
  by_cases h1 : 0 ≤ d.clock ∧ d.clock < (n1 : Int)
  · rw [if_pos h1, firstE_cons0]
    by_cases h2 : 0 ≤ d.domain ∧ d.domain < (n2 : Int)
    · rw [if_pos h2, firstE_cons0]
      by_cases h3 : 0 ≤ d.reset ∧ d.reset < (n3 : Int)
      · rw [if_pos h3, firstE_cons0, if_neg (by omega), firstE_if]
        split <;> simp_all [firstE_nil]
      · rw [if_neg h3, if_pos (show ¬ (0 ≤ d.clock ∧ d.clock < (n1 : Int)) ∨ ¬ (0 ≤ d.domain ∧ d.domain < (n2 : Int)) ∨ ¬ (0 ≤ d.reset ∧ d.reset < (n3 : Int)) from .inr (.inr h3))]; rfl
    · rw [if_neg h2, if_pos (show ¬ (0 ≤ d.clock ∧ d.clock < (n1 : Int)) ∨ ¬ (0 ≤ d.domain ∧ d.domain < (n2 : Int)) ∨ ¬ (0 ≤ d.reset ∧ d.reset < (n3 : Int)) from .inr (.inl h2))]; rfl
  · rw [if_neg h1, if_pos (show ¬ (0 ≤ d.clock ∧ d.clock < (n1 : Int)) ∨ ¬ (0 ≤ d.domain ∧ d.domain < (n2 : Int)) ∨ ¬ (0 ≤ d.reset ∧ d.reset < (n3 : Int)) from .inl h1)]; rfl
end
theorem devs_in {s : Soc} (h : ∀ d ∈ s.devs, deviceE s.clocks.length s.domains.length s.resets.length s.devs.length d = 0) : InG (needsG s) := by
  intro l hl u hu
  simp only [needsG, List.mem_map] at hl
  obtain ⟨z, hz, rfl⟩ := hl
  have h1 := h z hz
  rw [devE_if] at h1
  split at h1
  · cases h1
  · have h2 := firstE_zero h1 _ (List.mem_map.2 ⟨u, hu, rfl⟩)
    rw [srcE] at h2
    have h4 : (needsG s).length = s.devs.length := by simp [needsG]
    rw [h4]
    by_cases h3 : 0 ≤ u ∧ u < (s.devs.length : Int)
    · exact h3
    · rw [if_neg h3] at h2; cases h2

theorem refDevsG_any (s : Soc) (A1 A2 A3 A4 : Option Addr) (n1 k1 n2 k2 n3 k3 n4 k4 : Nat) (w : World) (hW : SocW w s A1 n1 A2 n2 A3 n3 A4 n4) (hfl : fullE s = 0) : Calls Tryz.prog 90 #[.agg #[.slice A1 n1 k1, .slice A2 n2 k2, .slice A3 n3 k3, .slice A4 n4 k4]] w (Rt (.int .i64 (firstE [firstE (s.devs.map (deviceE s.clocks.length s.domains.length s.resets.length s.devs.length)), cycE (needsG s)])) w) := by
  have hn1 := hW.len1
  have hn2 := hW.len2
  have hn3 := hW.len3
  have hn4 := hW.len4
  have hsm := hW.small
  unfold Soc.small at hsm
  obtain ⟨hs1, hs2, hs3, hs4, hs5, hs6⟩ := hsm
  obtain ⟨hf1, hf2, hf3, hf4, hf5⟩ := full_zero hfl
  refine XK.enter (vs := [.agg #[.slice A1 n1 k1, .slice A2 n2 k2, .slice A3 n3 k3, .slice A4 n4 k4]]) Tryz.func90 rfl Tryz.ntmps90 (by simp) ?_
  refine XK.seq ?_

  refine XK.region ?_
  refine xk_box rfl (by decide) fun g1 => ?_
  refine xk_assign rfl (by decide) ?_
  refine XK.nilN ?_
  refine XK.seq ?_
  refine XK.seq ?_

  refine XK.region ?_
  refine xk_assign rfl (by decide) ?_
  refine XK.nilN ?_
  refine XK.envS [(3, .int .i64 0), (1, .pointer (some ⟨g1, 0, none⟩))] ?_
  refine XK.block ?_
  refine XK.loop (fun m e R H => ∃ (i : Nat), i ≤ n4 ∧ (∀ x ∈ s.devs.take i, deviceE s.clocks.length s.domains.length s.resets.length s.devs.length x = 0) ∧ m = n4 - i ∧ e = [(3, .int .i64 i), (1, .pointer (some ⟨g1, 0, none⟩))] ∧ R = [all w] ∧ H = [HP.blk g1 28 [.slice A1 n1 k1, .slice A2 n2 k2, .slice A3 n3 k3, .slice A4 n4 k4]]) n4 ⟨0, by omega, by simp, rfl, rfl, rfl, rfl⟩ fun m e R H hI => ?_
  obtain ⟨i, hi, hpre, rfl, rfl, rfl, rfl⟩ := hI
  refine XK.seq ?_
  refine XK.seq ?_

  refine XK.region ?_
  refine xk_move rfl (by decide) ?_
  refine xk_field (off := 3) (by kernel_rfl) rfl (by decide) ?_
  refine xk_ld rfl ?_
  refine xk_len (el := 51) (by kernel_rfl) rfl (by decide) ?_
  refine xk_lss rfl rfl (by decide) ?_
  refine XK.nilN ?_
  refine XK.if_ rfl (fun hil => ?_) (fun hil => ?_)
  ·
    refine XK.skip ?_
    refine XK.norm ?_
    refine XK.seq ?_
    refine XK.block ?_
    refine XK.seq ?_
    have hil' : i < n4 := by have h' : (i : Int) < (n4 : Int) := hil; omega
    obtain ⟨d, hd⟩ : ∃ d, s.devs[i]? = some d := ⟨_, List.getElem?_eq_getElem (by omega)⟩
    obtain ⟨b, off, r, rfl, hrl, hR, hro⟩ := hW.dev.row hd
    obtain ⟨Ar, nr, kr, An, nn, kn, rfl, hnr9, hnn9, hsr, hsn⟩ := hR
    have hdE := @devE_if n1 n2 n3 n4 d
    have hsd := hs6 d (List.mem_of_getElem? hd)

    refine XK.region ?_
    refine xk_field (off := 3) (by kernel_rfl) rfl (by decide) ?_
    refine xk_ld rfl ?_
    refine xk_move rfl (by decide) ?_
    refine xk_at (i) (off + i * 6) (el := 51) (sz := 6) (by kernel_rfl) (by kernel_rfl) rfl rfl (by omega) (by omega) (by omega) (by decide) ?_
    refine xk_loadN 6 (by kernel_rfl) rfl (RdN.of (vs := [.int .i64 d.clock, .int .i64 d.domain, .int .i64 d.reset, .int .u32 d.clamp, .slice Ar nr kr, .slice An nn kn]) fun j v hj => Rd.roc (by simp) (hro.at_ (j := j) hj)) rfl (by decide) ?_
    refine xk_alloc (cs := [.int .i64 0, .int .i64 0, .int .i64 0, .int .u32 0, .slice none 0 0, .slice none 0 0]) (zeroB_of (by kernel_rfl)) (by decide) fun g2 => ?_
    (first | (refine xk_storeN 0 rfl rfl rfl (by kernel_rfl) (by simp [Value.cells, Value.oneCell']) (by simp [Value.cells]) ?_) | (refine xk_storeN 1 rfl rfl rfl (by kernel_rfl) (by simp [Value.cells, Value.oneCell']) (by simp [Value.cells]) ?_) | (refine xk_storeN 2 rfl rfl rfl (by kernel_rfl) (by simp [Value.cells, Value.oneCell']) (by simp [Value.cells]) ?_) | (refine xk_storeN 3 rfl rfl rfl (by kernel_rfl) (by simp [Value.cells, Value.oneCell']) (by simp [Value.cells]) ?_) | (refine xk_storeN 4 rfl rfl rfl (by kernel_rfl) (by simp [Value.cells, Value.oneCell']) (by simp [Value.cells]) ?_) | (refine xk_storeN 5 rfl rfl rfl (by kernel_rfl) (by simp [Value.cells, Value.oneCell']) (by simp [Value.cells]) ?_) | (refine xk_storeN 6 rfl rfl rfl (by kernel_rfl) (by simp [Value.cells, Value.oneCell']) (by simp [Value.cells]) ?_) | (refine xk_storeN 7 rfl rfl rfl (by kernel_rfl) (by simp [Value.cells, Value.oneCell']) (by simp [Value.cells]) ?_) | (refine xk_storeN 8 rfl rfl rfl (by kernel_rfl) (by simp [Value.cells, Value.oneCell']) (by simp [Value.cells]) ?_)); simp only [putN, Value.cells, List.set, List.take, List.drop, List.nil_append, List.append_nil, List.length_cons, List.length_nil, List.cons_append, Nat.reduceAdd]
    refine XK.nilN ?_
    refine XK.seq ?_
    refine XK.cutB 42 (¬ (0 ≤ d.clock ∧ d.clock < (n1 : Int)) ∨ ¬ (0 ≤ d.domain ∧ d.domain < (n2 : Int)) ∨ ¬ (0 ≤ d.reset ∧ d.reset < (n3 : Int))) ?_ ?_
    · skip

      refine XK.region ?_
      refine xk_field (off := 0) (by kernel_rfl) rfl (by decide) ?_
      refine xk_ld rfl ?_
      refine xk_field (off := 0) (by kernel_rfl) rfl (by decide) ?_
      refine xk_ld rfl ?_
      refine xk_len (el := 55) (by kernel_rfl) rfl (by decide) ?_
      refine xk_callR (f := 124) (fi := []) (ca := []) (by kernel_rfl) rfl rfl (by decide) (fun w1 st => refIn5_any _ _ w1) ?_
      refine xk_notD rfl (by decide) ?_
      refine xk_move rfl (by decide) ?_
      refine xk_split (t := 25) rfl (fun hg25 => ?_) (fun hg25 => ?_)
      ·
        refine xk_guardF rfl rfl rfl (by decide) ?_
        refine xk_guardF rfl rfl rfl (by decide) ?_
        refine xk_guardF rfl rfl rfl (by decide) ?_
        refine xk_guardF rfl rfl rfl (by decide) ?_
        refine xk_guardF rfl rfl rfl (by decide) ?_
        refine xk_guardF rfl rfl rfl (by decide) ?_
        refine xk_guardF rfl rfl rfl (by decide) ?_
        (first | refine xk_pickT rfl rfl (by decide) ?_ | refine xk_pickF rfl rfl (by decide) ?_)
        refine xk_move rfl (by decide) ?_
        refine xk_guardF rfl rfl rfl (by decide) ?_
        refine xk_guardF rfl rfl rfl (by decide) ?_
        refine xk_guardF rfl rfl rfl (by decide) ?_
        refine xk_guardF rfl rfl rfl (by decide) ?_
        refine xk_guardF rfl rfl rfl (by decide) ?_
        refine xk_guardF rfl rfl rfl (by decide) ?_
        refine xk_guardF rfl rfl rfl (by decide) ?_
        (first | refine xk_pickT rfl rfl (by decide) ?_ | refine xk_pickF rfl rfl (by decide) ?_)
        refine XK.nilN ?_
        exact XK.meetB (by repeat (first | exact trivial | refine ⟨rfl, ?_⟩)) (by first | (refine get_iff rfl ?_; omega) | (refine get_true rfl ?_; omega) | (refine get_false rfl ?_; omega))
      ·
        refine xk_guardT rfl rfl ?_; refine xk_field (off := 1) (by kernel_rfl) rfl (by decide) ?_
        refine xk_guardT rfl rfl ?_; refine xk_ld rfl ?_
        refine xk_guardT rfl rfl ?_; refine xk_field (off := 1) (by kernel_rfl) rfl (by decide) ?_
        refine xk_guardT rfl rfl ?_; refine xk_ld rfl ?_
        refine xk_guardT rfl rfl ?_; refine xk_len (el := 69) (by kernel_rfl) rfl (by decide) ?_
        refine xk_guardT rfl rfl ?_; refine xk_callR (f := 124) (fi := []) (ca := []) (by kernel_rfl) rfl rfl (by decide) (fun w1 st => refIn5_any _ _ w1) ?_
        refine xk_guardT rfl rfl ?_; refine xk_notD rfl (by decide) ?_
        (first | refine xk_pickT rfl rfl (by decide) ?_ | refine xk_pickF rfl rfl (by decide) ?_)
        refine xk_move rfl (by decide) ?_
        refine xk_split (t := 34) rfl (fun hg34 => ?_) (fun hg34 => ?_)
        ·
          refine xk_guardF rfl rfl rfl (by decide) ?_
          refine xk_guardF rfl rfl rfl (by decide) ?_
          refine xk_guardF rfl rfl rfl (by decide) ?_
          refine xk_guardF rfl rfl rfl (by decide) ?_
          refine xk_guardF rfl rfl rfl (by decide) ?_
          refine xk_guardF rfl rfl rfl (by decide) ?_
          refine xk_guardF rfl rfl rfl (by decide) ?_
          (first | refine xk_pickT rfl rfl (by decide) ?_ | refine xk_pickF rfl rfl (by decide) ?_)
          refine XK.nilN ?_
          exact XK.meetB (by repeat (first | exact trivial | refine ⟨rfl, ?_⟩)) (by first | (refine get_iff rfl ?_; omega) | (refine get_true rfl ?_; omega) | (refine get_false rfl ?_; omega))
        ·
          refine xk_guardT rfl rfl ?_; refine xk_field (off := 2) (by kernel_rfl) rfl (by decide) ?_
          refine xk_guardT rfl rfl ?_; refine xk_ld rfl ?_
          refine xk_guardT rfl rfl ?_; refine xk_field (off := 2) (by kernel_rfl) rfl (by decide) ?_
          refine xk_guardT rfl rfl ?_; refine xk_ld rfl ?_
          refine xk_guardT rfl rfl ?_; refine xk_len (el := 71) (by kernel_rfl) rfl (by decide) ?_
          refine xk_guardT rfl rfl ?_; refine xk_callR (f := 124) (fi := []) (ca := []) (by kernel_rfl) rfl rfl (by decide) (fun w1 st => refIn5_any _ _ w1) ?_
          refine xk_guardT rfl rfl ?_; refine xk_notD rfl (by decide) ?_
          (first | refine xk_pickT rfl rfl (by decide) ?_ | refine xk_pickF rfl rfl (by decide) ?_)
          refine XK.nilN ?_
          exact XK.meetB (by repeat (first | exact trivial | refine ⟨rfl, ?_⟩)) (by first | (refine get_iff rfl ?_; omega) | (refine get_true rfl ?_; omega) | (refine get_false rfl ?_; omega))
    refine XK.if_ rfl (fun h42 => ?_) (fun h42 => ?_)
    ·
      refine XK.seq ?_

      refine XK.region ?_
      refine xk_assign rfl (by decide) ?_
      refine XK.nilN ?_
      refine XK.ret ?_
      refine XK.norm ?_
      rw [if_pos h42, hn1, hn2, hn3, hn4] at hdE
      rw [firstM_at hd hpre (by rw [hdE]; decide), hdE, firstE_cons (by decide)]
      exact XK.ret1 rfl rfl fun w1 st => ⟨rfl, st.below (by simp)⟩
    ·
      refine XK.skip ?_
      refine XK.norm ?_
      refine XK.seq ?_
      rw [if_neg h42, hn1, hn2, hn3] at hdE

      refine XK.region ?_
      refine xk_assign rfl (by decide) ?_
      refine XK.nilN ?_
      refine XK.envS [(5, .int .i64 0), (4, .pointer (some ⟨g2, 0, none⟩)), (3, .int .i64 i), (1, .pointer (some ⟨g1, 0, none⟩))] ?_
      refine XK.block ?_
      refine XK.loop (fun m e R H => ∃ (k : Nat), k ≤ nn ∧ (∀ x ∈ d.needs.take k, 0 ≤ x ∧ x < (n4 : Int)) ∧ m = nn - k ∧ e = [(5, .int .i64 k), (4, .pointer (some ⟨g2, 0, none⟩)), (3, .int .i64 i), (1, .pointer (some ⟨g1, 0, none⟩))] ∧ R = [all w] ∧ H = [HP.blk g2 51 [.int .i64 d.clock, .int .i64 d.domain, .int .i64 d.reset, .int .u32 d.clamp, .slice Ar nr kr, .slice An nn kn], HP.blk g1 28 [.slice A1 n1 k1, .slice A2 n2 k2, .slice A3 n3 k3, .slice (some ⟨b, off, none⟩) n4 k4]]) nn ⟨0, by omega, by simp, rfl, rfl, rfl, rfl⟩ fun m e R H hI => ?_
      obtain ⟨k, hk, hprk, rfl, rfl, rfl, rfl⟩ := hI
      refine XK.seq ?_
      refine XK.seq ?_

      refine XK.region ?_
      refine xk_move rfl (by decide) ?_
      refine xk_field (off := 5) (by kernel_rfl) rfl (by decide) ?_
      refine xk_ld rfl ?_
      refine xk_len (el := 3) (by kernel_rfl) rfl (by decide) ?_
      refine xk_lss rfl rfl (by decide) ?_
      refine XK.nilN ?_
      refine XK.if_ rfl (fun hkl => ?_) (fun hkl => ?_)
      ·
        refine XK.skip ?_
        refine XK.norm ?_
        refine XK.seq ?_
        refine XK.block ?_
        refine XK.seq ?_
        have hkl' : k < nn := by have h' : (k : Int) < (nn : Int) := hkl; omega
        obtain ⟨y, hy⟩ : ∃ y, d.needs[k]? = some y := ⟨_, List.getElem?_eq_getElem (by omega)⟩
        obtain ⟨bI, oI, hAI, hcI⟩ := SlS.intR hsn (by omega)
        subst hAI
        have hcy := hcI k y hy

        refine XK.draw 8 (by kernel_rfl) (by kernel_rfl) ?_
        refine XA.dA 0 rfl rfl rfl (does_field (off := 5) (by kernel_rfl) rfl) ?_
        refine XA.dA 1 rfl rfl rfl (does_ld rfl) ?_
        refine XA.dA 2 rfl rfl rfl (does_move rfl) ?_
        refine XA.dA 3 rfl rfl rfl (does_at (k) (oI + k) (el := 3) (sz := 1) (by kernel_rfl) (by kernel_rfl) rfl rfl (by omega) (by omega) (by omega)) ?_
        refine XA.dA 4 rfl rfl rfl (does_load (by kernel_rfl) rfl (Rd.roc (by simp) hcy)) ?_
        refine XA.dA 5 rfl rfl rfl (does_field (off := 3) (by kernel_rfl) rfl) ?_
        refine XA.dA 6 rfl rfl rfl (does_ld rfl) ?_
        refine XA.dA 7 rfl rfl rfl (does_len (el := 51) (by kernel_rfl) rfl) ?_
        refine XA.next 8 rfl (by kernel_rfl) ?_
        refine xk_callR (f := 124) (fi := []) (ca := []) (by kernel_rfl) rfl rfl (by decide) (fun w1 st => refIn5_any _ _ w1) ?_
        refine XA.bt ?_
        refine XA.next 9 rfl (by kernel_rfl) ?_
        refine xk_notD rfl (by decide) ?_
        refine XA.bt ?_
        refine XA.done (by kernel_rfl) ?_
        refine XK.norm ?_
        refine XK.if_ rfl (fun hyn => ?_) (fun hyn => ?_)
        ·
          refine XK.seq ?_

          refine XK.region ?_
          refine xk_assign rfl (by decide) ?_
          refine XK.nilN ?_
          refine XK.ret ?_
          refine XK.norm ?_
          rw [firstM_at (f := fun f => whenE (!withinB f 0 ((n4 : Int) - 1)) 4) hy (fun x hx => by rw [srcE, if_pos (hprk x hx)]) (by rw [srcE, if_neg hyn]; decide)] at hdE
          rw [srcE, if_neg hyn, hn4] at hdE
          rw [firstM_at hd hpre (by rw [hdE]; decide), hdE, firstE_cons (by decide)]
          exact XK.ret1 rfl rfl fun w1 st => ⟨rfl, st.below (by simp)⟩
        ·
          refine XK.skip ?_
          refine XK.norm ?_

          refine XK.region ?_
          refine xk_move rfl (by decide) ?_
          refine xk_add rfl rfl (wrap_in (by omega)) (by decide) ?_
          refine xk_assign rfl (by decide) ?_
          refine XK.nilN ?_
          exact XK.envS [(5, .int .i64 ((k : Int) + 1)), (4, .pointer (some ⟨g2, 0, none⟩)), (3, .int .i64 i), (1, .pointer (some ⟨g1, 0, none⟩))] (XK.round (nn - (k + 1)) (by omega) ⟨k + 1, by omega, take_snoc hy hprk (Classical.not_not.1 hyn), rfl, rfl, rfl, rfl⟩)
      ·
        refine XK.exit ?_
        refine XK.norm ?_

        refine XK.region ?_
        refine xk_move rfl (by decide) ?_
        refine xk_add rfl rfl (wrap_in (by omega)) (by decide) ?_
        refine xk_assign rfl (by decide) ?_
        refine XK.nilN ?_
        have halk := take_all (by omega) hprk
        rw [firstE_map0 (f := fun f => whenE (!withinB f 0 ((n4 : Int) - 1)) 4) (fun x hx => by rw [srcE, if_pos (halk x hx)]), hn4] at hdE
        exact XK.weak [1] rfl (by decide) (fun _ h => h) (XK.envS [(3, .int .i64 ((i : Int) + 1)), (1, .pointer (some ⟨g1, 0, none⟩))] (XK.round (n4 - (i + 1)) (by omega) ⟨i + 1, by omega, take_snoc hd hpre hdE, rfl, rfl, rfl, rfl⟩))
  ·
    refine XK.exit ?_
    refine XK.norm ?_
    refine XK.seq ?_

    refine XK.region ?_
    refine xk_ldN 4 rfl ?_
    have hall := take_all (by omega) hpre
    refine xk_call [] (f := 126) (fi := []) (ca := []) (by kernel_rfl) rfl rfl (by decide) (by simp) (GrOk (needsG s)) (fun w1 st => refNeeds5_any s A1 A2 A3 A4 n1 k1 n2 k2 n3 k3 n4 k4 w1 (hW.le (st.started (by simp)))) ?_
    rintro _ w1 qa ⟨Ag, cg, rfl, hgr⟩ hf _ _
    have hgr := hgr.le hf
    clear hf
    refine xk_callR (f := 122) (fi := []) (ca := []) (by kernel_rfl) rfl rfl (by decide) (fun w1 st => refCheckG_any Ag _ cg (needsG s) w1 (hgr.le (st.le (by simp))) rfl (by simp [needsG]; omega) (fun l hl => by
        simp only [needsG, List.mem_map] at hl
        obtain ⟨z, hz, rfl⟩ := hl
        have := hs6 z hz; omega) (devs_in hall)) ?_
    refine xk_assign rfl (by decide) ?_
    refine XK.nilN ?_
    refine XK.ret ?_
    refine XK.norm ?_
    rw [firstE_map0 hall, firstE_cons0, show firstE [cycE (needsG s)] = cycE (needsG s) from by rw [firstE_if]; split <;> simp_all [firstE_nil]]
    exact XK.ret1 rfl rfl fun w1 st => ⟨rfl, st.below (by simp)⟩

theorem firstE_app : ∀ (a b : List Int), firstE (a ++ b) = if firstE a = 0 then firstE b else firstE a
  | [], b => by rw [List.nil_append, firstE_nil, if_pos rfl]
  | e :: a, b => by
    rw [List.cons_append, firstE_if, firstE_if (es := a)]
    by_cases h : e = 0
    · rw [if_pos h, if_pos h]; exact firstE_app a b
    · rw [if_neg h, if_neg h, if_neg h]
theorem resetE_if {r : Int} : resetE r = if 0 ≤ r ∧ r ≤ 20 then 0 else 3 := by
  unfold resetE
  cases h : withinB r 0 20 with
  | true => rw [within_iff] at h; rw [if_pos h]; rfl
  | false => rw [within_iff_f] at h; rw [if_neg h]; rfl
def chkA (s : Soc) : Int := firstE [firstE (s.clocks.map (clockE s.clocks.length)), cycE (clocksG s)]
def chkB (s : Soc) : Int := firstE [firstE (s.domains.map (domainE s.domains.length)), cycE (domsG s)]
def chkC (s : Soc) : Int := firstE (s.resets.map resetE)
def chkD (s : Soc) : Int := firstE [firstE (s.devs.map (deviceE s.clocks.length s.domains.length s.resets.length s.devs.length)), cycE (needsG s)]
theorem checkS_if (s : Soc) : checkS s = if fullE s = 0 then (if chkA s = 0 then (if chkB s = 0 then (if chkC s = 0 then chkD s else chkC s) else chkB s) else chkA s) else fullE s := by
  unfold checkS checkL
  rw [firstE_if]
  split
  · rw [show ∀ a b c d e f g : Int, [a, b, c, d, e, f, g] = [a, b] ++ ([c, d] ++ (e :: [f, g])) from fun _ _ _ _ _ _ _ => rfl, firstE_app, firstE_app, firstE_if (e := firstE (s.resets.map resetE))]
    rfl
  · rfl
theorem fullE_8 {s : Soc} (h : fullE s ≠ 0) : fullE s = 8 := by
  revert h
  unfold fullE
  split
  · intro _; rfl
  · intro h
    unfold firstE at h ⊢
    cases hf : (s.devs.map manyE).find? (fun e => decide (e ≠ 0)) with
    | none => rw [hf] at h; exact absurd rfl h
    | some x =>
      have h1 := List.mem_of_find?_eq_some hf
      have h2 := List.find?_some hf
      rw [List.mem_map] at h1
      obtain ⟨d, _, rfl⟩ := h1
      rw [manyE_eq] at h2 ⊢
      split
      · rfl
      · rename_i h3
        rw [if_neg h3] at h2
        simp at h2

theorem refChkG_any (s : Soc) (A1 A2 A3 A4 : Option Addr) (n1 k1 n2 k2 n3 k3 n4 k4 : Nat) (w : World) (hW : SocW w s A1 n1 A2 n2 A3 n3 A4 n4) : Calls Tryz.prog 29 #[.agg #[.slice A1 n1 k1, .slice A2 n2 k2, .slice A3 n3 k3, .slice A4 n4 k4]] w (Rt (.int .i64 (checkS s)) w) := by
  have hn1 := hW.len1
  have hn2 := hW.len2
  have hn3 := hW.len3
  have hn4 := hW.len4
  have hsm := hW.small
  unfold Soc.small at hsm
  obtain ⟨hs1, hs2, hs3, hs4, hs5, hs6⟩ := hsm
  have hck := checkS_if s
  refine XK.enter (vs := [.agg #[.slice A1 n1 k1, .slice A2 n2 k2, .slice A3 n3 k3, .slice A4 n4 k4]]) Tryz.func29 rfl Tryz.ntmps29 (by simp) ?_
  refine XK.seq ?_

  refine XK.region ?_
  refine xk_box rfl (by decide) fun g1 => ?_
  refine xk_assign rfl (by decide) ?_
  refine XK.nilN ?_
  refine XK.seq ?_
  refine XK.seq ?_

  refine XK.region ?_
  refine xk_ldN 4 rfl ?_
  refine xk_callR (f := 86) (fi := []) (ca := []) (by kernel_rfl) rfl rfl (by decide) (fun w1 st => refCountsG_any s A1 A2 A3 A4 n1 k1 n2 k2 n3 k3 n4 k4 w1 (hW.le (st.started (by simp)))) ?_
  refine xk_notD rfl (by decide) ?_
  refine XK.nilN ?_
  refine XK.if_ rfl (fun hfl => ?_) (fun hfl => ?_)
  ·
    refine XK.seq ?_

    refine XK.region ?_
    refine xk_assign rfl (by decide) ?_
    refine XK.nilN ?_
    refine XK.ret ?_
    refine XK.norm ?_
    rw [if_neg hfl, fullE_8 hfl] at hck
    rw [hck]
    exact XK.ret1 rfl rfl fun w1 st => ⟨rfl, st.below (by simp)⟩
  ·
    refine XK.skip ?_
    refine XK.norm ?_
    refine XK.seq ?_
    have hfl : fullE s = 0 := Classical.not_not.1 hfl
    rw [if_pos hfl] at hck

    refine XK.region ?_
    refine xk_ldN 4 rfl ?_
    refine xk_callR (f := 87) (fi := []) (ca := []) (by kernel_rfl) rfl rfl (by decide) (fun w1 st => refClocksG_any s A1 A2 A3 A4 n1 k1 n2 k2 n3 k3 n4 k4 w1 (hW.le (st.started (by simp))) hfl) ?_
    rw [show firstE [firstE (s.clocks.map (clockE s.clocks.length)), cycE (clocksG s)] = chkA s from rfl]
    refine xk_assign rfl (by decide) ?_
    refine XK.nilN ?_
    refine XK.seq ?_
    refine XK.seq ?_

    refine XK.region ?_
    refine xk_move rfl (by decide) ?_
    refine xk_neq rfl rfl (by decide) ?_
    refine XK.nilN ?_
    refine XK.if_ rfl (fun hA => ?_) (fun hA => ?_)
    ·
      refine XK.seq ?_

      refine XK.region ?_
      refine xk_move rfl (by decide) ?_
      refine xk_assign rfl (by decide) ?_
      refine XK.nilN ?_
      refine XK.ret ?_
      refine XK.norm ?_
      rw [if_neg hA] at hck
      rw [hck]
      exact XK.ret1 rfl rfl fun w1 st => ⟨rfl, st.below (by simp)⟩
    ·
      refine XK.skip ?_
      refine XK.norm ?_
      refine XK.seq ?_
      rw [if_pos (Classical.not_not.1 hA)] at hck

      refine XK.region ?_
      refine xk_ldN 4 rfl ?_
      refine xk_callR (f := 88) (fi := []) (ca := []) (by kernel_rfl) rfl rfl (by decide) (fun w1 st => refDomsG_any s A1 A2 A3 A4 n1 k1 n2 k2 n3 k3 n4 k4 w1 (hW.le (st.started (by simp))) hfl) ?_
      rw [show firstE [firstE (s.domains.map (domainE s.domains.length)), cycE (domsG s)] = chkB s from rfl]
      refine xk_assign rfl (by decide) ?_
      refine XK.nilN ?_
      refine XK.seq ?_
      refine XK.seq ?_

      refine XK.region ?_
      refine xk_move rfl (by decide) ?_
      refine xk_neq rfl rfl (by decide) ?_
      refine XK.nilN ?_
      refine XK.if_ rfl (fun hB => ?_) (fun hB => ?_)
      ·
        refine XK.seq ?_

        refine XK.region ?_
        refine xk_move rfl (by decide) ?_
        refine xk_assign rfl (by decide) ?_
        refine XK.nilN ?_
        refine XK.ret ?_
        refine XK.norm ?_
        rw [if_neg hB] at hck
        rw [hck]
        exact XK.ret1 rfl rfl fun w1 st => ⟨rfl, st.below (by simp)⟩
      ·
        refine XK.skip ?_
        refine XK.norm ?_
        refine XK.seq ?_
        refine XK.seq ?_
        rw [if_pos (Classical.not_not.1 hB)] at hck

        refine XK.region ?_
        refine xk_assign rfl (by decide) ?_
        refine XK.nilN ?_
        refine XK.envS [(4, .int .i64 0), (1, .pointer (some ⟨g1, 0, none⟩))] ?_
        refine XK.block ?_
        refine XK.loop (fun m e R H => ∃ (i : Nat), i ≤ n3 ∧ (∀ x ∈ s.resets.take i, resetE x = 0) ∧ m = n3 - i ∧ e = [(4, .int .i64 i), (1, .pointer (some ⟨g1, 0, none⟩))] ∧ R = [all w] ∧ H = [HP.blk g1 28 [.slice A1 n1 k1, .slice A2 n2 k2, .slice A3 n3 k3, .slice A4 n4 k4]]) n3 ⟨0, by omega, by simp, rfl, rfl, rfl, rfl⟩ fun m e R H hI => ?_
        obtain ⟨i, hi, hpre, rfl, rfl, rfl, rfl⟩ := hI
        refine XK.seq ?_
        refine XK.seq ?_

        refine XK.region ?_
        refine xk_move rfl (by decide) ?_
        refine xk_field (off := 2) (by kernel_rfl) rfl (by decide) ?_
        refine xk_ld rfl ?_
        refine xk_len (el := 71) (by kernel_rfl) rfl (by decide) ?_
        refine xk_lss rfl rfl (by decide) ?_
        refine XK.nilN ?_
        refine XK.if_ rfl (fun hil => ?_) (fun hil => ?_)
        ·
          refine XK.skip ?_
          refine XK.norm ?_
          refine XK.seq ?_
          refine XK.block ?_
          refine XK.seq ?_

          refine XK.region ?_
          refine xk_field (off := 2) (by kernel_rfl) rfl (by decide) ?_
          refine xk_ld rfl ?_
          refine xk_move rfl (by decide) ?_
          have hil' : i < n3 := by have h' : (i : Int) < (n3 : Int) := hil; omega
          obtain ⟨r0, hr0⟩ : ∃ r0, s.resets[i]? = some r0 := ⟨_, List.getElem?_eq_getElem (by omega)⟩
          obtain ⟨b, off, r, rfl, hrl, rfl, hro⟩ := hW.rst.row hr0
          have hrE := @resetE_if r0
          refine xk_at (i) (off + i * 1) (el := 71) (sz := 1) (by kernel_rfl) (by kernel_rfl) rfl rfl (by omega) (by omega) (by omega) (by decide) ?_
          refine xk_field (off := 0) (by kernel_rfl) rfl (by decide) ?_
          refine xk_load (by kernel_rfl) rfl (Rd.roc (by simp) (hro.at_ (j := 0) rfl)) (by decide) ?_
          refine xk_callR (f := 89) (fi := []) (ca := []) (by kernel_rfl) rfl rfl (by decide) (fun w1 st => refWithin5_any _ _ _ w1) ?_
          refine xk_notD rfl (by decide) ?_
          refine XK.nilN ?_
          refine XK.if_ rfl (fun hrn => ?_) (fun hrn => ?_)
          ·
            refine XK.seq ?_

            refine XK.region ?_
            refine xk_assign rfl (by decide) ?_
            refine XK.nilN ?_
            refine XK.ret ?_
            refine XK.norm ?_
            rw [if_neg hrn] at hrE
            have hC : chkC s = 3 := by rw [chkC, firstM_at hr0 hpre (by rw [hrE]; decide), hrE]
            rw [if_neg (by rw [hC]; decide), hC] at hck
            rw [hck]
            exact XK.ret1 rfl rfl fun w1 st => ⟨rfl, st.below (by simp)⟩
          ·
            refine XK.skip ?_
            refine XK.norm ?_

            refine XK.region ?_
            refine xk_move rfl (by decide) ?_
            refine xk_add rfl rfl (wrap_in (by omega)) (by decide) ?_
            refine xk_assign rfl (by decide) ?_
            refine XK.nilN ?_
            exact XK.envS [(4, .int .i64 ((i : Int) + 1)), (1, .pointer (some ⟨g1, 0, none⟩))] (XK.round (n3 - (i + 1)) (by omega) ⟨i + 1, by omega, take_snoc hr0 hpre (by rw [hrE, if_pos (Classical.not_not.1 hrn)]), rfl, rfl, rfl, rfl⟩)
        ·
          refine XK.exit ?_
          refine XK.norm ?_
          refine XK.seq ?_
          rw [if_pos (show chkC s = 0 from firstE_map0 (take_all (by omega) hpre))] at hck

          refine XK.region ?_
          refine xk_ldN 4 rfl ?_
          refine xk_callR (f := 90) (fi := []) (ca := []) (by kernel_rfl) rfl rfl (by decide) (fun w1 st => refDevsG_any s A1 A2 A3 A4 n1 k1 n2 k2 n3 k3 n4 k4 w1 (hW.le (st.started (by simp))) hfl) ?_
          rw [show firstE [firstE (s.devs.map (deviceE s.clocks.length s.domains.length s.resets.length s.devs.length)), cycE (needsG s)] = chkD s from rfl]
          refine xk_assign rfl (by decide) ?_
          refine XK.nilN ?_
          refine XK.ret ?_
          refine XK.norm ?_
          rw [hck]
          exact XK.ret1 rfl rfl fun w1 st => ⟨rfl, st.below (by simp)⟩

end Go.Proofs.YtgopaoidgcgalaaGreatDoor
/- Chapter 5's laws: digits, shown. -/
namespace Go.Proofs.YtgopaoidgcgalaaGreatDoor
set_option linter.all false
open Go.RowKit
theorem strOf_nil {l : List UInt8} : strOf l = ⟨#[]⟩ ↔ l = [] := by
  constructor
  · intro h
    have := congrArg (fun b : ByteArray => b.data.toList) h
    simpa [strOf] using this
  · rintro rfl; rfl

def shownT : List UInt8 := [99, 108, 111, 99, 107, 32, 111, 32, 53, 10, 100, 111, 109, 97, 105, 110, 32, 45, 32, 48, 32, 108, 111, 115, 101, 10, 114, 101, 115, 101, 116, 32, 49, 10, 100, 101, 118, 105, 99, 101, 32, 48, 32, 48, 32, 48, 32, 55, 10, 114, 101, 103, 32, 51, 32, 107, 101, 101, 112, 10]
def shownS : Soc := ⟨[⟨111, [], 5, 0, 0, 0⟩], [⟨-1, 0, false⟩], [1], [⟨0, 0, 0, 7, [⟨3, true⟩], []⟩]⟩
theorem shown_parse : parseF (strOf shownT) = (0, shownS) := by
  have h : readF (strOf shownT) = some shownS := by rfl
  unfold parseF
  rw [h]
  rfl
theorem RsR.rowP {α : Type} {p : Piece} {R : α → List Value → Prop} {t : TypeId} {sz n : Nat} {A : Option Addr} {es : List α} (h : RsR (slq p) R t sz A n es) {k : Nat} {e : α} (hk : es[k]? = some e) :
    ∃ b off r, A = some ⟨b, off, none⟩ ∧ r.length = sz ∧ R e r ∧ p.Z b ∧ ∀ f u, r[f]? = some u → p.w.cell? ⟨b, off + k * sz + f, none⟩ = some u := by
  obtain ⟨rows, h1, h2, h3⟩ := h
  have hke := (List.getElem?_eq_some_iff.1 hk).1
  have hl := h1.len.1
  obtain ⟨r, hr⟩ : ∃ r, rows[k]? = some r := ⟨_, List.getElem?_eq_getElem (by omega)⟩
  obtain ⟨e', he, hrl, hR⟩ := h1.at_ hr
  rw [hk] at he
  cases he
  obtain ⟨b, off, hA, hz, hc⟩ := SlS.at_ h3 (k := k) (by omega)
  refine ⟨b, off, r, hA, hrl, hR, hz, fun f u hu => hc f u ?_⟩
  have hf : f < sz := by rw [← hrl]; exact (List.getElem?_eq_some_iff.1 hu).1
  have := flat_get (fun x : List Value => x) sz rows h1.all_len k f r hr hf
  rw [List.flatMap_id'] at this
  rw [this]; exact hu
theorem RsR.len {α : Type} {S : SlP} {R : α → List Value → Prop} {t : TypeId} {sz n : Nat} {A : Option Addr} {es : List α} (h : RsR S R t sz A n es) : n = es.length := by obtain ⟨_, _, h, _⟩ := h; exact h

theorem xk_eqlV {P : Program} {N : Frm} {w0 : World} {e : Env} {R : List Piece} {H : List HP} {Q : Exit → Act → World → Prop} {ops : Array Oper} {rest : List Oper} {d : Nat} {ty : TypeId} {pos : String} {aft : Array Edge} {x y : Operand} {t u : TypeId} {a b : Value} (r : Bool) (hx : e.ev x = some a) (hy : e.ev y = some b)
    (hrun : ∀ (ev : Operand → Value) (w : World), ev x = a → ev y = b → (execOp ev ⟨some d, .binOp .eql t x y u, ty, pos, aft, none⟩).run P w = .ok (.value (.bool r)) w) (hd : d < N.n) (k : XK N w0 (wpList P ops Q rest) ((d, .bool r) :: e) R H) :
    XK N w0 (wpList P ops Q (⟨some d, .binOp .eql t x y u, ty, pos, aft, none⟩ :: rest)) e R H := xk_pure hd (fun a' w hr => hrun _ w (hr.ev hx) (hr.ev hy)) k
theorem shown5_ok (mm : Int) (w : World) (hM : ROc w 0 0 (.int .i64 mm)) :
    Calls Tryz.prog 10 #[] w (Rt (.bool true) w) := by
  refine XK.enter (vs := []) Tryz.func10 rfl Tryz.ntmps10 (by simp) ?_
  refine XK.seq ?_

  refine XK.region ?_
  refine xk_assign rfl (by decide) ?_
  refine XK.nilN ?_
  refine XK.seq ?_

  refine XK.region ?_
  refine xk_call [] (f := 11) (fi := []) (ca := []) (by kernel_rfl) rfl rfl (by decide) (by simp) (fun v w w' => ∃ cs, v = .tuple #[.agg cs, .int .i64 0] ∧ SocR (slq (fresh w w')) shownS cs) (fun w1 st => (parse_ok (strOf shownT) mm w1 ⟨Nat.lt_of_lt_of_le hM.1 (st.below (by simp)).size, hM.go (st.below (by simp))⟩).mono fun y w' h => by
    obtain ⟨⟨cs, h1, h2⟩, h3⟩ := h
    rw [shown_parse] at h1 h2
    exact ⟨⟨_, h1, cs, rfl, h2⟩, h3⟩) ?_
  rintro _ w1 q ⟨_, rfl, A1, n1, c1, A2, n2, c2, A3, n3, c3, A4, n4, c4, rfl, r1, r2, r3, r4⟩ hq _ _
  have hl := slq_le hq
  have r1 := r1.mono hl (fun _ _ => ClkR.mono hl)
  have r2 := r2.mono hl (fun _ _ h => h)
  have r3 := r3.mono hl (fun _ _ h => h)
  have r4 := r4.mono hl (fun _ _ => DevR.mono hl)
  obtain rfl : n1 = 1 := r1.len
  obtain rfl : n2 = 1 := r2.len
  obtain rfl : n3 = 1 := r3.len
  obtain rfl : n4 = 1 := r4.len
  obtain ⟨b1, o1, row1, rfl, _, ⟨Af, nf, kf, rfl, _, _⟩, hz1, hc1⟩ := RsR.rowP r1 (k := 0) rfl
  obtain ⟨b4, o4, row4, rfl, _, ⟨Ar, nr, kr, An, nn, kn, rfl, rfl, _, hreg, _⟩, hz4, hc4⟩ := RsR.rowP r4 (k := 0) rfl
  obtain ⟨br, orr, rfl, hzr, hcr⟩ := hreg.2 (by decide)
  refine xk_move rfl (by decide) ?_
  refine xk_extract rfl rfl (by decide) ?_
  refine xk_extract rfl rfl (by decide) ?_
  refine xk_alloc (cs := [.slice none 0 0, .slice none 0 0, .slice none 0 0, .slice none 0 0]) (zeroB_of (by kernel_rfl)) (by decide) fun g1 => ?_
  (first | (refine xk_storeN 0 rfl rfl rfl (by kernel_rfl) (by simp [Value.cells, Value.oneCell']) (by simp [Value.cells]) ?_) | (refine xk_storeN 1 rfl rfl rfl (by kernel_rfl) (by simp [Value.cells, Value.oneCell']) (by simp [Value.cells]) ?_) | (refine xk_storeN 2 rfl rfl rfl (by kernel_rfl) (by simp [Value.cells, Value.oneCell']) (by simp [Value.cells]) ?_) | (refine xk_storeN 3 rfl rfl rfl (by kernel_rfl) (by simp [Value.cells, Value.oneCell']) (by simp [Value.cells]) ?_) | (refine xk_storeN 4 rfl rfl rfl (by kernel_rfl) (by simp [Value.cells, Value.oneCell']) (by simp [Value.cells]) ?_) | (refine xk_storeN 5 rfl rfl rfl (by kernel_rfl) (by simp [Value.cells, Value.oneCell']) (by simp [Value.cells]) ?_) | (refine xk_storeN 6 rfl rfl rfl (by kernel_rfl) (by simp [Value.cells, Value.oneCell']) (by simp [Value.cells]) ?_) | (refine xk_storeN 7 rfl rfl rfl (by kernel_rfl) (by simp [Value.cells, Value.oneCell']) (by simp [Value.cells]) ?_) | (refine xk_storeN 8 rfl rfl rfl (by kernel_rfl) (by simp [Value.cells, Value.oneCell']) (by simp [Value.cells]) ?_)); simp only [putN, Value.cells, List.set, List.take, List.drop, List.nil_append, List.append_nil, List.length_cons, List.length_nil, List.cons_append, Nat.reduceAdd]
  refine xk_assign rfl (by decide) ?_
  refine XK.nilN ?_
  refine XK.seq ?_

  refine XK.region ?_
  refine xk_move rfl (by decide) ?_
  refine xk_eql rfl rfl (by decide) ?_
  refine xk_move rfl (by decide) ?_
  refine xk_isV (t := 9) true rfl (by first | (exact decide_eq_true (by omega)) | (exact decide_eq_false (by omega)) | rfl | assumption | (simp_all; done)) ?_
  refine xk_guardT rfl rfl ?_; refine xk_field (off := 0) (by kernel_rfl) rfl (by decide) ?_
  refine xk_guardT rfl rfl ?_; refine xk_ld rfl ?_
  refine xk_guardT rfl rfl ?_; refine xk_len (el := 55) (by kernel_rfl) rfl (by decide) ?_
  refine xk_guardT rfl rfl ?_; refine xk_eql rfl rfl (by decide) ?_
  (first | refine xk_pickT rfl rfl (by decide) ?_ | refine xk_pickF rfl rfl (by decide) ?_)
  refine xk_move rfl (by decide) ?_
  refine xk_isV (t := 15) true rfl (by first | (exact decide_eq_true (by omega)) | (exact decide_eq_false (by omega)) | rfl | assumption | (simp_all; done)) ?_
  refine xk_guardT rfl rfl ?_; refine xk_field (off := 0) (by kernel_rfl) rfl (by decide) ?_
  refine xk_guardT rfl rfl ?_; refine xk_ld rfl ?_
  refine xk_guardT rfl rfl ?_; refine xk_at 0 (o1 + 0 * 6) (el := 55) (sz := 6) (by kernel_rfl) (by kernel_rfl) rfl rfl rfl (by decide) (by omega) (by decide) ?_
  refine xk_guardT rfl rfl ?_; refine xk_field (off := 2) (by kernel_rfl) rfl (by decide) ?_
  refine xk_guardT rfl rfl ?_; refine xk_load (by kernel_rfl) rfl (Rd.ro (p := q) (by simp) hz1 (hc1 2 _ rfl)) (by decide) ?_
  refine xk_guardT rfl rfl ?_; refine xk_eql rfl rfl (by decide) ?_
  (first | refine xk_pickT rfl rfl (by decide) ?_ | refine xk_pickF rfl rfl (by decide) ?_)
  refine xk_move rfl (by decide) ?_
  refine xk_isV (t := 23) true rfl (by first | (exact decide_eq_true (by omega)) | (exact decide_eq_false (by omega)) | rfl | assumption | (simp_all; done)) ?_
  refine xk_guardT rfl rfl ?_; refine xk_field (off := 1) (by kernel_rfl) rfl (by decide) ?_
  refine xk_guardT rfl rfl ?_; refine xk_ld rfl ?_
  refine xk_guardT rfl rfl ?_; refine xk_len (el := 69) (by kernel_rfl) rfl (by decide) ?_
  refine xk_guardT rfl rfl ?_; refine xk_eql rfl rfl (by decide) ?_
  (first | refine xk_pickT rfl rfl (by decide) ?_ | refine xk_pickF rfl rfl (by decide) ?_)
  refine xk_move rfl (by decide) ?_
  refine xk_isV (t := 29) true rfl (by first | (exact decide_eq_true (by omega)) | (exact decide_eq_false (by omega)) | rfl | assumption | (simp_all; done)) ?_
  refine xk_guardT rfl rfl ?_; refine xk_field (off := 2) (by kernel_rfl) rfl (by decide) ?_
  refine xk_guardT rfl rfl ?_; refine xk_ld rfl ?_
  refine xk_guardT rfl rfl ?_; refine xk_len (el := 71) (by kernel_rfl) rfl (by decide) ?_
  refine xk_guardT rfl rfl ?_; refine xk_eql rfl rfl (by decide) ?_
  (first | refine xk_pickT rfl rfl (by decide) ?_ | refine xk_pickF rfl rfl (by decide) ?_)
  refine xk_move rfl (by decide) ?_
  refine xk_isV (t := 35) true rfl (by first | (exact decide_eq_true (by omega)) | (exact decide_eq_false (by omega)) | rfl | assumption | (simp_all; done)) ?_
  refine xk_guardT rfl rfl ?_; refine xk_field (off := 3) (by kernel_rfl) rfl (by decide) ?_
  refine xk_guardT rfl rfl ?_; refine xk_ld rfl ?_
  refine xk_guardT rfl rfl ?_; refine xk_len (el := 51) (by kernel_rfl) rfl (by decide) ?_
  refine xk_guardT rfl rfl ?_; refine xk_eql rfl rfl (by decide) ?_
  (first | refine xk_pickT rfl rfl (by decide) ?_ | refine xk_pickF rfl rfl (by decide) ?_)
  refine xk_move rfl (by decide) ?_
  refine xk_isV (t := 41) true rfl (by first | (exact decide_eq_true (by omega)) | (exact decide_eq_false (by omega)) | rfl | assumption | (simp_all; done)) ?_
  refine xk_guardT rfl rfl ?_; refine xk_field (off := 3) (by kernel_rfl) rfl (by decide) ?_
  refine xk_guardT rfl rfl ?_; refine xk_ld rfl ?_
  refine xk_guardT rfl rfl ?_; refine xk_at 0 (o4 + 0 * 6) (el := 51) (sz := 6) (by kernel_rfl) (by kernel_rfl) rfl rfl rfl (by decide) (by omega) (by decide) ?_
  refine xk_guardT rfl rfl ?_; refine xk_field (off := 3) (by kernel_rfl) rfl (by decide) ?_
  refine xk_guardT rfl rfl ?_; refine xk_load (by kernel_rfl) rfl (Rd.ro (p := q) (by simp) hz4 (hc4 3 _ rfl)) (by decide) ?_
  refine xk_guardT rfl rfl ?_; refine xk_eql rfl rfl (by decide) ?_
  (first | refine xk_pickT rfl rfl (by decide) ?_ | refine xk_pickF rfl rfl (by decide) ?_)
  refine xk_move rfl (by decide) ?_
  refine xk_isV (t := 49) true rfl (by first | (exact decide_eq_true (by omega)) | (exact decide_eq_false (by omega)) | rfl | assumption | (simp_all; done)) ?_
  refine xk_guardT rfl rfl ?_; refine xk_field (off := 3) (by kernel_rfl) rfl (by decide) ?_
  refine xk_guardT rfl rfl ?_; refine xk_ld rfl ?_
  refine xk_guardT rfl rfl ?_; refine xk_at 0 (o4 + 0 * 6) (el := 51) (sz := 6) (by kernel_rfl) (by kernel_rfl) rfl rfl rfl (by decide) (by omega) (by decide) ?_
  refine xk_guardT rfl rfl ?_; refine xk_field (off := 4) (by kernel_rfl) rfl (by decide) ?_
  refine xk_guardT rfl rfl ?_; refine xk_load (by kernel_rfl) rfl (Rd.ro (p := q) (by simp) hz4 (hc4 4 _ rfl)) (by decide) ?_
  refine xk_guardT rfl rfl ?_; refine xk_len (el := 57) (by kernel_rfl) rfl (by decide) ?_
  refine xk_guardT rfl rfl ?_; refine xk_eql rfl rfl (by decide) ?_
  (first | refine xk_pickT rfl rfl (by decide) ?_ | refine xk_pickF rfl rfl (by decide) ?_)
  refine xk_move rfl (by decide) ?_
  refine xk_isV (t := 58) true rfl (by first | (exact decide_eq_true (by omega)) | (exact decide_eq_false (by omega)) | rfl | assumption | (simp_all; done)) ?_
  refine xk_guardT rfl rfl ?_; refine xk_field (off := 3) (by kernel_rfl) rfl (by decide) ?_
  refine xk_guardT rfl rfl ?_; refine xk_ld rfl ?_
  refine xk_guardT rfl rfl ?_; refine xk_at 0 (o4 + 0 * 6) (el := 51) (sz := 6) (by kernel_rfl) (by kernel_rfl) rfl rfl rfl (by decide) (by omega) (by decide) ?_
  refine xk_guardT rfl rfl ?_; refine xk_field (off := 4) (by kernel_rfl) rfl (by decide) ?_
  refine xk_guardT rfl rfl ?_; refine xk_load (by kernel_rfl) rfl (Rd.ro (p := q) (by simp) hz4 (hc4 4 _ rfl)) (by decide) ?_
  refine xk_guardT rfl rfl ?_; refine xk_at 0 (orr + 0 * 2) (el := 57) (sz := 2) (by kernel_rfl) (by kernel_rfl) rfl rfl rfl (by decide) (by omega) (by decide) ?_
  refine xk_guardT rfl rfl ?_; refine xk_loadN 2 (by kernel_rfl) rfl (RdN.of (vs := [.int .u32 3, .bool true]) fun j v hv => Rd.ro (p := q) (by simp) hzr (by rw [Nat.add_assoc]; exact hcr (0 * 2 + j) v (by rw [Nat.zero_mul, Nat.zero_add]; exact hv))) rfl (by decide) ?_
  refine xk_guardT rfl rfl ?_; refine xk_buildS (zs := [.int .u32 0, .bool false]) (L := [(0, 1), (1, 1)]) (zeroB_of (by kernel_rfl)) (by kernel_rfl) rfl (by simp [fillL, setN, Value.cells]; rfl) (by decide) ?_
  refine xk_guardT rfl rfl ?_; refine xk_eqlV true rfl rfl (fun ev w h1 h2 => by simp [execOp, h1, h2, run_eqGuard_agg (hm := (by kernel_rfl)), run_eql_struct, run_equalIn_agg (ht := (by kernel_rfl)) (hp := (by kernel_rfl)), go_sem]) (by decide) ?_
  (first | refine xk_pickT rfl rfl (by decide) ?_ | refine xk_pickF rfl rfl (by decide) ?_)
  refine xk_assign rfl (by decide) ?_
  refine XK.nilN ?_
  refine XK.ret ?_
  refine XK.norm ?_
  exact XK.ret1 rfl rfl fun w1 st => ⟨rfl, st.below (by simp)⟩

end Go.Proofs.YtgopaoidgcgalaaGreatDoor
/- A printed text, byte by byte: where its lines end. In plain words. -/
namespace Go.Proofs.YtgopaoidgcgalaaGreatDoor
set_option linter.all false
open Go.RowKit
/-- the walk over a text of the items l: behind pre, j bytes within the next line -/
structure Scan (l pre suf : List Item) (j : Nat) : Prop where
  eq : l = pre ++ suf
  nil : suf = [] → j = 0
  le : ∀ it r, suf = it :: r → j ≤ it.line.length
theorem Scan.text {l pre suf : List Item} {j : Nat} (h : Scan l pre suf j) : itemsT l = itemsT pre ++ itemsT suf := by rw [h.eq, itemsT_app]
theorem Scan.start (l : List Item) : Scan l [] l 0 := ⟨rfl, fun _ => rfl, fun _ _ _ => Nat.zero_le _⟩
/-- at a place of the text -/
theorem Scan.at_ {l pre suf : List Item} {j : Nat} (h : Scan l pre suf j) (hcan : ∀ i ∈ l, i.can) (hi : (itemsT pre).length + j < (itemsT l).length) :
    ∃ it r, suf = it :: r ∧ it.can ∧ j ≤ it.line.length ∧ ((itemsT l)[(itemsT pre).length + j]?.getD 0 = 10 ↔ j = it.line.length) := by
  cases suf with
  | nil =>
    rw [h.text, h.nil rfl] at hi
    simp [itemsT, unlines] at hi
  | cons it r =>
    have hj := h.le it r rfl
    have hit : it.can := hcan it (by rw [h.eq]; simp)
    refine ⟨it, r, rfl, hit, hj, ?_⟩
    rw [h.text, List.getElem?_append_right (Nat.le_add_right _ _), Nat.add_sub_cancel_left, itemsT_cons]
    rcases Nat.lt_or_ge j it.line.length with hl | hl
    · rw [List.getElem?_append_left hl, List.getElem?_eq_getElem hl]
      refine ⟨fun he => ?_, fun he => by omega⟩
      exact absurd (he ▸ List.getElem_mem hl : (10 : UInt8) ∈ it.line) (Item.line_no hit)
    · have : j = it.line.length := by omega
      rw [List.getElem?_append_right hl, this, Nat.sub_self]
      simp
theorem Scan.step {l pre suf : List Item} {j : Nat} {it : Item} {r : List Item} (h : Scan l pre suf j) (hs : suf = it :: r) (hj : j ≠ it.line.length) : Scan l pre suf (j + 1) := by
  refine ⟨h.eq, fun he => (by rw [he] at hs; cases hs), fun it' r' he => ?_⟩
  rw [he] at hs
  cases hs
  have := h.le it r he
  omega
theorem Scan.line {l pre suf : List Item} {j : Nat} {it : Item} {r : List Item} (h : Scan l pre suf j) (hs : suf = it :: r) : Scan l (pre ++ [it]) r 0 ∧ (itemsT (pre ++ [it])).length = (itemsT pre).length + it.line.length + 1 := by
  refine ⟨⟨by rw [h.eq, hs]; simp, fun _ => rfl, fun _ _ _ => Nat.zero_le _⟩, ?_⟩
  rw [itemsT_app, List.length_append, show itemsT [it] = it.line ++ [10] from by simp [itemsT, unlines], List.length_append]
  simp; omega
theorem extract_strOf (l : List UInt8) (i j : Nat) : (strOf l).extract i j = strOf ((l.drop i).take (j - i)) := by
  apply ByteArray.ext
  simp [strOf, ByteArray.data_extract, List.extract_eq_take_drop]
/-- the line, and its first bytes -/
theorem Scan.cut {l pre suf : List Item} {j : Nat} {it : Item} {r : List Item} (h : Scan l pre suf j) (hs : suf = it :: r) (k : Nat) (hk : k ≤ it.line.length + 1) :
    ((itemsT l).drop (itemsT pre).length).take k = (it.line ++ [10]).take k ∧ (itemsT pre).length + k ≤ (itemsT l).length := by
  have ht := h.text
  rw [hs, itemsT_cons] at ht
  constructor
  · rw [ht, List.drop_left, show it.line ++ 10 :: itemsT r = (it.line ++ [10]) ++ itemsT r from by simp, List.take_append_of_le_length (by simp; omega)]
  · rw [ht]; simp; omega
/-- is it a device, or a register? -/
def Item.dv : Item → Bool
  | .dev _ => true
  | .reg _ => true
  | _ => false
/-- which of the other kinds -/
def Item.kd : Item → Nat
  | .res _ => 0
  | .dom _ => 1
  | .clk _ => 2
  | _ => 3
/-! ### the kinds apart -/
end Go.Proofs.YtgopaoidgcgalaaGreatDoor
/- The reference's words. -/
namespace Go.Proofs.YtgopaoidgcgalaaGreatDoor
set_option linter.all false
open Go.RowKit

theorem refNum_ok (s : ByteArray) (hs : s.size < 4294967296) (w : World) :
    Calls Tryz.prog 14 #[.string s] w (Rt (numV (numF s)) w) := by
  refine XK.enter (vs := [.string s]) Tryz.func14 rfl Tryz.ntmps14 (by simp) ?_
  refine XK.seq ?_

  refine XK.region ?_
  refine xk_assign rfl (by decide) ?_
  refine xk_assign rfl (by decide) ?_
  refine XK.nilN ?_
  refine XK.seq ?_
  refine XK.cutB 23 (s.size < 1 ∨ 15 < s.size ∨ (1 < s.size ∧ ((bAt s 0).toNat : Int) = 48)) ?_ ?_
  · skip

    refine XK.region ?_
    refine xk_move rfl (by decide) ?_
    refine xk_lenS (by kernel_rfl) rfl (by decide) ?_
    refine xk_lss rfl rfl (by decide) ?_
    refine xk_move rfl (by decide) ?_
    refine xk_split (t := 9) rfl (fun hg9 => ?_) (fun hg9 => ?_)
    ·
      refine xk_guardF rfl rfl rfl (by decide) ?_
      refine xk_guardF rfl rfl rfl (by decide) ?_
      refine xk_guardF rfl rfl rfl (by decide) ?_
      (first | refine xk_pickT rfl rfl (by decide) ?_ | refine xk_pickF rfl rfl (by decide) ?_)
      refine xk_move rfl (by decide) ?_
      refine xk_guardF rfl rfl rfl (by decide) ?_
      refine xk_guardF rfl rfl rfl (by decide) ?_
      refine xk_guardF rfl rfl rfl (by decide) ?_
      refine xk_guardF rfl rfl rfl (by decide) ?_
      refine xk_guardU rfl rfl (by decide) ?_
      refine xk_guardU rfl rfl (by decide) ?_
      refine xk_guardU rfl rfl (by decide) ?_
      refine xk_guardF rfl rfl rfl (by decide) ?_
      (first | refine xk_pickT rfl rfl (by decide) ?_ | refine xk_pickF rfl rfl (by decide) ?_)
      refine XK.nilN ?_
      exact XK.meetB (by repeat (first | exact trivial | refine ⟨rfl, ?_⟩)) (by first | (refine get_iff rfl ?_; omega) | (refine get_true rfl ?_; omega) | (refine get_false rfl ?_; omega))
    ·
      refine xk_guardT rfl rfl ?_; refine xk_move rfl (by decide) ?_
      refine xk_guardT rfl rfl ?_; refine xk_lenS (by kernel_rfl) rfl (by decide) ?_
      refine xk_guardT rfl rfl ?_; refine xk_gtr rfl rfl (by decide) ?_
      (first | refine xk_pickT rfl rfl (by decide) ?_ | refine xk_pickF rfl rfl (by decide) ?_)
      refine xk_move rfl (by decide) ?_
      refine xk_split (t := 14) rfl (fun hg14 => ?_) (fun hg14 => ?_)
      ·
        refine xk_guardF rfl rfl rfl (by decide) ?_
        refine xk_guardF rfl rfl rfl (by decide) ?_
        refine xk_guardF rfl rfl rfl (by decide) ?_
        refine xk_guardF rfl rfl rfl (by decide) ?_
        refine xk_guardU rfl rfl (by decide) ?_
        refine xk_guardU rfl rfl (by decide) ?_
        refine xk_guardU rfl rfl (by decide) ?_
        refine xk_guardF rfl rfl rfl (by decide) ?_
        (first | refine xk_pickT rfl rfl (by decide) ?_ | refine xk_pickF rfl rfl (by decide) ?_)
        refine XK.nilN ?_
        exact XK.meetB (by repeat (first | exact trivial | refine ⟨rfl, ?_⟩)) (by first | (refine get_iff rfl ?_; omega) | (refine get_true rfl ?_; omega) | (refine get_false rfl ?_; omega))
      ·
        refine xk_guardT rfl rfl ?_; refine xk_move rfl (by decide) ?_
        refine xk_guardT rfl rfl ?_; refine xk_byte 0 (by kernel_rfl) rfl rfl rfl (bAt_get (by omega)) (by decide) ?_
        refine xk_guardT rfl rfl ?_; refine xk_eql rfl rfl (by decide) ?_
        refine xk_guardT rfl rfl ?_; refine xk_move rfl (by decide) ?_
        refine xk_split (t := 18) rfl (fun hg18 => ?_) (fun hg18 => ?_)
        ·
          refine xk_guardT rfl rfl ?_; refine xk_move rfl (by decide) ?_
          refine xk_guardT rfl rfl ?_; refine xk_lenS (by kernel_rfl) rfl (by decide) ?_
          refine xk_guardT rfl rfl ?_; refine xk_gtr rfl rfl (by decide) ?_
          refine xk_guardT rfl rfl ?_; (first | refine xk_pickT rfl rfl (by decide) ?_ | refine xk_pickF rfl rfl (by decide) ?_)
          (first | refine xk_pickT rfl rfl (by decide) ?_ | refine xk_pickF rfl rfl (by decide) ?_)
          refine XK.nilN ?_
          exact XK.meetB (by repeat (first | exact trivial | refine ⟨rfl, ?_⟩)) (by first | (refine get_iff rfl ?_; omega) | (refine get_true rfl ?_; omega) | (refine get_false rfl ?_; omega))
        ·
          refine xk_guardF rfl rfl rfl (by decide) ?_
          refine xk_guardF rfl rfl rfl (by decide) ?_
          refine xk_guardF rfl rfl rfl (by decide) ?_
          refine xk_guardT rfl rfl ?_; (first | refine xk_pickT rfl rfl (by decide) ?_ | refine xk_pickF rfl rfl (by decide) ?_)
          (first | refine xk_pickT rfl rfl (by decide) ?_ | refine xk_pickF rfl rfl (by decide) ?_)
          refine XK.nilN ?_
          exact XK.meetB (by repeat (first | exact trivial | refine ⟨rfl, ?_⟩)) (by first | (refine get_iff rfl ?_; omega) | (refine get_true rfl ?_; omega) | (refine get_false rfl ?_; omega))
  refine XK.if_ rfl (fun hbad => ?_) (fun hbad => ?_)
  ·
    refine XK.seq ?_

    refine XK.region ?_
    refine xk_assign rfl (by decide) ?_
    refine xk_assign rfl (by decide) ?_
    refine XK.nilN ?_
    refine XK.ret ?_
    refine XK.norm ?_
    have hn : numF s = none := if_pos hbad
    exact XK.ret2 rfl rfl rfl fun w1 st => ⟨by rw [hn]; rfl, st.below (by simp)⟩
  ·
    refine XK.skip ?_
    refine XK.norm ?_
    refine XK.seq ?_

    refine XK.region ?_
    refine xk_assign rfl (by decide) ?_
    refine XK.nilN ?_
    refine XK.seq ?_
    refine XK.seq ?_

    refine XK.region ?_
    refine xk_assign rfl (by decide) ?_
    refine XK.nilN ?_
    refine XK.envS [(5, .int .i64 0), (4, .int .u64 0), (3, .bool false), (2, .int .u64 0), (0, .string s)] ?_
    refine XK.block ?_
    refine XK.loop (fun m e R H => ∃ (k n : Nat), k ≤ s.size ∧ n < 10 ^ k ∧ numF s = digL (s.data.toList.drop k) n ∧ m = s.size - k ∧ e = [(5, .int .i64 (k : Int)), (4, .int .u64 (n : Int)), (3, .bool false), (2, .int .u64 0), (0, .string s)] ∧ R = [all w] ∧ H = []) s.size ⟨0, 0, by omega, by omega, if_neg hbad, rfl, rfl, rfl, rfl⟩ fun m e R H hI => ?_
    obtain ⟨k, n, hk, hn, hnum, rfl, rfl, rfl, rfl⟩ := hI
    refine XK.seq ?_
    refine XK.seq ?_

    refine XK.region ?_
    refine xk_move rfl (by decide) ?_
    refine xk_move rfl (by decide) ?_
    refine xk_lenS (by kernel_rfl) rfl (by decide) ?_
    refine xk_lss rfl rfl (by decide) ?_
    refine XK.nilN ?_
    refine XK.if_ rfl (fun hlt => ?_) (fun hlt => ?_)
    have hks : k < s.size := by omega
    rw [drop_bAt hks, digL] at hnum
    have hsz : s.size ≤ 15 := by omega
    have hp1 := Nat.pow_le_pow_right (n := 10) (by omega) (show k ≤ 14 by omega)
    have hpk : 10 ^ (k + 1) = 10 ^ k * 10 := Nat.pow_succ 10 k
    ·
      refine XK.skip ?_
      refine XK.norm ?_
      refine XK.seq ?_
      refine XK.block ?_
      refine XK.seq ?_
      refine XK.cutB 39 ((bAt s k).toNat < 48 ∨ 57 < (bAt s k).toNat) ?_ ?_
      · skip

        refine XK.region ?_
        refine xk_move rfl (by decide) ?_
        refine xk_move rfl (by decide) ?_
        refine xk_byte k (by kernel_rfl) rfl rfl rfl (bAt_get hks) (by decide) ?_
        refine xk_lss rfl rfl (by decide) ?_
        refine xk_move rfl (by decide) ?_
        refine xk_split (t := 34) rfl (fun hg34 => ?_) (fun hg34 => ?_)
        ·
          refine xk_guardF rfl rfl rfl (by decide) ?_
          refine xk_guardF rfl rfl rfl (by decide) ?_
          refine xk_guardF rfl rfl rfl (by decide) ?_
          refine xk_guardF rfl rfl rfl (by decide) ?_
          (first | refine xk_pickT rfl rfl (by decide) ?_ | refine xk_pickF rfl rfl (by decide) ?_)
          refine XK.nilN ?_
          exact XK.meetB (by repeat (first | exact trivial | refine ⟨rfl, ?_⟩)) (by first | (refine get_iff rfl ?_; omega) | (refine get_true rfl ?_; omega) | (refine get_false rfl ?_; omega))
        ·
          refine xk_guardT rfl rfl ?_; refine xk_move rfl (by decide) ?_
          refine xk_guardT rfl rfl ?_; refine xk_move rfl (by decide) ?_
          refine xk_guardT rfl rfl ?_; refine xk_byte k (by kernel_rfl) rfl rfl rfl (bAt_get hks) (by decide) ?_
          refine xk_guardT rfl rfl ?_; refine xk_gtr rfl rfl (by decide) ?_
          (first | refine xk_pickT rfl rfl (by decide) ?_ | refine xk_pickF rfl rfl (by decide) ?_)
          refine XK.nilN ?_
          exact XK.meetB (by repeat (first | exact trivial | refine ⟨rfl, ?_⟩)) (by first | (refine get_iff rfl ?_; omega) | (refine get_true rfl ?_; omega) | (refine get_false rfl ?_; omega))
      refine XK.if_ rfl (fun hb => ?_) (fun hb => ?_)
      ·
        refine XK.seq ?_

        refine XK.region ?_
        refine xk_assign rfl (by decide) ?_
        refine xk_assign rfl (by decide) ?_
        refine XK.nilN ?_
        refine XK.ret ?_
        refine XK.norm ?_
        rw [if_pos hb] at hnum
        exact XK.ret2 rfl rfl rfl fun w1 st => ⟨by rw [hnum]; rfl, st.below (by simp)⟩
      ·
        refine XK.skip ?_
        refine XK.norm ?_
        rw [if_neg hb] at hnum
        have hb8 : (bAt s k).toNat < 256 := (bAt s k).toNat_lt

        refine XK.region ?_
        refine xk_move rfl (by decide) ?_
        refine xk_mul rfl rfl (wrap_u64 (by omega)) (by decide) ?_
        refine xk_move rfl (by decide) ?_
        refine xk_move rfl (by decide) ?_
        refine xk_byte k (by kernel_rfl) rfl rfl rfl (bAt_get hks) (by decide) ?_
        refine xk_sub rfl rfl (wrap_u8 (by omega)) (by decide) ?_
        refine xk_conv (ds := .int .u8) (by kernel_rfl) (by kernel_rfl) rfl (wrap_u64 (by omega)) (by decide) ?_
        refine xk_add rfl rfl (wrap_u64 (by omega)) (by decide) ?_
        refine xk_assign rfl (by decide) ?_
        refine XK.nilN ?_

        refine XK.region ?_
        refine xk_move rfl (by decide) ?_
        refine xk_add rfl rfl (wrap_in (by omega)) (by decide) ?_
        refine xk_assign rfl (by decide) ?_
        refine XK.nilN ?_
        exact XK.env [(5, .int .i64 ((k + 1 : Nat) : Int)), (4, .int .u64 ((n * 10 + ((bAt s k).toNat - 48) : Nat) : Int)), (3, .bool false), (2, .int .u64 0), (0, .string s)] ⟨rfl, by rw [show ((n * 10 + ((bAt s k).toNat - 48) : Nat) : Int) = 10 * (n : Int) + (((bAt s k).toNat : Int) - 48) by omega]; rfl, rfl, rfl, rfl, trivial⟩ (XK.round _ (by omega) ⟨k + 1, _, by omega, by omega, hnum, rfl, rfl, rfl, rfl⟩)
    ·
      refine XK.exit ?_
      refine XK.norm ?_
      refine XK.seq ?_

      refine XK.region ?_
      refine xk_move rfl (by decide) ?_
      refine xk_assign rfl (by decide) ?_
      refine xk_assign rfl (by decide) ?_
      refine XK.nilN ?_
      refine XK.ret ?_
      refine XK.norm ?_
      have hke : s.size ≤ k := by omega
      rw [drop_end hke, digL] at hnum
      exact XK.ret2 rfl rfl rfl fun w1 st => ⟨by rw [hnum]; rfl, st.below (by simp)⟩

def IntsV (o : Option (List Int)) (v : Value) (w w' : World) : Prop := match o with
  | none => v = .tuple #[.slice none 0 0, .bool false]
  | some l => ∃ A c, l.length ≤ c ∧ v = .tuple #[.slice A l.length c, .bool true] ∧ SlS (fresh w w') 1 A l.length (intCells l)

theorem refInts_ok (ws : List ByteArray) (A : Option Addr) (n c : Nat) (w : World) (hS : SlS (all w) 1 A n (strCells ws)) (hn : ws.length = n) (hn63 : n ≤ 1000000) (hsz : ∀ s ∈ ws, s.size < 4294967296) :
    Calls Tryz.prog 84 #[.slice A n c] w (fun y w' => (∃ v, y = .returned v ∧ IntsV (numsF ws) v w w') ∧ Below w.heap.size w w') := by
  refine XK.enter (vs := [.slice A n c]) Tryz.func84 rfl Tryz.ntmps84 (by simp) ?_
  refine XK.seq ?_

  refine XK.region ?_
  refine xk_assign rfl (by decide) ?_
  refine xk_assign rfl (by decide) ?_
  refine XK.nilN ?_
  refine XK.seq ?_

  refine XK.region ?_
  refine xk_assign rfl (by decide) ?_
  refine XK.nilN ?_
  refine XK.seq ?_
  refine XK.seq ?_
  refine XK.nilrow 3 1 ?_

  refine XK.region ?_
  refine xk_assign rfl (by decide) ?_
  refine XK.nilN ?_
  refine XK.envS [(5, .int .i64 0), (4, .slice none 0 0), (3, .bool false), (2, .slice none 0 0), (0, .slice A n c)] ?_
  refine XK.block ?_
  refine XK.loop (fun m e R H => ∃ (k : Nat) (l : List Int) (A1 : Option Addr) (c1 : Nat), k ≤ n ∧ l.length = k ∧ numsF ws = (numsF (ws.drop k)).map (l ++ ·) ∧ m = n - k ∧ e = [(5, .int .i64 (k : Int)), (4, .slice A1 k c1), (3, .bool false), (2, .slice none 0 0), (0, .slice A n c)] ∧ R = [all w] ∧ H = [HP.own 3 1 (.slice A1 k c1) k (intCells l)]) n ⟨0, [], none, 0, by omega, rfl, by simp, rfl, rfl, rfl, rfl⟩ fun m e R H hI => ?_
  obtain ⟨k, l, A1, c1, hk, hlk, hnum, rfl, rfl, rfl, rfl⟩ := hI
  refine XK.seq ?_
  refine XK.seq ?_

  refine XK.region ?_
  refine xk_move rfl (by decide) ?_
  refine xk_move rfl (by decide) ?_
  refine xk_len (el := 9) (by kernel_rfl) rfl (by decide) ?_
  refine xk_lss rfl rfl (by decide) ?_
  refine XK.nilN ?_
  refine XK.if_ rfl (fun hlt => ?_) (fun hlt => ?_)
  ·
    refine XK.skip ?_
    refine XK.norm ?_
    refine XK.seq ?_
    refine XK.block ?_
    refine XK.seq ?_
    have hks : k < n := by have h' : (k : Int) < (n : Int) := hlt; omega
    obtain ⟨b, off, rfl, hz, hc⟩ := hS.2 (by omega)
    obtain ⟨s, hs⟩ : ∃ s, ws[k]? = some s := ⟨_, List.getElem?_eq_getElem (by omega)⟩
    have hss := hsz s (List.mem_of_getElem? hs)
    have hdr := drop_get hs
    rw [hdr, numsF] at hnum

    refine XK.region ?_
    refine xk_move rfl (by decide) ?_
    refine xk_move rfl (by decide) ?_
    refine xk_at (k) (off + k) (el := 9) (sz := 1) (by kernel_rfl) (by kernel_rfl) rfl rfl (by omega) (by omega) (by omega) (by decide) ?_
    refine xk_load (by kernel_rfl) rfl (Rd.ro (p := all w) (by simp) hz (hc k _ (strCells_at hs))) (by decide) ?_
    refine xk_callR (f := 14) (fi := []) (ca := []) (by kernel_rfl) rfl rfl (by decide) (fun w1 st => refNum_ok s hss w1) ?_
    dsimp only [numV]
    refine xk_move rfl (by decide) ?_
    refine xk_extract rfl rfl (by decide) ?_
    refine xk_extract rfl rfl (by decide) ?_
    refine xk_assign rfl (by decide) ?_
    refine xk_assign rfl (by decide) ?_
    refine XK.nilN ?_
    refine XK.seq ?_
    refine XK.seq ?_

    refine XK.region ?_
    refine xk_move rfl (by decide) ?_
    refine xk_not rfl (by decide) ?_
    refine XK.nilN ?_
    refine XK.cond rfl (fun hno => ?_) (fun hno => ?_)
    ·
      refine XK.seq ?_

      refine XK.region ?_
      refine xk_assign rfl (by decide) ?_
      refine xk_assign rfl (by decide) ?_
      refine XK.nilN ?_
      refine XK.ret ?_
      refine XK.norm ?_
      have hnn : numF s = none := by cases hq : numF s with | none => rfl | some z => (rw [hq] at hno; cases hno)
      rw [hnn] at hnum
      exact XK.ret2 rfl rfl rfl fun w1 st => ⟨⟨_, rfl, by rw [hnum]; rfl⟩, st.below (by simp)⟩
    ·
      refine XK.skip ?_
      refine XK.norm ?_
      obtain ⟨nn, hn9⟩ : ∃ nn, numF s = some nn := by cases hq : numF s with | none => (rw [hq] at hno; cases hno) | some z => exact ⟨z, rfl⟩
      have hlt9 := numF_lt hn9
      simp only [hn9, Option.getD_some, Option.isSome_some] at hnum ⊢

      refine XK.region ?_
      refine xk_move rfl (by decide) ?_
      refine xk_move rfl (by decide) ?_
      refine xk_conv (ds := .int .u64) (by kernel_rfl) (by kernel_rfl) rfl (wrap_in (by omega)) (by decide) ?_
      refine xk_slice (el := 3) (sz := 1) (zs := [.int .i64 0]) (by kernel_rfl) (zeroB_of (by kernel_rfl)) (by kernel_rfl) rfl (by decide) (by decide) rfl (by simp [fillL, setN, Value.cells, List.range_succ, List.set]; rfl) (by decide) fun g1 => ?_
      refine xk_appendT 1 1 8 1 (n' := k + 1) (el := 3) (by kernel_rfl) (by kernel_rfl) (by decide) rfl rfl rfl (sl_blk 0 rfl rfl) (by simp [Value.oneCell']) rfl (by omega) (by omega) (by decide) fun A2 c2 => ?_
      dsimp only [List.set]
      rw [intCells_one]
      refine xk_assign rfl (by decide) ?_
      refine XK.nilN ?_

      refine XK.region ?_
      refine xk_move rfl (by decide) ?_
      refine xk_add rfl rfl (wrap_in (by omega)) (by decide) ?_
      refine xk_assign rfl (by decide) ?_
      refine XK.nilN ?_
      exact XK.weak [1] rfl (by decide) (by simp) (XK.envS [(5, .int .i64 ((k + 1 : Nat) : Int)), (4, .slice A2 (k + 1) c2), (3, .bool false), (2, .slice none 0 0), (0, .slice (some ⟨b, off, none⟩) n c)] (XK.round _ (by omega) ⟨k + 1, l ++ [(nn : Int)], A2, c2, by omega, by simp [hlk], by rw [hnum]; cases numsF (ws.drop (k + 1)) <;> simp, rfl, rfl, rfl, rfl⟩))
  ·
    refine XK.exit ?_
    refine XK.norm ?_
    refine XK.seq ?_

    refine XK.region ?_
    refine xk_move rfl (by decide) ?_
    refine xk_assign rfl (by decide) ?_
    refine xk_assign rfl (by decide) ?_
    refine XK.nilN ?_
    refine XK.ret ?_
    refine XK.norm ?_
    have hkn : k = n := by omega
    have hdn : ws.drop k = [] := List.drop_eq_nil_of_le (by omega)
    rw [hdn] at hnum
    refine XK.still [] [0] [] (by simp) rfl (by decide) (by decide) fun q hq _ hfr => ?_
    obtain ⟨F3, hF3, hZ3⟩ := hq 0 _ (by simp) rfl
    have hcap3 := own_cap hF3
    have hS3 := SlS.own (q := q) ⟨F3, hF3, hZ3⟩
    exact XK.ret2 rfl rfl rfl fun w1 st => ⟨⟨_, rfl, by
      rw [hnum]
      simp only [numsF, Option.map_some, List.append_nil, IntsV]
      refine ⟨A1, c1, by omega, by rw [hlk], ?_⟩
      rw [← hlk] at hS3
      exact SlS.le hS3 (st.fresh_le (by simp) (hfr (by simp) (by simp)))⟩, st.below (by simp)⟩

def WordsV (l : List UInt8) (v : Value) (w w' : World) : Prop := (v = .tuple #[.slice none 0 0, .bool false] ∧ [] ∈ splitC 32 l) ∨
  ∃ A c, (wordsF l).length ≤ c ∧ v = .tuple #[.slice A (wordsF l).length c, .bool true] ∧ SlS (fresh w w') 1 A (wordsF l).length (strCells (wordsF l))
/-- the walk over a line's words -/
structure Wk (l : List UInt8) (i from_ : Nat) (acc : List (List UInt8)) : Prop where
  le : from_ ≤ i
  go : (i ≤ l.length ∧ splitC 32 l = acc ++ splitC 32 (l.drop from_) ∧ (32 : UInt8) ∉ (l.drop from_).take (i - from_)) ∨ (i = l.length + 1 ∧ splitC 32 l = acc)
theorem Wk.start (l : List UInt8) : Wk l 0 0 [] := ⟨Nat.le_refl _, .inl ⟨Nat.zero_le _, by simp, by simp⟩⟩
theorem takeS_get {α : Type} {l : List α} {i : Nat} {b : α} (h : l[i]? = some b) : l.take (i + 1) = l.take i ++ [b] := by rw [List.take_add_one, h]; rfl
section
variable {l : List UInt8} {i from_ : Nat} {acc : List (List UInt8)} (h : Wk l i from_ acc)
include h
theorem Wk.step (hi : i < l.length) (hb : l[i]?.getD 0 ≠ 32) : Wk l (i + 1) from_ acc := by
  obtain ⟨h0, h1⟩ := h
  rcases h1 with ⟨_, h1, h2⟩ | ⟨h1, _⟩
  · refine ⟨by omega, .inl ⟨by omega, h1, ?_⟩⟩
    have hg : (l.drop from_)[i - from_]? = some (l[i]'hi) := by rw [List.getElem?_drop, show from_ + (i - from_) = i by omega, List.getElem?_eq_getElem hi]
    rw [show i + 1 - from_ = (i - from_) + 1 by omega, takeS_get hg, List.mem_append]
    rw [List.getElem?_eq_getElem hi, Option.getD_some] at hb
    rintro (h3 | h3)
    · exact h2 h3
    · simp at h3; exact hb h3.symm
  · omega
theorem Wk.live (hi : i ≤ l.length) : splitC 32 l = acc ++ splitC 32 (l.drop from_) ∧ (32 : UInt8) ∉ (l.drop from_).take (i - from_) := by
  rcases h.go with ⟨_, h1, h2⟩ | ⟨h1, _⟩
  · exact ⟨h1, h2⟩
  · omega
theorem Wk.word (hi : i ≤ l.length) (hb : ¬ (i < l.length ∧ l[i]?.getD 0 ≠ 32)) : Wk l (i + 1) (i + 1) (acc ++ [(l.drop from_).take (i - from_)]) := by
  obtain ⟨h1, h2⟩ := h.live hi
  have h0 := h.le
  refine ⟨Nat.le_refl _, ?_⟩
  rcases Nat.lt_or_ge i l.length with hlt | hge
  · left
    have hb' : l[i] = 32 := by
      rw [List.getElem?_eq_getElem hlt, Option.getD_some] at hb
      exact Classical.byContradiction fun hn => hb ⟨hlt, hn⟩
    have hd : l.drop from_ = (l.drop from_).take (i - from_) ++ 32 :: l.drop (i + 1) := by
      conv => lhs; rw [← List.take_append_drop (i - from_) (l.drop from_)]
      rw [List.drop_drop, show from_ + (i - from_) = i by omega, List.drop_eq_getElem_cons hlt, hb']
    refine ⟨by omega, ?_, by simp⟩
    rw [h1]
    conv => lhs; rw [hd]
    rw [splitC_app _ h2, List.append_assoc]; rfl
  · right
    have hd : (l.drop from_).take (i - from_) = l.drop from_ := List.take_of_length_le (by rw [List.length_drop]; omega)
    rw [hd] at h2 ⊢
    exact ⟨by omega, by rw [h1, splitC_word h2]⟩
theorem Wk.empty (hi : i ≤ l.length) (hb : ¬ (i < l.length ∧ l[i]?.getD 0 ≠ 32)) (he : i = from_) : [] ∈ splitC 32 l := by
  obtain ⟨h1, h2⟩ := h.live hi
  subst he
  rw [h1, List.mem_append]
  right
  rcases Nat.lt_or_ge i l.length with hlt | hge
  · have hb' : l[i] = 32 := by
      rw [List.getElem?_eq_getElem hlt, Option.getD_some] at hb
      exact Classical.byContradiction fun hn => hb ⟨hlt, hn⟩
    rw [List.drop_eq_getElem_cons hlt, hb', splitC, if_pos rfl]; simp
  · rw [List.drop_eq_nil_of_le hge]; simp [splitC]
theorem Wk.ends (hi : ¬ i ≤ l.length) : splitC 32 l = acc := by
  rcases h.go with ⟨h1, _⟩ | ⟨_, h1⟩
  · omega
  · exact h1
end
theorem Wk.acc_len {l : List UInt8} {i f : Nat} {acc : List (List UInt8)} (h : Wk l i f acc) : acc.length ≤ l.length + 1 := by
  have h0 := (splitC_len 32 l).1
  rcases h.go with ⟨_, h1, _⟩ | ⟨_, h1⟩
  · rw [h1, List.length_append] at h0; omega
  · rw [h1] at h0; exact h0
theorem strW_one (acc : List (List UInt8)) (x : List UInt8) : strCells (acc.map strOf) ++ [.string (strOf x)] = strCells ((acc ++ [x]).map strOf) := by simp [strCells]

theorem u8_32' {b : UInt8} (h : b = 32) : ((b.toNat : Nat) : Int) = 32 := by rw [h]; rfl
theorem u8_32b {b : UInt8} (h : ((b.toNat : Nat) : Int) = 32) : b = 32 := by
  apply UInt8.toNat_inj.1
  have : (32 : UInt8).toNat = 32 := rfl
  omega

theorem refWords_ok (l : List UInt8) (hl : l.length ≤ 100000) (w : World) :
    Calls Tryz.prog 27 #[.string (strOf l)] w (fun y w' => (∃ v, y = .returned v ∧ WordsV l v w w') ∧ Below w.heap.size w w') := by
  have hsz := strOf_size l
  refine XK.enter (vs := [.string (strOf l)]) Tryz.func27 rfl Tryz.ntmps27 (by simp) ?_
  refine XK.seq ?_

  refine XK.region ?_
  refine xk_assign rfl (by decide) ?_
  refine xk_assign rfl (by decide) ?_
  refine XK.nilN ?_
  refine XK.seq ?_

  refine XK.region ?_
  refine xk_assign rfl (by decide) ?_
  refine XK.nilN ?_
  refine XK.seq ?_
  refine XK.nilrow 9 1 ?_

  refine XK.region ?_
  refine xk_assign rfl (by decide) ?_
  refine XK.nilN ?_
  refine XK.seq ?_
  refine XK.seq ?_

  refine XK.region ?_
  refine xk_assign rfl (by decide) ?_
  refine XK.nilN ?_
  refine XK.envS [(6, .int .i64 0), (5, .int .i64 0), (4, .slice none 0 0), (3, .bool false), (2, .slice none 0 0), (0, .string (strOf l))] ?_
  refine XK.block ?_
  refine XK.loop (fun m e R H => ∃ (i from_ : Nat) (acc : List (List UInt8)) (A1 : Option Addr) (c1 : Nat), Wk l i from_ acc ∧ m = l.length + 1 - i ∧ e = [(6, .int .i64 (i : Int)), (5, .int .i64 (from_ : Int)), (4, .slice A1 acc.length c1), (3, .bool false), (2, .slice none 0 0), (0, .string (strOf l))] ∧ R = [all w] ∧ H = [HP.own 9 1 (.slice A1 acc.length c1) acc.length (strCells (acc.map strOf))]) (l.length + 1) ⟨0, 0, [], none, 0, Wk.start l, rfl, rfl, rfl, rfl⟩ fun m e R H hI => ?_
  obtain ⟨i, from_, acc, A1, c1, hwk, rfl, rfl, rfl, rfl⟩ := hI
  refine XK.seq ?_
  refine XK.seq ?_

  refine XK.region ?_
  refine xk_move rfl (by decide) ?_
  refine xk_move rfl (by decide) ?_
  refine xk_lenS (by kernel_rfl) rfl (by decide) ?_
  refine xk_leq rfl rfl (by decide) ?_
  refine XK.nilN ?_
  refine XK.if_ rfl (fun hle => ?_) (fun hle => ?_)
  ·
    refine XK.skip ?_
    refine XK.norm ?_
    refine XK.seq ?_
    refine XK.block ?_
    refine XK.seq ?_
    have hil : i ≤ l.length := by omega
    have hbi := bAt_strOf l i
    have hfi := hwk.le
    have hac := hwk.acc_len
    refine XK.cutB 22 ((i : Int) < (l.length : Int) ∧ ¬ ((bAt (strOf l) i).toNat : Int) = 32) ?_ ?_
    · skip

      refine XK.region ?_
      refine xk_move rfl (by decide) ?_
      refine xk_move rfl (by decide) ?_
      refine xk_lenS (by kernel_rfl) rfl (by decide) ?_
      refine xk_lss rfl rfl (by decide) ?_
      refine xk_move rfl (by decide) ?_
      refine xk_split (t := 17) rfl (fun hg17 => ?_) (fun hg17 => ?_)
      ·
        refine xk_guardT rfl rfl ?_; refine xk_move rfl (by decide) ?_
        refine xk_guardT rfl rfl ?_; refine xk_move rfl (by decide) ?_
        refine xk_guardT rfl rfl ?_; refine xk_byte i (by kernel_rfl) rfl rfl rfl (bAt_get (by omega)) (by decide) ?_
        refine xk_guardT rfl rfl ?_; refine xk_neq rfl rfl (by decide) ?_
        (first | refine xk_pickT rfl rfl (by decide) ?_ | refine xk_pickF rfl rfl (by decide) ?_)
        refine XK.nilN ?_
        exact XK.meetB (by repeat (first | exact trivial | refine ⟨rfl, ?_⟩)) (by first | (refine get_iff rfl ?_; omega) | (refine get_true rfl ?_; omega) | (refine get_false rfl ?_; omega))
      ·
        refine xk_guardF rfl rfl rfl (by decide) ?_
        refine xk_guardF rfl rfl rfl (by decide) ?_
        refine xk_guardF rfl rfl rfl (by decide) ?_
        refine xk_guardF rfl rfl rfl (by decide) ?_
        (first | refine xk_pickT rfl rfl (by decide) ?_ | refine xk_pickF rfl rfl (by decide) ?_)
        refine XK.nilN ?_
        exact XK.meetB (by repeat (first | exact trivial | refine ⟨rfl, ?_⟩)) (by first | (refine get_iff rfl ?_; omega) | (refine get_true rfl ?_; omega) | (refine get_false rfl ?_; omega))
    refine XK.if_ rfl (fun hgo => ?_) (fun hgo => ?_)
    ·
      refine XK.exit ?_
      refine XK.norm ?_

      refine XK.region ?_
      refine xk_move rfl (by decide) ?_
      refine xk_add rfl rfl (wrap_in (by omega)) (by decide) ?_
      refine xk_assign rfl (by decide) ?_
      refine XK.nilN ?_
      exact XK.envS [(6, .int .i64 ((i + 1 : Nat) : Int)), (5, .int .i64 (from_ : Int)), (4, .slice A1 acc.length c1), (3, .bool false), (2, .slice none 0 0), (0, .string (strOf l))] (XK.round _ (by omega) ⟨i + 1, from_, acc, A1, c1, hwk.step (by omega) (by rw [← hbi]; exact fun h => hgo.2 (u8_32' h)), rfl, rfl, rfl, rfl⟩)
    ·
      refine XK.skip ?_
      refine XK.norm ?_
      refine XK.seq ?_
      refine XK.seq ?_
      have hgo' : ¬ (i < l.length ∧ l[i]?.getD 0 ≠ 32) := fun h => hgo ⟨by omega, fun h2 => h.2 (by rw [← hbi]; exact u8_32b h2)⟩

      refine XK.region ?_
      refine xk_move rfl (by decide) ?_
      refine xk_move rfl (by decide) ?_
      refine xk_eql rfl rfl (by decide) ?_
      refine XK.nilN ?_
      refine XK.if_ rfl (fun hef => ?_) (fun hef => ?_)
      ·
        refine XK.seq ?_

        refine XK.region ?_
        refine xk_assign rfl (by decide) ?_
        refine xk_assign rfl (by decide) ?_
        refine XK.nilN ?_
        refine XK.ret ?_
        refine XK.norm ?_
        exact XK.ret2 rfl rfl rfl fun w1 st => ⟨⟨_, rfl, .inl ⟨rfl, hwk.empty hil hgo' (by omega)⟩⟩, st.below (by simp)⟩
      ·
        refine XK.skip ?_
        refine XK.norm ?_
        refine XK.seq ?_

        refine XK.region ?_
        refine xk_move rfl (by decide) ?_
        refine xk_move rfl (by decide) ?_
        refine xk_move rfl (by decide) ?_
        refine xk_move rfl (by decide) ?_
        refine xk_sliceStr from_ i (by kernel_rfl) rfl rfl rfl rfl rfl (by omega) (by omega) (by decide) ?_
        rw [extract_strOf]
        refine xk_slice (el := 9) (sz := 1) (zs := [.string ⟨#[]⟩]) (by kernel_rfl) (zeroB_of (by kernel_rfl)) (by kernel_rfl) rfl (by decide) (by decide) rfl (by simp [fillL, setN, Value.cells, List.range_succ, List.set]; rfl) (by decide) fun g1 => ?_
        refine xk_appendT 1 1 16 1 (n' := acc.length + 1) (el := 9) (by kernel_rfl) (by kernel_rfl) (by decide) rfl rfl rfl (sl_blk 0 rfl rfl) (by simp [Value.oneCell']) rfl (by omega) (by omega) (by decide) fun A2 c2 => ?_
        dsimp only [List.set]
        rw [strW_one, show acc.length + 1 = (acc ++ [(l.drop from_).take (i - from_)]).length from by simp]
        refine xk_assign rfl (by decide) ?_
        refine XK.nilN ?_

        refine XK.region ?_
        refine xk_move rfl (by decide) ?_
        refine xk_add rfl rfl (wrap_in (by omega)) (by decide) ?_
        refine xk_assign rfl (by decide) ?_
        refine XK.nilN ?_

        refine XK.region ?_
        refine xk_move rfl (by decide) ?_
        refine xk_add rfl rfl (wrap_in (by omega)) (by decide) ?_
        refine xk_assign rfl (by decide) ?_
        refine XK.nilN ?_
        exact XK.weak [1] rfl (by decide) (by simp) (XK.envS [(6, .int .i64 ((i + 1 : Nat) : Int)), (5, .int .i64 ((i + 1 : Nat) : Int)), (4, .slice A2 (acc ++ [(l.drop from_).take (i - from_)]).length c2), (3, .bool false), (2, .slice none 0 0), (0, .string (strOf l))] (XK.round _ (by omega) ⟨i + 1, i + 1, _, A2, c2, hwk.word hil hgo', rfl, rfl, rfl, rfl⟩))
  ·
    refine XK.exit ?_
    refine XK.norm ?_
    refine XK.seq ?_

    refine XK.region ?_
    refine xk_move rfl (by decide) ?_
    refine xk_assign rfl (by decide) ?_
    refine xk_assign rfl (by decide) ?_
    refine XK.nilN ?_
    refine XK.ret ?_
    refine XK.norm ?_
    have hend : wordsF l = acc.map strOf := by rw [wordsF, hwk.ends (by omega)]
    have hel : (wordsF l).length = acc.length := by rw [hend, List.length_map]
    refine XK.still [] [0] [] (by simp) rfl (by decide) (by decide) fun q hq _ hfr => ?_
    obtain ⟨F3, hF3, hZ3⟩ := hq 0 _ (by simp) rfl
    have hcap3 := own_cap hF3
    have hS3 := SlS.own (q := q) ⟨F3, hF3, hZ3⟩
    rw [← hend] at hS3
    exact XK.ret2 rfl rfl rfl fun w1 st => ⟨⟨_, rfl, .inr ⟨A1, c1, by omega, by rw [hel], by
      rw [hel]
      exact SlS.le hS3 (st.fresh_le (by simp) (hfr (by simp) (by simp)))⟩⟩, st.below (by simp)⟩

end Go.Proofs.YtgopaoidgcgalaaGreatDoor
