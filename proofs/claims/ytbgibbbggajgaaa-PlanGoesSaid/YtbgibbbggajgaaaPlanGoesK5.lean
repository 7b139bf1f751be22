/- The small logic: entries that are laid into a map, in whatever order they come up. -/
import Derived.Test.YtbgibbbggajgaaaPlanGoesK4
namespace Go.Proofs.Ytbgibbbggajgaaa
set_option linter.all false
open Go.RowKit
theorem markA_size : ∀ (sub : List Nat) (l : Array Bool), (markA sub l).size = l.size
  | [], l => rfl
  | i :: sub, l => by
    show ((markA sub l).setIfInBounds i true).size = _
    rw [Array.size_setIfInBounds, markA_size sub l]
theorem markA_in : ∀ (sub : List Nat) (l : Array Bool) (i : Nat) (b : Bool), i ∈ sub → i < l.size → (markA sub l).getD i b = true
  | j :: sub, l, i, b, h, hi => by
    show ((markA sub l).setIfInBounds j true).getD i b = true
    by_cases e : j = i
    · subst e
      have : j < (markA sub l).size := by rw [markA_size]; exact hi
      simp [this]
    · rw [getD_set_ne b e]
      rcases List.mem_cons.1 h with h | h
      · exact absurd h.symm e
      · exact markA_in sub l i b h hi
theorem markA_out : ∀ (sub : List Nat) (l : Array Bool) (i : Nat) (b : Bool), i ∉ sub → (markA sub l).getD i b = l.getD i b
  | [], l, i, b, _ => rfl
  | j :: sub, l, i, b, h => by
    show ((markA sub l).setIfInBounds j true).getD i b = _
    have e : j ≠ i := fun e => h (by simp [e])
    rw [getD_set_ne b e]
    exact markA_out sub l i b fun h2 => h (by simp [h2])
theorem markA_mono {sub : List Nat} {l : Array Bool} {i : Nat} (h : l.getD i false = true) : (markA sub l).getD i false = true := by
  by_cases hi : i ∈ sub
  · refine markA_in sub l i false hi ?_
    rcases Nat.lt_or_ge i l.size with h1 | h1
    · exact h1
    · simp [Array.getElem?_eq_none h1] at h
  · rw [markA_out sub l i false hi]; exact h
/-- those of I hang on what is listed alone; all others on each of I -/
def insB (ops : Array Oper) (I : List Nat) (listed : Array Bool) : Bool :=
  I.all (fun i => decide (i < listed.size) && !(listed.getD i true) && match ops[i]? with
    | some o => o.after.toList.all fun x => !(Region.binds .any x) || listed.getD x.on false
    | none => false) &&
  (List.range ops.size).all fun j => I.contains j || listed.getD j true || match ops[j]? with
    | some o => I.all fun i => o.after.toList.any fun x => Region.binds .any x && x.on == i
    | none => true
theorem ready_ins {ops : Array Oper} {I sub : List Nat} {listed : Array Bool} (hB : insB ops I listed = true) (hsub : ∀ i ∈ sub, i ∈ I) {i0 : Nat} (hi0 : i0 ∈ I) (hn0 : i0 ∉ sub) :
    Region.ready .any ops (markA sub listed) ≠ [] ∧ ∀ j ∈ Region.ready .any ops (markA sub listed), j ∈ I ∧ j ∉ sub := by
  unfold insB at hB
  rw [Bool.and_eq_true, List.all_eq_true, List.all_eq_true] at hB
  obtain ⟨hA, hC⟩ := hB
  have h0 := hA i0 hi0
  simp only [Bool.and_eq_true, decide_eq_true_eq, Bool.not_eq_true'] at h0
  obtain ⟨⟨h1, h2⟩, h3⟩ := h0
  constructor
  · cases ho : ops[i0]? with
    | none => rw [ho] at h3; cases h3
    | some o =>
      rw [ho] at h3
      simp only [List.all_eq_true] at h3
      have : i0 ∈ Region.ready .any ops (markA sub listed) := mem_ready.2 ⟨by rw [markA_out _ _ _ _ hn0]; exact h2, o, ho, fun x hx hb => by
        have := h3 x (by simpa using hx)
        rw [hb] at this
        exact markA_mono (by simpa using this)⟩
      intro he
      rw [he] at this
      cases this
  · intro j hj
    obtain ⟨g1, o, ho, g2⟩ := mem_ready.1 hj
    have hjn : j ∉ sub := fun h => by
      have hA' := hA j (hsub j h)
      simp only [Bool.and_eq_true, decide_eq_true_eq] at hA'
      rw [markA_in sub listed j true h hA'.1.1] at g1
      cases g1
    refine ⟨?_, hjn⟩
    rw [markA_out _ _ _ _ hjn] at g1
    have hlt : j < ops.size := (Array.getElem?_eq_some_iff.1 ho).1
    have hc := hC j (List.mem_range.2 hlt)
    rw [g1, ho] at hc
    simp only [Bool.or_false, Bool.or_eq_true] at hc
    rcases hc with hc | hc
    · simpa using hc
    · exfalso
      rw [List.all_eq_true] at hc
      have := hc i0 hi0
      rw [List.any_eq_true] at this
      obtain ⟨x, hx, hb⟩ := this
      simp only [Bool.and_eq_true, beq_iff_eq] at hb
      have := g2 x (by simpa using hx) hb.1
      rw [hb.2, markA_out _ _ _ _ hn0] at this
      have h4 : listed.getD i0 true = listed.getD i0 false := by simp [h1]
      rw [h4, this] at h2
      cases h2
theorem perm_of_len {I sub : List Nat} (hI : I.Nodup) (hn : sub.Nodup) (hin : ∀ i ∈ sub, i ∈ I) : (I.filter fun i => sub.contains i).Perm sub := by
  rw [List.perm_iff_count]
  intro a
  rw [(hI.sublist List.filter_sublist).count, hn.count]
  by_cases ha : a ∈ sub
  · rw [if_pos ha, if_pos (by simp [ha, hin a ha])]
  · rw [if_neg ha, if_neg (by simp [ha])]
theorem mgetP_perm {l1 l2 : List ((Int × Int) × Value)} (h : l1.Perm l2) (hn : (l1.map (·.1)).Nodup) (k : Int × Int) : mgetP l1 k = mgetP l2 k := by
  induction h with
  | nil => rfl
  | cons x _ ih =>
    obtain ⟨a, b⟩ := x
    rw [mgetP_cons, mgetP_cons, ih (List.nodup_cons.1 hn).2]
  | swap x y s =>
    obtain ⟨a, b⟩ := x
    obtain ⟨c, d⟩ := y
    have hne : c ≠ a := fun e => (List.nodup_cons.1 hn).1 (by rw [e]; simp)
    simp only [mgetP_cons]
    by_cases h1 : a = k
    · have : c ≠ k := fun e => hne (e.trans h1.symm)
      simp [h1, this]
    · simp [h1]
  | trans h1 h2 i1 i2 => exact (i1 hn).trans (i2 ((h1.map _).nodup_iff.1 hn))
theorem mgetP_none {l : List ((Int × Int) × Value)} {k : Int × Int} (h : k ∉ l.map (·.1)) : mgetP l k = none := by
  induction l with
  | nil => rfl
  | cons x l ih =>
    obtain ⟨a, b⟩ := x
    rw [List.map_cons, List.mem_cons, not_or] at h
    rw [mgetP_cons, if_neg (fun e => h.1 e.symm)]
    exact ih h.2
section
variable {P : Program} {N : Nat} {w0 w : World} {e : Env} {R R0 : List Piece} {H H0 : List HP} {Q : Exit → Act → World → Prop} {ops : Array Oper} {m fuel : Nat} {listed : Array Bool}
/-- an operation that lays an entry into the map -/
def Lays (P : Program) (ops : Array Oper) (e : Env) (r : Nat) (i : Nat) (p : (Int × Int) × Value) : Prop := ∃ x y u ty pos aft t kt et, ops[i]? = some ⟨none, .insert t x y u, ty, pos, aft, none⟩ ∧ P.underlying t = some (.map kt et) ∧ PairK P kt ∧ e.ev x = some (.map (some r)) ∧ e.ev y = some (kP p.1) ∧ e.ev u = some p.2
theorem XA.inserts (I : List Nat) (ents : Nat → (Int × Int) × Value) (r : Nat) (hI : I.Nodup) (hop : ∀ i ∈ I, Lays P ops e r i (ents i)) (hkeys : (I.map fun i => (ents i).1).Nodup) (hB : insB ops I listed = true)
    (hS : ∀ l w, St w0 R (HP.mapV r l :: H) w → St w0 R0 H0 w)
    (k : ∀ sub : List Nat, sub.Perm I → XA P N w0 ops Q R0 H0 m fuel (markA sub listed) e R (HP.mapV r (sub.reverse.map ents) :: H)) : XA P N w0 ops Q R0 H0 m (fuel + I.length) listed e R (HP.mapV r [] :: H) := by
  have key : ∀ (n : Nat) (sub : List Nat), sub.Nodup → (∀ i ∈ sub, i ∈ I) → sub.length + n = I.length → XA P N w0 ops Q R0 H0 m (fuel + n) (markA sub listed) e R (HP.mapV r (sub.reverse.map ents) :: H) := by
    intro n
    induction n with
    | zero =>
      intro sub hn hin hl
      have hp := perm_of_len hI hn hin
      have hf : (I.filter fun i => sub.contains i) = I := List.filter_sublist.eq_of_length (by have := hp.length_eq; omega)
      rw [hf] at hp
      exact k sub hp.symm
    | succ n ih =>
      intro sub hn hin hl
      obtain ⟨i0, hi0, hn0⟩ : ∃ i, i ∈ I ∧ i ∉ sub := Classical.byContradiction fun hno => by
        have hp := perm_of_len hI hn hin
        have hf : (I.filter fun i => sub.contains i) = I := List.filter_eq_self.2 fun i hi => by
          rcases Classical.em (i ∈ sub) with h | h
          · simpa using h
          · exact absurd ⟨i, hi, h⟩ hno
        rw [hf] at hp
        have := hp.length_eq
        omega
      obtain ⟨r1, r2⟩ := ready_ins hB hin hi0 hn0
      intro up a w hrp st
      refine ⟨fun h => absurd h r1, fun i hi => ?_⟩
      obtain ⟨hiI, hin2⟩ := r2 i hi
      obtain ⟨x, y, u, ty, pos, aft, t, kt, et, ho, ht, hk, hx, hy, hu⟩ := hop i hiI
      have hno : mgetP (sub.reverse.map ents) (ents i).1 = none := mgetP_none fun hm => by
        simp only [List.map_map, List.mem_map, List.mem_reverse, Function.comp] at hm
        obtain ⟨j, hj, he⟩ := hm
        have hji : j ≠ i := fun e => hin2 (e ▸ hj)
        exact hji (Classical.byContradiction fun hne => by
          have h1 := List.pairwise_map.1 hkeys
          exact absurd he (by
            obtain ⟨a, ha⟩ := List.getElem?_of_mem (hin j hj)
            obtain ⟨b, hb⟩ := List.getElem?_of_mem hiI
            have hal := (List.getElem?_eq_some_iff.1 ha).1
            have hbl := (List.getElem?_eq_some_iff.1 hb).1
            have hav := (List.getElem?_eq_some_iff.1 ha).2
            have hbv := (List.getElem?_eq_some_iff.1 hb).2
            have h2 := List.pairwise_iff_getElem.1 h1
            rcases Nat.lt_trichotomy a b with h | h | h
            · have := h2 a b hal hbl h; rw [hav, hbv] at this; exact this
            · subst h; exact absurd (hav.symm.trans hbv) hji
            · have := h2 b a hbl hal h; rw [hav, hbv] at this; exact fun e => this e.symm))
      refine xa_step ho (fun a w h => ⟨h.1, h.2 (up.set_ hi)⟩) (K := XAK P w0 ops Q R0 H0 m (fuel + n) (markA sub listed) i) ?_
      have := xk_insertV (P := P) (N := N) (w0 := w0) (R := R) (H := HP.mapV r (sub.reverse.map ents) :: H) (Q := Exit.then (XAK P w0 ops Q R0 H0 m (fuel + n) (markA sub listed) i) Q) (ops := ops) (rest := []) (ty := ty) (pos := pos) (aft := aft) 0 ht hk rfl hno hx hy hu
        (XK.nil (XK.thenN (XA.back (hS _) (by
          have := ih (i :: sub) (List.nodup_cons.2 ⟨hin2, hn⟩) (fun j hj => by
            rcases List.mem_cons.1 hj with rfl | hj
            · exact hiI
            · exact hin j hj) (by simp only [List.length_cons]; omega)
          rw [List.reverse_cons, List.map_append] at this
          exact this))))
      exact this a w hrp st
  exact key I.length [] List.nodup_nil (fun _ h => by cases h) (by simp)
end
end Go.Proofs.Ytbgibbbggajgaaa
/- package table: the messages that there are. -/
namespace Go.Proofs.Ytbgibbbggajgaaa
set_option linter.all false
open Go.RowKit
theorem fill_le (L : List (Nat × Nat)) (place : Nat → Option (Nat × Nat)) (hp : ∀ i x, L[i]? = some x → place i = some x) : ∀ (ps : List (Nat × Value)) (cs cs' : List Value), fillL L cs ps = some cs' → Instr.fill place cs.toArray ps = some cs'.toArray
  | [], cs, cs', h => by cases h; rfl
  | (i, v) :: rest, cs, cs', h => by
    unfold fillL at h
    unfold Instr.fill
    split at h
    · rename_i off sz hL
      rw [hp _ _ hL]
      split at h
      · rename_i hc
        have e1 : (decide (v.cells.size ≠ sz) || decide (off + v.cells.size > cs.toArray.size)) = false := by simp; omega
        simp only [e1, Bool.false_eq_true, if_false]
        have := setN_fold v.cells.toList cs off 0
        rw [show v.cells.zipIdx.foldl (fun cs (c, j) => cs.setIfInBounds (off + j) c) cs.toArray = (setN cs off v.cells.toList).toArray by
          rw [← Array.foldl_toList, Array.toList_zipIdx]; exact this]
        exact fill_le L place hp rest _ cs' h
      · cases h
    · cases h
section
variable {P : Program} {N : Nat} {w0 : World} {e : Env} {R : List Piece} {H : List HP} {d : Nat} {ty : TypeId} {pos : String} {aft : Array Edge}
theorem does_buildA {t el : TypeId} {n sz : Nat} {ps : List (Nat × Operand)} {vs : List (Nat × Value)} {zs cs : List Value} (hz : zeroB P t zs) (ht : P.underlying t = some (.array n el)) (hsz : (P.info? el).map (·.size) = some sz) (hp : e.parts ps = some vs) (hf : fillL ((List.range n).map fun i => (i * sz, sz)) zs vs = some cs) : Does P N w0 e R H ⟨some d, .build t ps.toArray, ty, pos, aft, none⟩ (.agg cs.toArray) :=
  does_of (fun a w hr => by
    have := hr.parts hp
    obtain ⟨i, z, hi, hzz, rfl⟩ := hz
    obtain ⟨j, hj, rfl⟩ := Option.map_eq_some_iff.1 hsz
    have hfl := fill_le _ (fun i => some (i * j.size, j.size)) (fun i x hx => by
      rw [List.getElem?_map] at hx
      obtain ⟨q, hq, rfl⟩ := Option.map_eq_some_iff.1 hx
      have hlt : i < n := by
        rcases Nat.lt_or_ge i n with h | h
        · exact h
        · rw [List.getElem?_eq_none (by simpa using h)] at hq; cases hq
      rw [List.getElem?_range hlt] at hq
      cases hq
      rfl) vs z.cells.toList cs hf
    simp at hfl
    simp only [execOp, List.map_toArray, this]
    simp [Instr.build, zeroValue, typeInfo, sizeOf, hi, hj, hzz, run_underlying ht, hfl])
end
def frm (n m a b c : Int) : Value := .agg #[.int .i64 n, .int .i64 m, .int .u8 a, .int .u8 b, .int .u8 c]
theorem msgK : PairK Try.prog 185 := PairK.of Try.underlying185 Try.underlying3 Try.underlying3 rfl rfl (fun _ _ _ _ => by kernel_rfl)
/-- the messages that there are, by the places of their operations -/
def frmE : Nat → (Int × Int) × Value
  | 3 => ((16, 0), frm 0 0 0 0 0) | 6 => ((17, 0), frm 0 0 0 0 0) | 9 => ((20, 0), frm 0 0 0 0 0) | 12 => ((22, 0), frm 0 0 0 0 0) | 15 => ((16, 1), frm 0 0 0 0 0)
  | 19 => ((17, 4), frm 2 3 100 117 107) | 22 => ((17, 5), frm 1 0 0 0 0) | 25 => ((20, 6), frm 1 0 0 0 0) | 29 => ((20, 7), frm 2 2 111 99 0) | _ => ((22, 4), frm 2 2 114 97 0)
def frmI : List Nat := [3, 6, 9, 12, 15, 19, 22, 25, 29, 33]
def frmL : List ((Int × Int) × Value) := frmI.map frmE
def FormsOk (v : Value) (hs : List HP) (_ : Piece) : Prop := ∃ (g : Nat) (sub : List Nat), v = .map (some g) ∧ sub.Perm frmI ∧ hs = [HP.mapV g (sub.reverse.map frmE)]

theorem forms_any (w : World) : Calls Try.prog 108 #[] w (fun y w' => (∃ v hs q, y = .returned v ∧ q.w = w' ∧ FormsOk v hs q ∧ New w hs q) ∧ Below w.heap.size w w') := by
  refine XK.enter (vs := []) Try.func108 rfl Try.ntmps108 (by simp) ?_
  refine XK.seq ?_

  refine XK.region ?_
  refine xk_assign rfl (by decide) ?_
  refine XK.nilN ?_
  refine XK.seq ?_

  refine XK.draw 34 (by kernel_rfl) (by kernel_rfl) ?_
  refine XA.do_ 1 rfl rfl rfl (by decide) (does_buildS (zs := [.int .i64 0, .int .i64 0]) (L := [(0, 1), (1, 1)]) (zeroB_of (by kernel_rfl)) (by kernel_rfl) rfl (by simp [fillL, setN, Value.cells]; rfl)) (by kernel_rfl) (fun _ _ _ h => h) (fun _ h => h) ?_
  refine XA.do_ 2 rfl rfl rfl (by decide) (does_buildS (zs := [.int .i64 0, .int .i64 0, .int .u8 0, .int .u8 0, .int .u8 0]) (L := [(0, 1), (1, 1), (2, 3)]) (zeroB_of (by kernel_rfl)) (by kernel_rfl) rfl (by simp [fillL, setN, Value.cells]; rfl)) (by kernel_rfl) (fun _ _ _ h => h) (fun _ h => h) ?_
  refine XA.do_ 4 rfl rfl rfl (by decide) (does_buildS (zs := [.int .i64 0, .int .i64 0]) (L := [(0, 1), (1, 1)]) (zeroB_of (by kernel_rfl)) (by kernel_rfl) rfl (by simp [fillL, setN, Value.cells]; rfl)) (by kernel_rfl) (fun _ _ _ h => h) (fun _ h => h) ?_
  refine XA.do_ 5 rfl rfl rfl (by decide) (does_buildS (zs := [.int .i64 0, .int .i64 0, .int .u8 0, .int .u8 0, .int .u8 0]) (L := [(0, 1), (1, 1), (2, 3)]) (zeroB_of (by kernel_rfl)) (by kernel_rfl) rfl (by simp [fillL, setN, Value.cells]; rfl)) (by kernel_rfl) (fun _ _ _ h => h) (fun _ h => h) ?_
  refine XA.do_ 7 rfl rfl rfl (by decide) (does_buildS (zs := [.int .i64 0, .int .i64 0]) (L := [(0, 1), (1, 1)]) (zeroB_of (by kernel_rfl)) (by kernel_rfl) rfl (by simp [fillL, setN, Value.cells]; rfl)) (by kernel_rfl) (fun _ _ _ h => h) (fun _ h => h) ?_
  refine XA.do_ 8 rfl rfl rfl (by decide) (does_buildS (zs := [.int .i64 0, .int .i64 0, .int .u8 0, .int .u8 0, .int .u8 0]) (L := [(0, 1), (1, 1), (2, 3)]) (zeroB_of (by kernel_rfl)) (by kernel_rfl) rfl (by simp [fillL, setN, Value.cells]; rfl)) (by kernel_rfl) (fun _ _ _ h => h) (fun _ h => h) ?_
  refine XA.do_ 10 rfl rfl rfl (by decide) (does_buildS (zs := [.int .i64 0, .int .i64 0]) (L := [(0, 1), (1, 1)]) (zeroB_of (by kernel_rfl)) (by kernel_rfl) rfl (by simp [fillL, setN, Value.cells]; rfl)) (by kernel_rfl) (fun _ _ _ h => h) (fun _ h => h) ?_
  refine XA.do_ 11 rfl rfl rfl (by decide) (does_buildS (zs := [.int .i64 0, .int .i64 0, .int .u8 0, .int .u8 0, .int .u8 0]) (L := [(0, 1), (1, 1), (2, 3)]) (zeroB_of (by kernel_rfl)) (by kernel_rfl) rfl (by simp [fillL, setN, Value.cells]; rfl)) (by kernel_rfl) (fun _ _ _ h => h) (fun _ h => h) ?_
  refine XA.do_ 13 rfl rfl rfl (by decide) (does_buildS (zs := [.int .i64 0, .int .i64 0]) (L := [(0, 1), (1, 1)]) (zeroB_of (by kernel_rfl)) (by kernel_rfl) rfl (by simp [fillL, setN, Value.cells]; rfl)) (by kernel_rfl) (fun _ _ _ h => h) (fun _ h => h) ?_
  refine XA.do_ 14 rfl rfl rfl (by decide) (does_buildS (zs := [.int .i64 0, .int .i64 0, .int .u8 0, .int .u8 0, .int .u8 0]) (L := [(0, 1), (1, 1), (2, 3)]) (zeroB_of (by kernel_rfl)) (by kernel_rfl) rfl (by simp [fillL, setN, Value.cells]; rfl)) (by kernel_rfl) (fun _ _ _ h => h) (fun _ h => h) ?_
  refine XA.do_ 16 rfl rfl rfl (by decide) (does_buildS (zs := [.int .i64 0, .int .i64 0]) (L := [(0, 1), (1, 1)]) (zeroB_of (by kernel_rfl)) (by kernel_rfl) rfl (by simp [fillL, setN, Value.cells]; rfl)) (by kernel_rfl) (fun _ _ _ h => h) (fun _ h => h) ?_
  refine XA.do_ 17 rfl rfl rfl (by decide) (does_buildA (n := 3) (sz := 1) (el := 5) (zs := [.int .u8 0, .int .u8 0, .int .u8 0]) (zeroB_of (by kernel_rfl)) (by kernel_rfl) (by kernel_rfl) rfl (by simp [fillL, setN, Value.cells, List.range_succ, List.set]; rfl)) (by kernel_rfl) (fun _ _ _ h => h) (fun _ h => h) ?_
  refine XA.do_ 18 rfl rfl rfl (by decide) (does_buildS (zs := [.int .i64 0, .int .i64 0, .int .u8 0, .int .u8 0, .int .u8 0]) (L := [(0, 1), (1, 1), (2, 3)]) (zeroB_of (by kernel_rfl)) (by kernel_rfl) rfl (by simp [fillL, setN, Value.cells]; rfl)) (by kernel_rfl) (fun _ _ _ h => h) (fun _ h => h) ?_
  refine XA.do_ 20 rfl rfl rfl (by decide) (does_buildS (zs := [.int .i64 0, .int .i64 0]) (L := [(0, 1), (1, 1)]) (zeroB_of (by kernel_rfl)) (by kernel_rfl) rfl (by simp [fillL, setN, Value.cells]; rfl)) (by kernel_rfl) (fun _ _ _ h => h) (fun _ h => h) ?_
  refine XA.do_ 21 rfl rfl rfl (by decide) (does_buildS (zs := [.int .i64 0, .int .i64 0, .int .u8 0, .int .u8 0, .int .u8 0]) (L := [(0, 1), (1, 1), (2, 3)]) (zeroB_of (by kernel_rfl)) (by kernel_rfl) rfl (by simp [fillL, setN, Value.cells]; rfl)) (by kernel_rfl) (fun _ _ _ h => h) (fun _ h => h) ?_
  refine XA.do_ 23 rfl rfl rfl (by decide) (does_buildS (zs := [.int .i64 0, .int .i64 0]) (L := [(0, 1), (1, 1)]) (zeroB_of (by kernel_rfl)) (by kernel_rfl) rfl (by simp [fillL, setN, Value.cells]; rfl)) (by kernel_rfl) (fun _ _ _ h => h) (fun _ h => h) ?_
  refine XA.do_ 24 rfl rfl rfl (by decide) (does_buildS (zs := [.int .i64 0, .int .i64 0, .int .u8 0, .int .u8 0, .int .u8 0]) (L := [(0, 1), (1, 1), (2, 3)]) (zeroB_of (by kernel_rfl)) (by kernel_rfl) rfl (by simp [fillL, setN, Value.cells]; rfl)) (by kernel_rfl) (fun _ _ _ h => h) (fun _ h => h) ?_
  refine XA.do_ 26 rfl rfl rfl (by decide) (does_buildS (zs := [.int .i64 0, .int .i64 0]) (L := [(0, 1), (1, 1)]) (zeroB_of (by kernel_rfl)) (by kernel_rfl) rfl (by simp [fillL, setN, Value.cells]; rfl)) (by kernel_rfl) (fun _ _ _ h => h) (fun _ h => h) ?_
  refine XA.do_ 27 rfl rfl rfl (by decide) (does_buildA (n := 3) (sz := 1) (el := 5) (zs := [.int .u8 0, .int .u8 0, .int .u8 0]) (zeroB_of (by kernel_rfl)) (by kernel_rfl) (by kernel_rfl) rfl (by simp [fillL, setN, Value.cells, List.range_succ, List.set]; rfl)) (by kernel_rfl) (fun _ _ _ h => h) (fun _ h => h) ?_
  refine XA.do_ 28 rfl rfl rfl (by decide) (does_buildS (zs := [.int .i64 0, .int .i64 0, .int .u8 0, .int .u8 0, .int .u8 0]) (L := [(0, 1), (1, 1), (2, 3)]) (zeroB_of (by kernel_rfl)) (by kernel_rfl) rfl (by simp [fillL, setN, Value.cells]; rfl)) (by kernel_rfl) (fun _ _ _ h => h) (fun _ h => h) ?_
  refine XA.do_ 30 rfl rfl rfl (by decide) (does_buildS (zs := [.int .i64 0, .int .i64 0]) (L := [(0, 1), (1, 1)]) (zeroB_of (by kernel_rfl)) (by kernel_rfl) rfl (by simp [fillL, setN, Value.cells]; rfl)) (by kernel_rfl) (fun _ _ _ h => h) (fun _ h => h) ?_
  refine XA.do_ 31 rfl rfl rfl (by decide) (does_buildA (n := 3) (sz := 1) (el := 5) (zs := [.int .u8 0, .int .u8 0, .int .u8 0]) (zeroB_of (by kernel_rfl)) (by kernel_rfl) (by kernel_rfl) rfl (by simp [fillL, setN, Value.cells, List.range_succ, List.set]; rfl)) (by kernel_rfl) (fun _ _ _ h => h) (fun _ h => h) ?_
  refine XA.do_ 32 rfl rfl rfl (by decide) (does_buildS (zs := [.int .i64 0, .int .i64 0, .int .u8 0, .int .u8 0, .int .u8 0]) (L := [(0, 1), (1, 1), (2, 3)]) (zeroB_of (by kernel_rfl)) (by kernel_rfl) rfl (by simp [fillL, setN, Value.cells]; rfl)) (by kernel_rfl) (fun _ _ _ h => h) (fun _ h => h) ?_
  refine XA.next 0 rfl (by kernel_rfl) ?_
  refine xk_makeMapV (by decide) fun g1 => ?_
  refine XA.bk ?_
  refine XA.inserts (fuel := 2) frmI frmE g1 (by decide) (fun i hi => ?_) (by decide) (by kernel_rfl) (fun l w1 h => h.tail) (fun sub hsub => ?_)
  · simp only [frmI, List.mem_cons, List.not_mem_nil, or_false] at hi
    rcases hi with rfl | rfl | rfl | rfl | rfl | rfl | rfl | rfl | rfl | rfl
    all_goals exact ⟨_, _, _, _, _, _, _, _, _, rfl, Try.underlying182, msgK, rfl, rfl, rfl⟩
  rw [markA_perm hsub]
  refine XA.next 34 rfl (by kernel_rfl) ?_
  refine xk_move rfl (by decide) ?_
  refine XA.bt ?_
  refine XA.next 35 rfl (by kernel_rfl) ?_
  refine xk_assign rfl (by decide) ?_
  refine XA.bt ?_
  refine XA.done (by kernel_rfl) ?_
  refine XK.norm ?_
  refine XK.ret ?_
  refine XK.norm ?_
  refine XK.still [] [] [0] (by simp) rfl (by decide) (by decide) fun q _ _ hfr => ?_
  exact XK.ret1 rfl rfl fun w1 st => ⟨⟨_, _, ⟨w1, q.Z⟩, rfl, rfl, ⟨g1, sub, rfl, hsub, rfl⟩, st.newR (by simp) (by simp) (hfr (by simp) (by simp))⟩, st.below (by simp)⟩

end Go.Proofs.Ytbgibbbggajgaaa
/- packages bits and word: fields of words. -/
namespace Go.Proofs.Ytbgibbbggajgaaa
set_option linter.all false
open Go.RowKit
def and32 (a b : Int) : Int := IntKind.u32.wrap (BitVec.ofInt 32 a &&& BitVec.ofInt 32 b).toNat
def andN32 (a b : Int) : Int := IntKind.u32.wrap (BitVec.ofInt 32 a &&& ~~~ BitVec.ofInt 32 b).toNat
def or32 (a b : Int) : Int := IntKind.u32.wrap (BitVec.ofInt 32 a ||| BitVec.ofInt 32 b).toNat
theorem u32_bd (a : Int) : 0 ≤ IntKind.u32.wrap a ∧ IntKind.u32.wrap a < 4294967296 := by
  unfold IntKind.wrap
  simp only [IntKind.signed, IntKind.bits, Bool.false_and, Bool.false_eq_true, if_false]
  exact ⟨Int.emod_nonneg _ (by decide), Int.emod_lt_of_pos _ (by decide)⟩
/-- the mask of so many bits, from a bit on -/
def maskZ (many at' : Int) : Int := IntKind.u32.wrap (IntKind.u64.wrap (IntKind.u64.wrap (IntKind.u64.wrap (1 * 2 ^ min many.toNat 64) - 1) * 2 ^ min at'.toNat 64))
def getZ (w low many : Int) : Int := and32 (w.fdiv (2 ^ min low.toNat 32)) (maskZ many 0)
def putZ (w low many v : Int) : Int × Int := if andN32 v (maskZ many 0) ≠ 0 then (0, 1) else (or32 (andN32 w (maskZ many low)) (IntKind.u32.wrap (v * 2 ^ min low.toNat 32)), 0)
def putW (w low many v : Int) : Int × Int := if v < 0 ∨ IntKind.i64.wrap (1 * 2 ^ min many.toNat 64) ≤ v then (0, 1) else if (putZ w low many (IntKind.u32.wrap v)).2 ≠ 0 then (0, 1) else ((putZ w low many (IntKind.u32.wrap v)).1, 0)
def okF (low many : Int) : Prop := 1 ≤ many ∧ many ≤ 32 ∧ 0 ≤ low ∧ low ≤ 32 - many
def FieldOk (many : Int) (v : Value) (w w' : World) : Prop := ∃ g, v = .tuple #[.func (.func 140) #[] #[.pointer (some ⟨g, 0, none⟩)], .bool true] ∧ RP (fresh w w') g 0 (.int .i64 many)

theorem field1_any (a many : Int) (g : Nat) (w : World) (h : ROc w g 0 (.int .i64 many)) (ha : 0 ≤ a) (hm : 0 ≤ many) :
    Calls Try.prog 140 #[.int .i64 a, .pointer (some ⟨g, 0, none⟩)] w (Rt (.int .u32 (maskZ many a)) w) := by
  refine XK.enter (vs := [.int .i64 a, .pointer (some ⟨g, 0, none⟩)]) Try.func140 rfl Try.ntmps140 (by simp) ?_
  refine XK.seq ?_

  refine XK.region ?_
  refine xk_assign rfl (by decide) ?_
  refine XK.nilN ?_
  refine XK.seq ?_

  refine XK.region ?_
  refine xk_load (by kernel_rfl) rfl (Rd.roc (by simp) h) (by decide) ?_
  refine xk_shl rfl rfl (by omega) rfl (by decide) ?_
  refine xk_sub rfl rfl rfl (by decide) ?_
  refine xk_move rfl (by decide) ?_
  refine xk_shl rfl rfl (by omega) rfl (by decide) ?_
  refine xk_conv (kd := .u32) (ds := .int .u64) (by kernel_rfl) (by kernel_rfl) rfl rfl (by decide) ?_
  refine xk_assign rfl (by decide) ?_
  refine XK.nilN ?_
  refine XK.ret ?_
  refine XK.norm ?_
  exact XK.ret1 rfl rfl fun w1 st => ⟨rfl, st.below (by simp)⟩

theorem field_any (low many : Int) (w : World) (hok : okF low many) : Calls Try.prog 139 #[.int .i64 low, .int .i64 many] w (fun y w' => (∃ x, y = .returned x ∧ FieldOk many x w w') ∧ Below w.heap.size w w') := by
  refine XK.enter (vs := [.int .i64 low, .int .i64 many]) Try.func139 rfl Try.ntmps139 (by simp) ?_
  refine XK.seq ?_

  refine XK.region ?_
  refine xk_box rfl (by decide) fun g1 => ?_
  refine xk_assign rfl (by decide) ?_
  refine xk_assign rfl (by decide) ?_
  refine XK.nilN ?_
  refine XK.seq ?_
  refine XK.seq ?_

  refine XK.region ?_
  refine xk_ld rfl ?_
  refine xk_lss rfl rfl (by decide) ?_
  refine xk_move rfl (by decide) ?_
  (first | refine xk_split (t := 8) rfl (fun hg => ?_) (fun hg => ?_) | refine xk_splitB (t := 8) rfl (fun hg => ?_) (fun hg => ?_))
  ·
    refine xk_guardF rfl rfl rfl (by decide) ?_
    refine xk_guardF rfl rfl rfl (by decide) ?_
    (first | refine xk_pickT rfl rfl (by decide) ?_ | refine xk_pickF rfl rfl (by decide) ?_)
    refine xk_move rfl (by decide) ?_
    refine xk_guardF rfl rfl rfl (by decide) ?_
    refine xk_guardF rfl rfl rfl (by decide) ?_
    (first | refine xk_pickT rfl rfl (by decide) ?_ | refine xk_pickF rfl rfl (by decide) ?_)
    refine xk_move rfl (by decide) ?_
    refine xk_guardF rfl rfl rfl (by decide) ?_
    refine xk_guardF rfl rfl rfl (by decide) ?_
    refine xk_guardF rfl rfl rfl (by decide) ?_
    refine xk_guardF rfl rfl rfl (by decide) ?_
    (first | refine xk_pickT rfl rfl (by decide) ?_ | refine xk_pickF rfl rfl (by decide) ?_)
    refine XK.nilN ?_
    refine XK.cond rfl (fun _ => ?_) (fun h => by cases h)
    refine XK.seq ?_

    refine XK.region ?_
    refine xk_assign rfl (by decide) ?_
    refine xk_assign rfl (by decide) ?_
    refine XK.nilN ?_
    refine XK.ret ?_
    refine XK.norm ?_
    exact absurd hok (by unfold okF; omega)
  ·
    refine xk_guardT rfl rfl ?_; refine xk_ld rfl ?_
    refine xk_guardT rfl rfl ?_; refine xk_gtr rfl rfl (by decide) ?_
    (first | refine xk_pickT rfl rfl (by decide) ?_ | refine xk_pickF rfl rfl (by decide) ?_)
    refine xk_move rfl (by decide) ?_
    (first | refine xk_split (t := 12) rfl (fun hg => ?_) (fun hg => ?_) | refine xk_splitB (t := 12) rfl (fun hg => ?_) (fun hg => ?_))
    ·
      refine xk_guardF rfl rfl rfl (by decide) ?_
      refine xk_guardF rfl rfl rfl (by decide) ?_
      (first | refine xk_pickT rfl rfl (by decide) ?_ | refine xk_pickF rfl rfl (by decide) ?_)
      refine xk_move rfl (by decide) ?_
      refine xk_guardF rfl rfl rfl (by decide) ?_
      refine xk_guardF rfl rfl rfl (by decide) ?_
      refine xk_guardF rfl rfl rfl (by decide) ?_
      refine xk_guardF rfl rfl rfl (by decide) ?_
      (first | refine xk_pickT rfl rfl (by decide) ?_ | refine xk_pickF rfl rfl (by decide) ?_)
      refine XK.nilN ?_
      refine XK.cond rfl (fun _ => ?_) (fun h => by cases h)
      refine XK.seq ?_

      refine XK.region ?_
      refine xk_assign rfl (by decide) ?_
      refine xk_assign rfl (by decide) ?_
      refine XK.nilN ?_
      refine XK.ret ?_
      refine XK.norm ?_
      exact absurd hok (by unfold okF; omega)
    ·
      refine xk_guardT rfl rfl ?_; refine xk_move rfl (by decide) ?_
      refine xk_guardT rfl rfl ?_; refine xk_lss rfl rfl (by decide) ?_
      (first | refine xk_pickT rfl rfl (by decide) ?_ | refine xk_pickF rfl rfl (by decide) ?_)
      refine xk_move rfl (by decide) ?_
      (first | refine xk_split (t := 16) rfl (fun hg => ?_) (fun hg => ?_) | refine xk_splitB (t := 16) rfl (fun hg => ?_) (fun hg => ?_))
      ·
        refine xk_guardF rfl rfl rfl (by decide) ?_
        refine xk_guardF rfl rfl rfl (by decide) ?_
        refine xk_guardF rfl rfl rfl (by decide) ?_
        refine xk_guardF rfl rfl rfl (by decide) ?_
        (first | refine xk_pickT rfl rfl (by decide) ?_ | refine xk_pickF rfl rfl (by decide) ?_)
        refine XK.nilN ?_
        refine XK.cond rfl (fun _ => ?_) (fun h => by cases h)
        refine XK.seq ?_

        refine XK.region ?_
        refine xk_assign rfl (by decide) ?_
        refine xk_assign rfl (by decide) ?_
        refine XK.nilN ?_
        refine XK.ret ?_
        refine XK.norm ?_
        exact absurd hok (by unfold okF; omega)
      ·
        refine xk_guardT rfl rfl ?_; refine xk_move rfl (by decide) ?_
        refine xk_guardT rfl rfl ?_; refine xk_ld rfl ?_
        refine xk_guardT rfl rfl ?_; refine xk_sub rfl rfl (wrap_in (by omega)) (by decide) ?_
        refine xk_guardT rfl rfl ?_; refine xk_gtr rfl rfl (by decide) ?_
        (first | refine xk_pickT rfl rfl (by decide) ?_ | refine xk_pickF rfl rfl (by decide) ?_)
        refine XK.nilN ?_
        refine XK.if_ rfl (fun h => ?_) (fun h => ?_)
        ·
          refine XK.seq ?_

          refine XK.region ?_
          refine xk_assign rfl (by decide) ?_
          refine xk_assign rfl (by decide) ?_
          refine XK.nilN ?_
          refine XK.ret ?_
          refine XK.norm ?_
          exact absurd hok (by unfold okF; omega)
        ·
          refine XK.skip ?_
          refine XK.norm ?_
          refine XK.seq ?_

          refine XK.region ?_
          refine xk_func (vf := []) (vc := [.pointer (some ⟨g1, 0, none⟩)]) rfl rfl (by decide) ?_
          refine xk_assign rfl (by decide) ?_
          refine xk_assign rfl (by decide) ?_
          refine XK.nilN ?_
          refine XK.ret ?_
          refine XK.norm ?_
          refine XK.still [] [0] [] (by simp) rfl (by decide) (by decide) fun q hq _ hfr => ?_
          refine XK.ret2 rfl rfl rfl fun w1 st => ⟨⟨_, rfl, g1, rfl, (RP.of_blk (o := 0) (v := .int .i64 many) (hq 0 _ (by simp) rfl) rfl).le (st.fresh_le (by simp) (hfr (by simp) (by simp)))⟩, st.below (by simp)⟩

theorem get_any (w0 low many : Int) (w : World) (hok : okF low many) :
    Calls Try.prog 138 #[.int .u32 w0, .int .i64 low, .int .i64 many] w (Rt (.tuple #[.int .u32 (getZ w0 low many), .int .i64 0]) w) := by
  refine XK.enter (vs := [.int .u32 w0, .int .i64 low, .int .i64 many]) Try.func138 rfl Try.ntmps138 (by simp) ?_
  refine XK.seq ?_

  refine XK.region ?_
  refine xk_assign rfl (by decide) ?_
  refine xk_assign rfl (by decide) ?_
  refine XK.nilN ?_
  refine XK.seq ?_

  refine XK.region ?_
  refine xk_move rfl (by decide) ?_
  refine xk_move rfl (by decide) ?_
  refine xk_call [] (f := 139) (fi := []) (ca := []) (by kernel_rfl) rfl rfl (by decide) (by simp) (FieldOk many) (fun w1 st => field_any low many w1 hok) ?_
  rintro _ w1 q1 ⟨g, rfl, hrp⟩ hf _ _
  have hrp := hrp.le hf
  clear hf
  refine xk_move rfl (by decide) ?_
  refine xk_extract rfl rfl (by decide) ?_
  refine xk_extract rfl rfl (by decide) ?_
  refine xk_assign rfl (by decide) ?_
  refine xk_assign rfl (by decide) ?_
  refine XK.nilN ?_
  refine XK.seq ?_
  refine XK.seq ?_

  refine XK.region ?_
  refine xk_move rfl (by decide) ?_
  (first | refine xk_notD rfl (by decide) ?_ | refine xk_not rfl (by decide) ?_)
  refine XK.nilN ?_
  refine XK.cond rfl (fun h => ?_) (fun h => ?_)
  ·
    refine XK.seq ?_

    refine XK.region ?_
    refine xk_assign rfl (by decide) ?_
    refine xk_assign rfl (by decide) ?_
    refine XK.nilN ?_
    refine XK.ret ?_
    refine XK.norm ?_
    exact absurd h (by simp)
  ·
    refine XK.skip ?_
    refine XK.norm ?_
    refine XK.seq ?_

    refine XK.draw 5 (by kernel_rfl) (by kernel_rfl) ?_
    refine XA.dA 0 rfl rfl rfl (does_move rfl) ?_
    refine XA.dA 1 rfl rfl rfl (does_move rfl) ?_
    refine XA.dA 2 rfl rfl rfl (does_shr rfl rfl (by unfold okF at hok; omega) rfl) ?_
    refine XA.dA 3 rfl rfl rfl (does_move rfl) ?_
    refine XA.next 4 rfl (by kernel_rfl) ?_
    refine xk_callR (f := 140) (fi := []) (ca := [.pointer (some ⟨g, 0, none⟩)]) (by kernel_rfl) rfl rfl (by decide) (fun w1 st => field1_any 0 many g w1 (hrp.le (st.le (by simp))) (by unfold okF at hok; omega) (by unfold okF at hok; omega)) ?_
    refine XA.bk ?_
    refine XA.next 5 rfl (by kernel_rfl) ?_
    refine xk_bits (c := getZ w0 low many) rfl rfl (fun _ => rfl) (by simp) (by decide) ?_
    refine XA.bt ?_
    refine XA.next 6 rfl (by kernel_rfl) ?_
    refine xk_assign rfl (by decide) ?_
    refine XA.bt ?_
    refine XA.next 7 rfl (by kernel_rfl) ?_
    refine xk_assign rfl (by decide) ?_
    refine XA.bt ?_
    refine XA.done (by kernel_rfl) ?_
    refine XK.norm ?_
    refine XK.ret ?_
    refine XK.norm ?_
    exact XK.ret2 rfl rfl rfl fun w1 st => ⟨rfl, st.below (by simp)⟩

theorem putb_any (w0 low many v : Int) (w : World) (hok : okF low many) :
    Calls Try.prog 137 #[.int .u32 w0, .int .i64 low, .int .i64 many, .int .u32 v] w (Rt (.tuple #[.int .u32 (putZ w0 low many v).1, .int .i64 (putZ w0 low many v).2]) w) := by
  refine XK.enter (vs := [.int .u32 w0, .int .i64 low, .int .i64 many, .int .u32 v]) Try.func137 rfl Try.ntmps137 (by simp) ?_
  refine XK.seq ?_

  refine XK.region ?_
  refine xk_assign rfl (by decide) ?_
  refine xk_assign rfl (by decide) ?_
  refine XK.nilN ?_
  refine XK.seq ?_

  refine XK.region ?_
  refine xk_move rfl (by decide) ?_
  refine xk_move rfl (by decide) ?_
  refine xk_call [] (f := 139) (fi := []) (ca := []) (by kernel_rfl) rfl rfl (by decide) (by simp) (FieldOk many) (fun w1 st => field_any low many w1 hok) ?_
  rintro _ w1 q1 ⟨g, rfl, hrp⟩ hf _ _
  have hrp := hrp.le hf
  clear hf
  refine xk_move rfl (by decide) ?_
  refine xk_extract rfl rfl (by decide) ?_
  refine xk_extract rfl rfl (by decide) ?_
  refine xk_assign rfl (by decide) ?_
  refine xk_assign rfl (by decide) ?_
  refine XK.nilN ?_
  refine XK.seq ?_
  refine XK.seq ?_

  refine XK.region ?_
  refine xk_move rfl (by decide) ?_
  (first | refine xk_notD rfl (by decide) ?_ | refine xk_not rfl (by decide) ?_)
  refine XK.nilN ?_
  refine XK.cond rfl (fun h => ?_) (fun h => ?_)
  ·
    refine XK.seq ?_

    refine XK.region ?_
    refine xk_assign rfl (by decide) ?_
    refine xk_assign rfl (by decide) ?_
    refine XK.nilN ?_
    refine XK.ret ?_
    refine XK.norm ?_
    exact absurd h (by simp)
  ·
    refine XK.skip ?_
    refine XK.norm ?_
    refine XK.seq ?_
    refine XK.seq ?_

    refine XK.region ?_
    refine xk_move rfl (by decide) ?_
    refine xk_move rfl (by decide) ?_
    refine xk_callR (f := 140) (fi := []) (ca := [.pointer (some ⟨g, 0, none⟩)]) (by kernel_rfl) rfl rfl (by decide) (fun w1 st => field1_any 0 many g w1 (hrp.le (st.le (by simp))) (by unfold okF at hok; omega) (by unfold okF at hok; omega)) ?_
    refine xk_bits (c := andN32 v (maskZ many 0)) rfl rfl (fun _ => rfl) (by simp) (by decide) ?_
    refine xk_neq rfl rfl (by decide) ?_
    refine XK.nilN ?_
    refine XK.if_ rfl (fun h => ?_) (fun h => ?_)
    ·
      refine XK.seq ?_

      refine XK.region ?_
      refine xk_assign rfl (by decide) ?_
      refine xk_assign rfl (by decide) ?_
      refine XK.nilN ?_
      refine XK.ret ?_
      refine XK.norm ?_
      refine XK.ret2 rfl rfl rfl fun w1 st => ⟨by rw [putZ, if_pos h], st.below (by simp)⟩
    ·
      refine XK.skip ?_
      refine XK.norm ?_
      refine XK.seq ?_

      refine XK.draw 8 (by kernel_rfl) (by kernel_rfl) ?_
      refine XA.dA 0 rfl rfl rfl (does_move rfl) ?_
      refine XA.dA 1 rfl rfl rfl (does_move rfl) ?_
      refine XA.dA 2 rfl rfl rfl (does_move rfl) ?_
      refine XA.dA 5 rfl rfl rfl (does_move rfl) ?_
      refine XA.dA 6 rfl rfl rfl (does_move rfl) ?_
      refine XA.dA 7 rfl rfl rfl (does_shl rfl rfl (by unfold okF at hok; omega) rfl) ?_
      refine XA.next 3 rfl (by kernel_rfl) ?_
      refine xk_callR (f := 140) (fi := []) (ca := [.pointer (some ⟨g, 0, none⟩)]) (by kernel_rfl) rfl rfl (by decide) (fun w1 st => field1_any low many g w1 (hrp.le (st.le (by simp))) (by unfold okF at hok; omega) (by unfold okF at hok; omega)) ?_
      refine XA.bk ?_
      refine XA.dA 4 rfl rfl rfl (does_bits (c := andN32 w0 (maskZ many low)) rfl rfl (fun _ => rfl) (by simp)) ?_
      refine XA.next 8 rfl (by kernel_rfl) ?_
      refine xk_bits (c := or32 (andN32 w0 (maskZ many low)) (IntKind.u32.wrap (v * 2 ^ min low.toNat 32))) rfl rfl (fun _ => rfl) (by simp) (by decide) ?_
      refine XA.bt ?_
      refine XA.next 9 rfl (by kernel_rfl) ?_
      refine xk_assign rfl (by decide) ?_
      refine XA.bt ?_
      refine XA.next 10 rfl (by kernel_rfl) ?_
      refine xk_assign rfl (by decide) ?_
      refine XA.bt ?_
      refine XA.done (by kernel_rfl) ?_
      refine XK.norm ?_
      refine XK.ret ?_
      refine XK.norm ?_
      refine XK.ret2 rfl rfl rfl fun w1 st => ⟨by rw [putZ, if_neg h], st.below (by simp)⟩

theorem part_any (w0 low many : Int) (w : World) (hok : okF low many) :
    Calls Try.prog 135 #[.int .u32 w0, .int .i64 low, .int .i64 many] w (Rt (.int .i64 (getZ w0 low many)) w) := by
  refine XK.enter (vs := [.int .u32 w0, .int .i64 low, .int .i64 many]) Try.func135 rfl Try.ntmps135 (by simp) ?_
  refine XK.seq ?_

  refine XK.region ?_
  refine xk_assign rfl (by decide) ?_
  refine XK.nilN ?_
  refine XK.seq ?_

  refine XK.region ?_
  refine xk_move rfl (by decide) ?_
  refine xk_move rfl (by decide) ?_
  refine xk_move rfl (by decide) ?_
  refine xk_callR (f := 138) (fi := []) (ca := []) (by kernel_rfl) rfl rfl (by decide) (fun w1 st => get_any w0 low many w1 hok) ?_
  refine xk_move rfl (by decide) ?_
  refine xk_extract rfl rfl (by decide) ?_
  refine xk_extract rfl rfl (by decide) ?_
  refine xk_assign rfl (by decide) ?_
  refine xk_assign rfl (by decide) ?_
  refine XK.nilN ?_
  refine XK.seq ?_

  refine XK.region ?_
  refine xk_move rfl (by decide) ?_
  refine xk_conv (ds := .int .u32) (by kernel_rfl) (by kernel_rfl) rfl (wrap_in (by have := u32_bd (BitVec.ofInt 32 (w0.fdiv (2 ^ min low.toNat 32)) &&& BitVec.ofInt 32 (maskZ many 0)).toNat; unfold getZ and32; omega)) (by decide) ?_
  refine xk_assign rfl (by decide) ?_
  refine XK.nilN ?_
  refine XK.ret ?_
  refine XK.norm ?_
  exact XK.ret1 rfl rfl fun w1 st => ⟨rfl, st.below (by simp)⟩

theorem put_any (w0 low many v : Int) (w : World) (hok : okF low many) :
    Calls Try.prog 134 #[.int .u32 w0, .int .i64 low, .int .i64 many, .int .i64 v] w (Rt (.tuple #[.int .u32 (putW w0 low many v).1, .int .i64 (putW w0 low many v).2]) w) := by
  refine XK.enter (vs := [.int .u32 w0, .int .i64 low, .int .i64 many, .int .i64 v]) Try.func134 rfl Try.ntmps134 (by simp) ?_
  refine XK.seq ?_

  refine XK.region ?_
  refine xk_assign rfl (by decide) ?_
  refine xk_assign rfl (by decide) ?_
  refine XK.nilN ?_
  refine XK.seq ?_
  refine XK.seq ?_

  refine XK.region ?_
  refine xk_move rfl (by decide) ?_
  refine xk_lss rfl rfl (by decide) ?_
  refine xk_move rfl (by decide) ?_
  (first | refine xk_split (t := 13) rfl (fun hg => ?_) (fun hg => ?_) | refine xk_splitB (t := 13) rfl (fun hg => ?_) (fun hg => ?_))
  ·
    refine xk_guardF rfl rfl rfl (by decide) ?_
    refine xk_guardF rfl rfl rfl (by decide) ?_
    refine xk_guardF rfl rfl rfl (by decide) ?_
    refine xk_guardF rfl rfl rfl (by decide) ?_
    (first | refine xk_pickT rfl rfl (by decide) ?_ | refine xk_pickF rfl rfl (by decide) ?_)
    refine XK.nilN ?_
    refine XK.cond rfl (fun _ => ?_) (fun h => by cases h)
    refine XK.seq ?_

    refine XK.region ?_
    refine xk_assign rfl (by decide) ?_
    refine xk_assign rfl (by decide) ?_
    refine XK.nilN ?_
    refine XK.ret ?_
    refine XK.norm ?_
    refine XK.ret2 rfl rfl rfl fun w1 st => ⟨by rw [putW, if_pos (.inl hg)], st.below (by simp)⟩
  ·
    refine xk_guardT rfl rfl ?_; refine xk_move rfl (by decide) ?_
    refine xk_guardT rfl rfl ?_; refine xk_move rfl (by decide) ?_
    refine xk_guardT rfl rfl ?_; refine xk_shl rfl rfl (by unfold okF at hok; omega) rfl (by decide) ?_
    refine xk_guardT rfl rfl ?_; refine xk_geq rfl rfl (by decide) ?_
    (first | refine xk_pickT rfl rfl (by decide) ?_ | refine xk_pickF rfl rfl (by decide) ?_)
    refine XK.nilN ?_
    refine XK.if_ rfl (fun h => ?_) (fun h => ?_)
    ·
      refine XK.seq ?_

      refine XK.region ?_
      refine xk_assign rfl (by decide) ?_
      refine xk_assign rfl (by decide) ?_
      refine XK.nilN ?_
      refine XK.ret ?_
      refine XK.norm ?_
      refine XK.ret2 rfl rfl rfl fun w1 st => ⟨by rw [putW, if_pos (.inr h)], st.below (by simp)⟩
    ·
      refine XK.skip ?_
      have hno : ¬ (v < 0 ∨ IntKind.i64.wrap (1 * 2 ^ min many.toNat 64) ≤ v) := fun h2 => h2.elim hg h
      refine XK.norm ?_
      refine XK.seq ?_

      refine XK.region ?_
      refine xk_move rfl (by decide) ?_
      refine xk_move rfl (by decide) ?_
      refine xk_move rfl (by decide) ?_
      refine xk_move rfl (by decide) ?_
      refine xk_conv (kd := .u32) (ds := .int .i64) (by kernel_rfl) (by kernel_rfl) rfl rfl (by decide) ?_
      refine xk_callR (f := 137) (fi := []) (ca := []) (by kernel_rfl) rfl rfl (by decide) (fun w1 st => putb_any w0 low many (IntKind.u32.wrap v) w1 hok) ?_
      refine xk_move rfl (by decide) ?_
      refine xk_extract rfl rfl (by decide) ?_
      refine xk_extract rfl rfl (by decide) ?_
      refine xk_assign rfl (by decide) ?_
      refine xk_assign rfl (by decide) ?_
      refine XK.nilN ?_
      refine XK.seq ?_
      refine XK.seq ?_

      refine XK.region ?_
      refine xk_move rfl (by decide) ?_
      refine xk_neq rfl rfl (by decide) ?_
      refine XK.nilN ?_
      refine XK.if_ rfl (fun h2 => ?_) (fun h2 => ?_)
      ·
        refine XK.seq ?_

        refine XK.region ?_
        refine xk_assign rfl (by decide) ?_
        refine xk_assign rfl (by decide) ?_
        refine XK.nilN ?_
        refine XK.ret ?_
        refine XK.norm ?_
        refine XK.ret2 rfl rfl rfl fun w1 st => ⟨by rw [putW, if_neg hno, if_pos h2], st.below (by simp)⟩
      ·
        refine XK.skip ?_
        refine XK.norm ?_
        refine XK.seq ?_

        refine XK.region ?_
        refine xk_move rfl (by decide) ?_
        refine xk_assign rfl (by decide) ?_
        refine xk_assign rfl (by decide) ?_
        refine XK.nilN ?_
        refine XK.ret ?_
        refine XK.norm ?_
        refine XK.ret2 rfl rfl rfl fun w1 st => ⟨by rw [putW, if_neg hno, if_neg h2]; rfl, st.below (by simp)⟩

end Go.Proofs.Ytbgibbbggajgaaa
/- package word: heads, rows of words; a step's words. -/
namespace Go.Proofs.Ytbgibbbggajgaaa
set_option linter.all false
open Go.RowKit
def packZ (m t p k : Int) : Int × Int :=
  if (putW 0 0 8 m).2 ≠ 0 then (0, (putW 0 0 8 m).2)
  else if (putW (putW 0 0 8 m).1 8 2 t).2 ≠ 0 then (0, (putW (putW 0 0 8 m).1 8 2 t).2)
  else if (putW (putW (putW 0 0 8 m).1 8 2 t).1 10 8 p).2 ≠ 0 then (0, (putW (putW (putW 0 0 8 m).1 8 2 t).1 10 8 p).2)
  else if (putW (putW (putW (putW 0 0 8 m).1 8 2 t).1 10 8 p).1 18 10 k).2 ≠ 0 then (0, (putW (putW (putW (putW 0 0 8 m).1 8 2 t).1 10 8 p).1 18 10 k).2)
  else ((putW (putW (putW (putW 0 0 8 m).1 8 2 t).1 10 8 p).1 18 10 k).1, 0)
def headC (m t p k : Int) : List Value := [.int .i64 m, .int .i64 t, .int .i64 p, .int .i64 k]
def unpackH (w : Int) : List Value := if getZ w 28 4 ≠ 0 then headC 0 0 0 0 else headC (getZ w 0 8) (getZ w 8 2) (getZ w 10 8) (getZ w 18 10)
def unpackE (w : Int) : Int := if getZ w 28 4 ≠ 0 then 2 else 0
theorem u32Cells_one (l : List Int) : ∀ u ∈ u32Cells l, u.oneCell' = true := by
  intro u hu
  simp only [u32Cells, List.mem_map] at hu
  obtain ⟨_, _, rfl⟩ := hu
  rfl
def RowOk (l : List Int) (v : Value) (w w' : World) : Prop := ∃ A c, v = .slice A l.length c ∧ SlS (fresh w w') 1 A l.length (u32Cells l)

theorem pack_any (m t p k : Int) (w : World) :
    Calls Try.prog 105 #[.agg #[.int .i64 m, .int .i64 t, .int .i64 p, .int .i64 k]] w (Rt (.tuple #[.int .u32 (packZ m t p k).1, .int .i64 (packZ m t p k).2]) w) := by
  refine XK.enter (vs := [.agg #[.int .i64 m, .int .i64 t, .int .i64 p, .int .i64 k]]) Try.func105 rfl Try.ntmps105 (by simp) ?_
  refine XK.seq ?_

  refine XK.region ?_
  refine xk_box rfl (by decide) fun g1 => ?_
  refine xk_assign rfl (by decide) ?_
  refine xk_assign rfl (by decide) ?_
  refine XK.nilN ?_
  refine XK.seq ?_

  refine XK.region ?_
  refine xk_field (off := 0) (by kernel_rfl) rfl (by decide) ?_
  refine xk_ld rfl ?_
  refine xk_callR (f := 134) (fi := []) (ca := []) (by kernel_rfl) rfl rfl (by decide) (fun w1 st => put_any 0 0 8 m w1 (by unfold okF; omega)) ?_
  refine xk_move rfl (by decide) ?_
  refine xk_extract rfl rfl (by decide) ?_
  refine xk_extract rfl rfl (by decide) ?_
  refine xk_assign rfl (by decide) ?_
  refine xk_assign rfl (by decide) ?_
  refine XK.nilN ?_
  refine XK.seq ?_
  refine XK.seq ?_

  refine XK.region ?_
  refine xk_move rfl (by decide) ?_
  refine xk_neq rfl rfl (by decide) ?_
  refine XK.nilN ?_
  refine XK.if_ rfl (fun h1 => ?_) (fun h1 => ?_)
  ·
    refine XK.seq ?_

    refine XK.region ?_
    refine xk_move rfl (by decide) ?_
    refine xk_assign rfl (by decide) ?_
    refine xk_assign rfl (by decide) ?_
    refine XK.nilN ?_
    refine XK.ret ?_
    refine XK.norm ?_
    refine XK.ret2 rfl rfl rfl fun w1 st => ⟨by rw [packZ, if_pos h1]; rfl, st.below (by simp)⟩
  ·
    refine XK.skip ?_
    refine XK.norm ?_
    refine XK.seq ?_
    refine XK.seq ?_

    refine XK.region ?_
    refine xk_move rfl (by decide) ?_
    refine xk_field (off := 1) (by kernel_rfl) rfl (by decide) ?_
    refine xk_ld rfl ?_
    refine xk_callR (f := 134) (fi := []) (ca := []) (by kernel_rfl) rfl rfl (by decide) (fun w1 st => put_any (putW 0 0 8 m).1 8 2 t w1 (by unfold okF; omega)) ?_
    refine xk_move rfl (by decide) ?_
    refine xk_extract rfl rfl (by decide) ?_
    refine xk_extract rfl rfl (by decide) ?_
    refine xk_assign rfl (by decide) ?_
    refine xk_assign rfl (by decide) ?_
    refine XK.nilN ?_
    refine XK.seq ?_

    refine XK.region ?_
    refine xk_move rfl (by decide) ?_
    refine xk_neq rfl rfl (by decide) ?_
    refine XK.nilN ?_
    refine XK.if_ rfl (fun h2 => ?_) (fun h2 => ?_)
    ·
      refine XK.seq ?_

      refine XK.region ?_
      refine xk_move rfl (by decide) ?_
      refine xk_assign rfl (by decide) ?_
      refine xk_assign rfl (by decide) ?_
      refine XK.nilN ?_
      refine XK.ret ?_
      refine XK.norm ?_
      refine XK.ret2 rfl rfl rfl fun w1 st => ⟨by rw [packZ, if_neg h1, if_pos h2]; rfl, st.below (by simp)⟩
    ·
      refine XK.skip ?_
      refine XK.norm ?_
      refine XK.seq ?_
      refine XK.seq ?_

      refine XK.region ?_
      refine xk_move rfl (by decide) ?_
      refine xk_field (off := 2) (by kernel_rfl) rfl (by decide) ?_
      refine xk_ld rfl ?_
      refine xk_callR (f := 134) (fi := []) (ca := []) (by kernel_rfl) rfl rfl (by decide) (fun w1 st => put_any (putW (putW 0 0 8 m).1 8 2 t).1 10 8 p w1 (by unfold okF; omega)) ?_
      refine xk_move rfl (by decide) ?_
      refine xk_extract rfl rfl (by decide) ?_
      refine xk_extract rfl rfl (by decide) ?_
      refine xk_assign rfl (by decide) ?_
      refine xk_assign rfl (by decide) ?_
      refine XK.nilN ?_
      refine XK.seq ?_

      refine XK.region ?_
      refine xk_move rfl (by decide) ?_
      refine xk_neq rfl rfl (by decide) ?_
      refine XK.nilN ?_
      refine XK.if_ rfl (fun h3 => ?_) (fun h3 => ?_)
      ·
        refine XK.seq ?_

        refine XK.region ?_
        refine xk_move rfl (by decide) ?_
        refine xk_assign rfl (by decide) ?_
        refine xk_assign rfl (by decide) ?_
        refine XK.nilN ?_
        refine XK.ret ?_
        refine XK.norm ?_
        refine XK.ret2 rfl rfl rfl fun w1 st => ⟨by rw [packZ, if_neg h1, if_neg h2, if_pos h3]; rfl, st.below (by simp)⟩
      ·
        refine XK.skip ?_
        refine XK.norm ?_
        refine XK.seq ?_
        refine XK.seq ?_

        refine XK.region ?_
        refine xk_move rfl (by decide) ?_
        refine xk_field (off := 3) (by kernel_rfl) rfl (by decide) ?_
        refine xk_ld rfl ?_
        refine xk_callR (f := 134) (fi := []) (ca := []) (by kernel_rfl) rfl rfl (by decide) (fun w1 st => put_any (putW (putW (putW 0 0 8 m).1 8 2 t).1 10 8 p).1 18 10 k w1 (by unfold okF; omega)) ?_
        refine xk_move rfl (by decide) ?_
        refine xk_extract rfl rfl (by decide) ?_
        refine xk_extract rfl rfl (by decide) ?_
        refine xk_assign rfl (by decide) ?_
        refine xk_assign rfl (by decide) ?_
        refine XK.nilN ?_
        refine XK.seq ?_

        refine XK.region ?_
        refine xk_move rfl (by decide) ?_
        refine xk_neq rfl rfl (by decide) ?_
        refine XK.nilN ?_
        refine XK.if_ rfl (fun h4 => ?_) (fun h4 => ?_)
        ·
          refine XK.seq ?_

          refine XK.region ?_
          refine xk_move rfl (by decide) ?_
          refine xk_assign rfl (by decide) ?_
          refine xk_assign rfl (by decide) ?_
          refine XK.nilN ?_
          refine XK.ret ?_
          refine XK.norm ?_
          refine XK.ret2 rfl rfl rfl fun w1 st => ⟨by rw [packZ, if_neg h1, if_neg h2, if_neg h3, if_pos h4]; rfl, st.below (by simp)⟩
        ·
          refine XK.skip ?_
          refine XK.norm ?_
          refine XK.seq ?_

          refine XK.region ?_
          refine xk_move rfl (by decide) ?_
          refine xk_assign rfl (by decide) ?_
          refine xk_assign rfl (by decide) ?_
          refine XK.nilN ?_
          refine XK.ret ?_
          refine XK.norm ?_
          refine XK.ret2 rfl rfl rfl fun w1 st => ⟨by rw [packZ, if_neg h1, if_neg h2, if_neg h3, if_neg h4]; rfl, st.below (by simp)⟩

theorem unpack_any (w0 : Int) (w : World) :
    Calls Try.prog 107 #[.int .u32 w0] w (Rt (.tuple #[.agg (unpackH w0).toArray, .int .i64 (unpackE w0)]) w) := by
  refine XK.enter (vs := [.int .u32 w0]) Try.func107 rfl Try.ntmps107 (by simp) ?_
  refine XK.seq ?_

  refine XK.region ?_
  refine xk_alloc (cs := [.int .i64 0, .int .i64 0, .int .i64 0, .int .i64 0]) (zeroB_of (by kernel_rfl)) (by decide) fun g1 => ?_
  refine xk_assign rfl (by decide) ?_
  refine XK.nilN ?_
  refine XK.seq ?_
  refine XK.seq ?_

  refine XK.region ?_
  refine xk_move rfl (by decide) ?_
  refine xk_callR (f := 135) (fi := []) (ca := []) (by kernel_rfl) rfl rfl (by decide) (fun w1 st => part_any w0 28 4 w1 (by unfold okF; omega)) ?_
  refine xk_neq rfl rfl (by decide) ?_
  refine XK.nilN ?_
  refine XK.if_ rfl (fun h => ?_) (fun h => ?_)
  ·
    refine XK.seq ?_

    refine XK.region ?_
    refine xk_buildS (zs := [.int .i64 0, .int .i64 0, .int .i64 0, .int .i64 0]) (L := [(0, 1), (1, 1), (2, 1), (3, 1)]) (zeroB_of (by kernel_rfl)) (by kernel_rfl) rfl (by simp [fillL, setN, Value.cells]; rfl) (by decide) ?_
    (first | (refine xk_storeN 0 rfl rfl rfl (by kernel_rfl) (by simp [Value.cells, Value.oneCell']) (by simp [Value.cells]) ?_) | (refine xk_storeN 1 rfl rfl rfl (by kernel_rfl) (by simp [Value.cells, Value.oneCell']) (by simp [Value.cells]) ?_) | (refine xk_storeN 2 rfl rfl rfl (by kernel_rfl) (by simp [Value.cells, Value.oneCell']) (by simp [Value.cells]) ?_) | (refine xk_storeN 3 rfl rfl rfl (by kernel_rfl) (by simp [Value.cells, Value.oneCell']) (by simp [Value.cells]) ?_) | (refine xk_storeN 4 rfl rfl rfl (by kernel_rfl) (by simp [Value.cells, Value.oneCell']) (by simp [Value.cells]) ?_) | (refine xk_storeN 5 rfl rfl rfl (by kernel_rfl) (by simp [Value.cells, Value.oneCell']) (by simp [Value.cells]) ?_) | (refine xk_storeN 6 rfl rfl rfl (by kernel_rfl) (by simp [Value.cells, Value.oneCell']) (by simp [Value.cells]) ?_) | (refine xk_storeN 7 rfl rfl rfl (by kernel_rfl) (by simp [Value.cells, Value.oneCell']) (by simp [Value.cells]) ?_) | (refine xk_storeN 8 rfl rfl rfl (by kernel_rfl) (by simp [Value.cells, Value.oneCell']) (by simp [Value.cells]) ?_)); simp only [putN, Value.cells, List.set, List.take, List.drop, List.nil_append, List.append_nil, List.length_cons, List.length_nil, List.cons_append, Nat.reduceAdd]
    refine xk_assign rfl (by decide) ?_
    refine XK.nilN ?_
    refine XK.ret ?_
    refine XK.norm ?_
    refine XK.retCT rfl (n := 4) (vs := headC 0 0 0 0) (by kernel_rfl) rfl rfl (RdN.whole 0 rfl) rfl fun w1 st => ⟨by rw [unpackH, unpackE, if_pos h, if_pos h], st.below (by simp)⟩
  ·
    refine XK.skip ?_
    refine XK.norm ?_
    refine XK.seq ?_

    refine XK.region ?_
    refine xk_move rfl (by decide) ?_
    refine xk_callR (f := 135) (fi := []) (ca := []) (by kernel_rfl) rfl rfl (by decide) (fun w1 st => part_any w0 0 8 w1 (by unfold okF; omega)) ?_
    refine xk_move rfl (by decide) ?_
    refine xk_callR (f := 135) (fi := []) (ca := []) (by kernel_rfl) rfl rfl (by decide) (fun w1 st => part_any w0 8 2 w1 (by unfold okF; omega)) ?_
    refine xk_move rfl (by decide) ?_
    refine xk_callR (f := 135) (fi := []) (ca := []) (by kernel_rfl) rfl rfl (by decide) (fun w1 st => part_any w0 10 8 w1 (by unfold okF; omega)) ?_
    refine xk_move rfl (by decide) ?_
    refine xk_callR (f := 135) (fi := []) (ca := []) (by kernel_rfl) rfl rfl (by decide) (fun w1 st => part_any w0 18 10 w1 (by unfold okF; omega)) ?_
    refine xk_buildS (zs := [.int .i64 0, .int .i64 0, .int .i64 0, .int .i64 0]) (L := [(0, 1), (1, 1), (2, 1), (3, 1)]) (zeroB_of (by kernel_rfl)) (by kernel_rfl) rfl (by simp [fillL, setN, Value.cells]; rfl) (by decide) ?_
    (first | (refine xk_storeN 0 rfl rfl rfl (by kernel_rfl) (by simp [Value.cells, Value.oneCell']) (by simp [Value.cells]) ?_) | (refine xk_storeN 1 rfl rfl rfl (by kernel_rfl) (by simp [Value.cells, Value.oneCell']) (by simp [Value.cells]) ?_) | (refine xk_storeN 2 rfl rfl rfl (by kernel_rfl) (by simp [Value.cells, Value.oneCell']) (by simp [Value.cells]) ?_) | (refine xk_storeN 3 rfl rfl rfl (by kernel_rfl) (by simp [Value.cells, Value.oneCell']) (by simp [Value.cells]) ?_) | (refine xk_storeN 4 rfl rfl rfl (by kernel_rfl) (by simp [Value.cells, Value.oneCell']) (by simp [Value.cells]) ?_) | (refine xk_storeN 5 rfl rfl rfl (by kernel_rfl) (by simp [Value.cells, Value.oneCell']) (by simp [Value.cells]) ?_) | (refine xk_storeN 6 rfl rfl rfl (by kernel_rfl) (by simp [Value.cells, Value.oneCell']) (by simp [Value.cells]) ?_) | (refine xk_storeN 7 rfl rfl rfl (by kernel_rfl) (by simp [Value.cells, Value.oneCell']) (by simp [Value.cells]) ?_) | (refine xk_storeN 8 rfl rfl rfl (by kernel_rfl) (by simp [Value.cells, Value.oneCell']) (by simp [Value.cells]) ?_)); simp only [putN, Value.cells, List.set, List.take, List.drop, List.nil_append, List.append_nil, List.length_cons, List.length_nil, List.cons_append, Nat.reduceAdd]
    refine xk_assign rfl (by decide) ?_
    refine XK.nilN ?_
    refine XK.ret ?_
    refine XK.norm ?_
    refine XK.retCT rfl (n := 4) (vs := headC (getZ w0 0 8) (getZ w0 8 2) (getZ w0 10 8) (getZ w0 18 10)) (by kernel_rfl) rfl rfl (RdN.whole 0 rfl) rfl fun w1 st => ⟨by rw [unpackH, unpackE, if_neg h, if_neg h], st.below (by simp)⟩

theorem row_any (w0 : Int) (A : Option Addr) (n c : Nat) (zs : List Int) (w : World) (hs : SlS (all w) 1 A n (u32Cells zs)) (hn : n = zs.length) (hn2 : n ≤ 1000000) : Calls Try.prog 106 #[.int .u32 w0, .slice A n c] w (fun y w' => (∃ x, y = .returned x ∧ RowOk (w0 :: zs) x w w') ∧ Below w.heap.size w w') := by
  refine XK.enter (vs := [.int .u32 w0, .slice A n c]) Try.func106 rfl Try.ntmps106 (by simp) ?_
  refine XK.seq ?_

  refine XK.region ?_
  refine xk_assign rfl (by decide) ?_
  refine XK.nilN ?_
  refine XK.seq ?_

  refine XK.region ?_
  refine xk_move rfl (by decide) ?_
  refine xk_len (el := 30) (by kernel_rfl) rfl (by decide) ?_
  refine xk_add rfl rfl (wrap_in (by omega)) (by decide) ?_
  refine xk_makeCapT 1 4 (el := 30) (c := n + 1) (k0 := 1) (kd' := .i64) (by kernel_rfl) (by kernel_rfl) rfl (by rw [Int.natCast_add]; rfl) (by omega) (by omega) (by decide) fun g1 => ?_
  refine xk_assign rfl (by decide) ?_
  refine XK.nilN ?_
  refine XK.seq ?_

  refine XK.region ?_
  refine xk_move rfl (by decide) ?_
  refine xk_move rfl (by decide) ?_
  refine xk_slice (el := 30) (sz := 1) (zs := [.int .u32 0]) (by kernel_rfl) (zeroB_of (by kernel_rfl)) (by kernel_rfl) rfl (by decide) (by decide) rfl (by simp [fillL, setN, Value.cells, List.range_succ, List.set]; rfl) (by decide) fun g2 => ?_
  refine xk_appendT 1 1 4 1 (n' := 1) (el := 30) (by kernel_rfl) (by kernel_rfl) (by decide) rfl rfl rfl (sl_blk 0 rfl rfl) (by simp [Value.oneCell']) rfl (by omega) (by omega) (by decide) fun A1 c1 => ?_
  dsimp only [List.set]
  refine xk_assign rfl (by decide) ?_
  refine XK.nilN ?_
  refine XK.seq ?_

  refine XK.region ?_
  refine xk_move rfl (by decide) ?_
  refine xk_move rfl (by decide) ?_
  refine xk_appendT 1 1 4 n (n' := n + 1) (el := 30) (by kernel_rfl) (by kernel_rfl) (by decide) rfl rfl rfl (sl_ro (by simp) hs) (u32Cells_one _) (by omega) (by omega) (by omega) (by decide) fun A2 c2 => ?_
  dsimp only [List.set]
  refine xk_assign rfl (by decide) ?_
  refine XK.nilN ?_
  refine XK.ret ?_
  refine XK.norm ?_
  refine XK.still [] [1] [] (by simp) rfl (by decide) (by decide) fun q hq _ hfr => ?_
  obtain ⟨F2, sf2, zf2⟩ := hq 1 _ (by simp) rfl
  obtain ⟨Am, cm, hBm, hsm⟩ := SlS.of_own (Y := q.Z) sf2 zf2
  cases hBm
  subst hn
  refine XK.ret1 rfl rfl fun w1 st => ⟨⟨_, rfl, A2, c2, rfl, ?_⟩, st.below (by simp)⟩
  exact SlS.le hsm (st.fresh_le (by simp) (hfr (by simp) (by simp)))

def CmdOk (l : List Int) (v : Value) (w w' : World) : Prop := ∃ A c, v = .tuple #[.slice A l.length c, .int .i64 0] ∧ SlS (fresh w w') 1 A l.length (u32Cells l)
theorem command_any (m t p k : Int) (A : Option Addr) (n c : Nat) (zs : List Int) (w : World) (hs : SlS (all w) 1 A n (u32Cells zs)) (hn : n = zs.length) (hn2 : n ≤ 1000000) (hok : (packZ m t p k).2 = 0) : Calls Try.prog 55 #[.agg #[.int .i64 m, .int .i64 t, .int .i64 p, .int .i64 k], .slice A n c] w (fun y w' => (∃ x, y = .returned x ∧ CmdOk ((packZ m t p k).1 :: zs) x w w') ∧ Below w.heap.size w w') := by
  refine XK.enter (vs := [.agg #[.int .i64 m, .int .i64 t, .int .i64 p, .int .i64 k], .slice A n c]) Try.func55 rfl Try.ntmps55 (by simp) ?_
  refine XK.seq ?_

  refine XK.region ?_
  refine xk_box rfl (by decide) fun g1 => ?_
  refine xk_assign rfl (by decide) ?_
  refine xk_assign rfl (by decide) ?_
  refine XK.nilN ?_
  refine XK.seq ?_

  refine XK.region ?_
  refine xk_ldN 4 rfl ?_
  refine xk_callR (f := 105) (fi := []) (ca := []) (by kernel_rfl) rfl rfl (by decide) (fun w1 st => pack_any m t p k w1) ?_
  refine xk_move rfl (by decide) ?_
  refine xk_extract rfl rfl (by decide) ?_
  refine xk_extract rfl rfl (by decide) ?_
  refine xk_assign rfl (by decide) ?_
  refine xk_assign rfl (by decide) ?_
  refine XK.nilN ?_
  refine XK.seq ?_
  refine XK.seq ?_

  refine XK.region ?_
  refine xk_move rfl (by decide) ?_
  refine xk_neq rfl rfl (by decide) ?_
  refine XK.nilN ?_
  refine XK.if_ rfl (fun h => ?_) (fun h => ?_)
  ·
    refine XK.seq ?_

    refine XK.region ?_
    refine xk_move rfl (by decide) ?_
    refine xk_assign rfl (by decide) ?_
    refine xk_assign rfl (by decide) ?_
    refine XK.nilN ?_
    refine XK.ret ?_
    refine XK.norm ?_
    exact absurd hok h
  ·
    refine XK.skip ?_
    refine XK.norm ?_
    refine XK.seq ?_

    refine XK.region ?_
    refine xk_move rfl (by decide) ?_
    refine xk_move rfl (by decide) ?_
    refine xk_call [] (f := 106) (fi := []) (ca := []) (by kernel_rfl) rfl rfl (by decide) (by simp) (RowOk ((packZ m t p k).1 :: zs)) (fun w1 st => row_any (packZ m t p k).1 A n c zs w1 (hs.le (st.le (by simp))) hn hn2) ?_
    rintro _ w1 q1 ⟨A1, c1, rfl, h1⟩ hf _ hF1
    have hF1 := hF1 (by simp)
    have h1 := h1.le hf
    clear hf
    refine xk_assign rfl (by decide) ?_
    refine xk_assign rfl (by decide) ?_
    refine XK.nilN ?_
    refine XK.ret ?_
    refine XK.norm ?_
    refine XK.ret2 rfl rfl rfl fun w1 st => ⟨⟨_, rfl, A1, c1, rfl, SlS.le h1 (st.fresh_le (by simp) hF1)⟩, st.below (by simp)⟩

theorem words_any (pr m id v k : Int) (w : World) (hok : (packZ m 0 pr k).2 = 0) : Calls Try.prog 36 #[.agg #[.int .i64 pr, .int .i64 m, .int .u32 id, .int .u32 v], .int .i64 k] w (fun y w' => (∃ x, y = .returned x ∧ CmdOk [(packZ m 0 pr k).1, id, v] x w w') ∧ Below w.heap.size w w') := by
  refine XK.enter (vs := [.agg #[.int .i64 pr, .int .i64 m, .int .u32 id, .int .u32 v], .int .i64 k]) Try.func36 rfl Try.ntmps36 (by simp) ?_
  refine XK.seq ?_

  refine XK.region ?_
  refine xk_box rfl (by decide) fun g1 => ?_
  refine xk_assign rfl (by decide) ?_
  refine xk_assign rfl (by decide) ?_
  refine XK.nilN ?_
  refine XK.seq ?_

  refine XK.region ?_
  refine xk_field (off := 1) (by kernel_rfl) rfl (by decide) ?_
  refine xk_ld rfl ?_
  refine xk_field (off := 0) (by kernel_rfl) rfl (by decide) ?_
  refine xk_ld rfl ?_
  refine xk_move rfl (by decide) ?_
  refine xk_buildS (zs := [.int .i64 0, .int .i64 0, .int .i64 0, .int .i64 0]) (L := [(0, 1), (1, 1), (2, 1), (3, 1)]) (zeroB_of (by kernel_rfl)) (by kernel_rfl) rfl (by simp [fillL, setN, Value.cells]; rfl) (by decide) ?_
  refine xk_field (off := 2) (by kernel_rfl) rfl (by decide) ?_
  refine xk_ld rfl ?_
  refine xk_field (off := 3) (by kernel_rfl) rfl (by decide) ?_
  refine xk_ld rfl ?_
  refine xk_slice (el := 30) (sz := 1) (zs := [.int .u32 0]) (by kernel_rfl) (zeroB_of (by kernel_rfl)) (by kernel_rfl) rfl (by decide) (by decide) rfl (by simp [fillL, setN, Value.cells, List.range_succ, List.set]; rfl) (by decide) fun g2 => ?_
  refine xk_call [] (f := 55) (fi := []) (ca := []) (by kernel_rfl) rfl rfl (by decide) (by simp) (CmdOk ((packZ m 0 pr k).1 :: [id, v])) (fun w1 st => command_any m 0 pr k (some ⟨g2, 0, none⟩) 2 2 [id, v] w1 (st.slS (i := 0) rfl rfl) rfl (by omega) hok) ?_
  rintro _ w1 q1 ⟨A1, c1, rfl, h1⟩ hf _ hF1
  have hF1 := hF1 (by simp)
  have h1 := h1.le hf
  clear hf
  refine xk_extract rfl rfl (by decide) ?_
  refine xk_extract rfl rfl (by decide) ?_
  refine xk_assign rfl (by decide) ?_
  refine xk_assign rfl (by decide) ?_
  refine XK.nilN ?_
  refine XK.ret ?_
  refine XK.norm ?_
  refine XK.ret2 rfl rfl rfl fun w1 st => ⟨⟨_, rfl, A1, c1, rfl, SlS.le h1 (st.fresh_le (by simp) hF1)⟩, st.below (by simp)⟩

end Go.Proofs.Ytbgibbbggajgaaa
/- package table: what a row of words asks for. No walk in sight. -/
namespace Go.Proofs.Ytbgibbbggajgaaa
set_option linter.all false
open Go.RowKit
def hMsg (w : Int) : Int := if getZ w 28 4 ≠ 0 then 0 else getZ w 0 8
def hTyp (w : Int) : Int := if getZ w 28 4 ≠ 0 then 0 else getZ w 8 2
def hPro (w : Int) : Int := if getZ w 28 4 ≠ 0 then 0 else getZ w 10 8
def hTok (w : Int) : Int := if getZ w 28 4 ≠ 0 then 0 else getZ w 18 10
theorem unpackH_eq (w : Int) : unpackH w = headC (hMsg w) (hTyp w) (hPro w) (hTok w) := by
  unfold unpackH hMsg hTyp hPro hTok
  split <;> rfl
/-- what a message has -/
structure Frm where
  n : Int
  m : Int
  a : Int
  b : Int
  c : Int
def Frm.v (f : Frm) : Value := frm f.n f.m f.a f.b f.c
def Frm.act (f : Frm) (v : Int) : Int := if v = 0 then f.a else if v = 1 then f.b else f.c
def frmOf (p m : Int) : Option Frm :=
  if m = 0 then (if p = 16 ∨ p = 17 ∨ p = 20 ∨ p = 22 then some ⟨0, 0, 0, 0, 0⟩ else none)
  else if m = 1 then (if p = 16 then some ⟨0, 0, 0, 0, 0⟩ else none)
  else if m = 4 then (if p = 17 then some ⟨2, 3, 100, 117, 107⟩ else if p = 22 then some ⟨2, 2, 114, 97, 0⟩ else none)
  else if m = 5 then (if p = 17 then some ⟨1, 0, 0, 0, 0⟩ else none)
  else if m = 6 then (if p = 20 then some ⟨1, 0, 0, 0, 0⟩ else none)
  else if m = 7 then (if p = 20 then some ⟨2, 2, 111, 99, 0⟩ else none)
  else none
theorem frm_get (p m : Int) : mgetP frmL (p, m) = (frmOf p m).map Frm.v := by
  unfold frmL frmI frmOf
  simp only [List.map_cons, List.map_nil, frmE, mgetP_cons, Prod.mk.injEq]
  by_cases h0 : m = 0
  · subst h0
    by_cases h16 : p = 16
    · subst h16; simp [Frm.v]
    · by_cases h17 : p = 17
      · subst h17; simp [Frm.v]
      · by_cases h20 : p = 20
        · subst h20; simp [Frm.v]
        · by_cases h22 : p = 22
          · subst h22; simp [Frm.v]
          · simp [h16, h17, h20, h22, mgetP, Ne.symm h16, Ne.symm h17, Ne.symm h20, Ne.symm h22]
  · by_cases h1 : m = 1
    · subst h1
      by_cases h16 : p = 16
      · subst h16; simp [Frm.v]
      · simp [h16, Ne.symm h16, mgetP]
    · by_cases h4 : m = 4
      · subst h4
        by_cases h17 : p = 17
        · subst h17; simp [Frm.v]
        · by_cases h22 : p = 22
          · subst h22; simp [Frm.v]
          · simp [h17, h22, Ne.symm h17, Ne.symm h22, mgetP]
      · by_cases h5 : m = 5
        · subst h5
          by_cases h17 : p = 17
          · subst h17; simp [Frm.v]
          · simp [h17, Ne.symm h17, mgetP]
        · by_cases h6 : m = 6
          · subst h6
            by_cases h20 : p = 20
            · subst h20; simp [Frm.v]
            · simp [h20, Ne.symm h20, mgetP]
          · by_cases h7 : m = 7
            · subst h7
              by_cases h20 : p = 20
              · subst h20; simp [Frm.v]
              · simp [h20, Ne.symm h20, mgetP]
            · simp [h0, h1, h4, h5, h6, h7, Ne.symm h0, Ne.symm h1, Ne.symm h4, Ne.symm h5, Ne.symm h6, Ne.symm h7, mgetP]
/-- the form, or nothing -/
def frmD (p m : Int) : Frm := (frmOf p m).getD ⟨0, 0, 0, 0, 0⟩
theorem frm_perm {sub : List Nat} (h : sub.Perm frmI) (p m : Int) : mgetP (sub.reverse.map frmE) (p, m) = (frmOf p m).map Frm.v := by
  rw [← frm_get]
  have hp : (sub.reverse.map frmE).Perm frmL := ((List.reverse_perm sub).trans h).map frmE
  refine mgetP_perm hp ?_ _
  exact ((hp.map (·.1)).nodup_iff).2 (by decide)
theorem frm_look {sub : List Nat} (h : sub.Perm frmI) (p m : Int) : (mgetP (sub.reverse.map frmE) (p, m)).getD (frm 0 0 0 0 0) = (frmD p m).v ∧ (mgetP (sub.reverse.map frmE) (p, m)).isSome = (frmOf p m).isSome := by
  rw [frm_perm h]
  unfold frmD
  cases frmOf p m <;> exact ⟨rfl, rfl⟩
theorem frm_ok (p m : Int) : ((frmD p m).n = 0 ∨ (frmD p m).n = 1 ∨ (frmD p m).n = 2) ∧ 0 ≤ (frmD p m).m ∧ (frmD p m).m ≤ 3 ∧ (∀ v, 0 ≤ v → v < (frmD p m).m → (frmD p m).act v = 107 → p = 17) ∧
    ((frmD p m).m ≠ 0 → p = 17 ∨ p = 20 ∨ p = 22) := by
  unfold frmD frmOf
  by_cases h0 : m = 0
  · by_cases h : p = 16 ∨ p = 17 ∨ p = 20 ∨ p = 22 <;> simp [h0, h] <;> omega
  · by_cases h1 : m = 1
    · by_cases h : p = 16 <;> simp [h1, h] <;> omega
    · by_cases h4 : m = 4
      · by_cases h : p = 17
        · simp [h4, h]
        · by_cases h' : p = 22
          · subst h4 h'
            simp only [Frm.act]
            refine ⟨by simp, by simp, by simp, fun v h1 h2 h3 => ?_, by simp⟩
            simp at h2 h3
            split at h3
            · omega
            · split at h3 <;> omega
          · simp [h4, h, h']; omega
      · by_cases h5 : m = 5
        · by_cases h : p = 17 <;> simp [h5, h] <;> omega
        · by_cases h6 : m = 6
          · by_cases h : p = 20 <;> simp [h6, h] <;> omega
          · by_cases h7 : m = 7
            · by_cases h : p = 20
              · subst h7 h
                simp only [Frm.act]
                refine ⟨by simp, by simp, by simp, fun v h1 h2 h3 => ?_, by simp⟩
                simp at h2 h3
                split at h3
                · omega
                · split at h3 <;> omega
              · simp [h7, h]; omega
            · simp [h0, h1, h4, h5, h6, h7]; omega
def retOf (s : Soc) (k : Nat) : Bool := (s.domains[k]?).any (·.ret)
def kindOf (s : Soc) (k : Nat) : Int := ((s.clocks[k]?).map (·.kind)).getD 0
/-- can the clock be turned on and off? -/
def swit (s : Soc) (k : Nat) : Prop := kindOf s k = 112 ∨ kindOf s k = 103
instance (s : Soc) (k : Nat) : Decidable (swit s k) := inferInstanceAs (Decidable (_ ∨ _))
/-- what is wrong with an act -/
def notF (s : Soc) (p k : Int) (id : Nat) : Prop := (k = 107 ∧ retOf s id = false) ∨ (p = 20 ∧ ¬ swit s id)
instance (s : Soc) (p k : Int) (id : Nat) : Decidable (notF s p k id) := inferInstanceAs (Decidable (_ ∨ _))
def askF (s : Soc) (p : Int) (f : Frm) (id v : Int) : Int × Int × Int :=
  if (numF s p : Int) ≤ id then (-4, 0, 0) else if f.m = 0 then (0, 0, 0) else if f.m ≤ v then (-2, 0, 0) else if notF s p (f.act v) id.toNat then (-2, 0, 0) else (0, f.act v, id)
def readF (s : Soc) (l : List Int) : Int × Int × Int :=
  match l with
  | [] => (-10, 0, 0)
  | w :: r =>
    if unpackE w ≠ 0 ∨ hTyp w ≠ 0 then (-10, 0, 0)
    else if (frmOf (hPro w) (hMsg w)).isSome = false then (-1, 0, 0)
    else if (r.length : Int) ≠ (frmD (hPro w) (hMsg w)).n then (-10, 0, 0)
    else if (frmD (hPro w) (hMsg w)).n = 0 then (0, 0, 0)
    else askF s (hPro w) (frmD (hPro w) (hMsg w)) (r.getD 0 0) (r.getD ((frmD (hPro w) (hMsg w)).n.toNat - 1) 0)
def actV (a : Int × Int × Int) : Value := .tuple #[.int .i32 a.1, .agg #[.int .u8 a.2.1, .int .i64 a.2.2]]
def U32s (l : List Int) : Prop := ∀ x ∈ l, 0 ≤ x ∧ x < 4294967296
theorem SlS.u32 {w : World} {A : Option Addr} {n : Nat} {l : List Int} (h : SlS (all w) 1 A n (u32Cells l)) (hn : 0 < n) : ∃ b off, A = some ⟨b, off, none⟩ ∧ ∀ (i : Nat) (x : Int), l[i]? = some x → ROc w b (off + i) (.int .u32 x) := by
  obtain ⟨b, off, hA, hb, hc⟩ := h.2 hn
  refine ⟨b, off, hA, fun i x hx => ⟨hb, hc i _ ?_⟩⟩
  simp only [u32Cells, List.getElem?_map, hx, Option.map_some]
section
variable {P : Program} {N : Nat} {w0 : World} {e : Env} {R : List Piece} {H : List HP}
theorem XK.retTC {fn : Func} {Post : Ending → World → Prop} {t u n b : Nat} {s : TypeId} {vs : List Value} {v' : Value} (hr : fn.results = #[.tmp u, .cell t s]) (hs : rowB P s n = true) (hn : vs.length = n) (ht : e.get t = some (.pointer (some ⟨b, 0, none⟩))) (hrd : RdN w0 R H b 0 vs) (hu : e.get u = some v') (h : ∀ w, St w0 R H w → Post (.returned (.tuple #[v', .agg vs.toArray])) w) : XK N w0 (bodyPost P fn Post .ret) e R H := fun a w hrp st => by
  have hl := run_load_row (P := P) hs hn (hrd w st)
  refine bodyPost_ret (v := .tuple #[v', .agg vs.toArray]) ?_ hrp.defers (h w st)
  have ha := hrp.get t _ ht
  have hb := hrp.get u _ hu
  simp only [Instr.loadAt, Instr.sureAddr, Sem.run_bind, Sem.run_pure, Result.andThen_ok] at hl
  simp only [results, hr]
  simp [ha, hb, asAddr, hl]
end
end Go.Proofs.Ytbgibbbggajgaaa
/- package table: what the words of a message alone tell. -/
namespace Go.Proofs.Ytbgibbbggajgaaa
set_option linter.all false
open Go.RowKit

theorem number_S (s : Soc) (A1 A2 A3 A4 : Option Addr) (n1 k1 n2 k2 n3 k3 n4 k4 : Nat) (p : Int) {w0 : World} (w : World) (hS : SocW w0 s A1 n1 A2 n2 A3 n3 A4 n4) : Calls Try.prog 109 #[.agg #[.slice A1 n1 k1, .slice A2 n2 k2, .slice A3 n3 k3, .slice A4 n4 k4], .int .i64 p] w (Rt (.int .i64 (numF s p)) w) := by
  obtain ⟨h1, h2, h3, h4⟩ := And.intro hS.len1 (And.intro hS.len2 (And.intro hS.len3 hS.len4))
  subst h1 h2 h3 h4
  exact number_any s A1 A2 A3 A4 k1 k2 k3 k4 p w
theorem read_any (s : Soc) (A1 A2 A3 A4 : Option Addr) (n1 k1 n2 k2 n3 k3 n4 k4 : Nat) (A : Option Addr) (n c : Nat) (l : List Int) (w : World) (hS : SocW w s A1 n1 A2 n2 A3 n3 A4 n4) (hl : SlS (all w) 1 A n (u32Cells l)) (hn : n = l.length) (hn2 : n ≤ 1000000) (hu : U32s l) :
    Calls Try.prog 56 #[.agg #[.slice A1 n1 k1, .slice A2 n2 k2, .slice A3 n3 k3, .slice A4 n4 k4], .slice A n c] w (Rt (actV (readF s l)) w) := by
  refine XK.enter (vs := [.agg #[.slice A1 n1 k1, .slice A2 n2 k2, .slice A3 n3 k3, .slice A4 n4 k4], .slice A n c]) Try.func56 rfl Try.ntmps56 (by simp) ?_
  refine XK.seq ?_

  refine XK.region ?_
  refine xk_box rfl (by decide) fun g1 => ?_
  refine xk_assign rfl (by decide) ?_
  refine xk_alloc (cs := [.int .u8 0, .int .i64 0]) (zeroB_of (by kernel_rfl)) (by decide) fun g2 => ?_
  refine XK.nilN ?_
  refine XK.seq ?_
  refine XK.seq ?_

  refine XK.region ?_
  refine xk_move rfl (by decide) ?_
  refine xk_len (el := 30) (by kernel_rfl) rfl (by decide) ?_
  refine xk_eql rfl rfl (by decide) ?_
  refine XK.nilN ?_
  refine XK.if_ rfl (fun h => ?_) (fun h => ?_)
  ·
    refine XK.seq ?_

    refine XK.region ?_
    refine xk_buildS (zs := [.int .u8 0, .int .i64 0]) (L := [(0, 1), (1, 1)]) (zeroB_of (by kernel_rfl)) (by kernel_rfl) rfl (by simp [fillL, setN, Value.cells]; rfl) (by decide) ?_
    refine xk_assign rfl (by decide) ?_
    (first | (refine xk_storeN 0 rfl rfl rfl (by kernel_rfl) (by simp [Value.cells, Value.oneCell']) (by simp [Value.cells]) ?_) | (refine xk_storeN 1 rfl rfl rfl (by kernel_rfl) (by simp [Value.cells, Value.oneCell']) (by simp [Value.cells]) ?_) | (refine xk_storeN 2 rfl rfl rfl (by kernel_rfl) (by simp [Value.cells, Value.oneCell']) (by simp [Value.cells]) ?_) | (refine xk_storeN 3 rfl rfl rfl (by kernel_rfl) (by simp [Value.cells, Value.oneCell']) (by simp [Value.cells]) ?_) | (refine xk_storeN 4 rfl rfl rfl (by kernel_rfl) (by simp [Value.cells, Value.oneCell']) (by simp [Value.cells]) ?_) | (refine xk_storeN 5 rfl rfl rfl (by kernel_rfl) (by simp [Value.cells, Value.oneCell']) (by simp [Value.cells]) ?_) | (refine xk_storeN 6 rfl rfl rfl (by kernel_rfl) (by simp [Value.cells, Value.oneCell']) (by simp [Value.cells]) ?_) | (refine xk_storeN 7 rfl rfl rfl (by kernel_rfl) (by simp [Value.cells, Value.oneCell']) (by simp [Value.cells]) ?_) | (refine xk_storeN 8 rfl rfl rfl (by kernel_rfl) (by simp [Value.cells, Value.oneCell']) (by simp [Value.cells]) ?_)); simp only [putN, Value.cells, List.set, List.take, List.drop, List.nil_append, List.append_nil, List.length_cons, List.length_nil, List.cons_append, Nat.reduceAdd]
    refine XK.nilN ?_
    refine XK.ret ?_
    refine XK.norm ?_
    have hn0 : l = [] := List.eq_nil_of_length_eq_zero (by have h' : (n : Int) = 0 := h; omega)
    subst hn0
    exact XK.retTC (n := 2) (vs := [.int .u8 0, .int .i64 0]) rfl (by kernel_rfl) rfl rfl (by first | assumption | exact RdN.whole 0 rfl | exact RdN.whole 1 rfl | exact RdN.whole 2 rfl | exact RdN.whole 3 rfl | exact RdN.whole 4 rfl | exact RdN.whole 5 rfl | exact RdN.whole 6 rfl | exact RdN.whole 7 rfl | exact RdN.whole 8 rfl | exact RdN.roc (by simp) (by assumption)) rfl fun w9 st => ⟨rfl, st.below (by simp)⟩
  ·
    obtain ⟨b, off, rfl, hcell⟩ := hl.u32 (show 0 < n by have h' : ¬ (n : Int) = 0 := h; omega)
    obtain ⟨w1, r, rfl⟩ : ∃ x r, l = x :: r := by
      cases l with
      | nil => exact absurd (by simpa using hn) (show ¬ n = 0 by have h' : ¬ (n : Int) = 0 := h; omega)
      | cons x r => exact ⟨x, r, rfl⟩
    have hw1 := hcell 0 w1 rfl
    have hlen : n = r.length + 1 := by simpa using hn
    refine XK.skip ?_
    refine XK.norm ?_
    refine XK.seq ?_

    refine XK.region ?_
    refine xk_move rfl (by decide) ?_
    refine xk_at 0 off (el := 30) (sz := 1) (by kernel_rfl) (by kernel_rfl) rfl rfl (by rfl) (by omega) (by omega) (by decide) ?_
    refine xk_ld rfl ?_
    refine xk_callR (f := 107) (fi := []) (ca := []) (by kernel_rfl) rfl rfl (by decide) (v0 := .tuple #[.agg #[.int .i64 (hMsg w1), .int .i64 (hTyp w1), .int .i64 (hPro w1), .int .i64 (hTok w1)], .int .i64 (unpackE w1)]) (fun w2 st => (unpack_any w1 w2).mono fun x w3 hx => Rt.conv hx (by rw [unpackH_eq]; rfl)) ?_
    refine xk_move rfl (by decide) ?_
    refine xk_extract rfl rfl (by decide) ?_
    refine xk_extract rfl rfl (by decide) ?_
    refine xk_alloc (cs := [.int .i64 0, .int .i64 0, .int .i64 0, .int .i64 0]) (zeroB_of (by kernel_rfl)) (by decide) fun g3 => ?_
    (first | (refine xk_storeN 0 rfl rfl rfl (by kernel_rfl) (by simp [Value.cells, Value.oneCell']) (by simp [Value.cells]) ?_) | (refine xk_storeN 1 rfl rfl rfl (by kernel_rfl) (by simp [Value.cells, Value.oneCell']) (by simp [Value.cells]) ?_) | (refine xk_storeN 2 rfl rfl rfl (by kernel_rfl) (by simp [Value.cells, Value.oneCell']) (by simp [Value.cells]) ?_) | (refine xk_storeN 3 rfl rfl rfl (by kernel_rfl) (by simp [Value.cells, Value.oneCell']) (by simp [Value.cells]) ?_) | (refine xk_storeN 4 rfl rfl rfl (by kernel_rfl) (by simp [Value.cells, Value.oneCell']) (by simp [Value.cells]) ?_) | (refine xk_storeN 5 rfl rfl rfl (by kernel_rfl) (by simp [Value.cells, Value.oneCell']) (by simp [Value.cells]) ?_) | (refine xk_storeN 6 rfl rfl rfl (by kernel_rfl) (by simp [Value.cells, Value.oneCell']) (by simp [Value.cells]) ?_) | (refine xk_storeN 7 rfl rfl rfl (by kernel_rfl) (by simp [Value.cells, Value.oneCell']) (by simp [Value.cells]) ?_) | (refine xk_storeN 8 rfl rfl rfl (by kernel_rfl) (by simp [Value.cells, Value.oneCell']) (by simp [Value.cells]) ?_)); simp only [putN, Value.cells, List.set, List.take, List.drop, List.nil_append, List.append_nil, List.length_cons, List.length_nil, List.cons_append, Nat.reduceAdd]
    refine xk_assign rfl (by decide) ?_
    refine XK.nilN ?_
    refine XK.seq ?_
    refine XK.cutB 30 (unpackE w1 ≠ 0 ∨ hTyp w1 ≠ 0) ?_ ?_
    · skip

      refine XK.region ?_
      refine xk_move rfl (by decide) ?_
      refine xk_neq rfl rfl (by decide) ?_
      refine xk_move rfl (by decide) ?_
      (first | refine xk_split (t := 26) rfl (fun hg => ?_) (fun hg => ?_) | refine xk_splitB (t := 26) rfl (fun hg => ?_) (fun hg => ?_))
      ·
        refine xk_guardF rfl rfl rfl (by decide) ?_
        refine xk_guardF rfl rfl rfl (by decide) ?_
        refine xk_guardF rfl rfl rfl (by decide) ?_
        (first | refine xk_pickT rfl rfl (by decide) ?_ | refine xk_pickF rfl rfl (by decide) ?_)
        refine XK.nilN ?_
        exact XK.meetB (by repeat (first | exact trivial | refine ⟨rfl, ?_⟩)) (by first | exact get_iff rfl (by simp_all [notF, swit]) | exact get_false rfl (by simp_all [notF, swit]) | exact get_true rfl (by simp_all [notF, swit]))
      ·
        refine xk_guardT rfl rfl ?_; refine xk_field (off := 1) (by kernel_rfl) rfl (by decide) ?_
        refine xk_guardT rfl rfl ?_; refine xk_ld rfl ?_
        refine xk_guardT rfl rfl ?_; refine xk_neq rfl rfl (by decide) ?_
        (first | refine xk_pickT rfl rfl (by decide) ?_ | refine xk_pickF rfl rfl (by decide) ?_)
        refine XK.nilN ?_
        exact XK.meetB (by repeat (first | exact trivial | refine ⟨rfl, ?_⟩)) (by first | exact get_iff rfl (by simp_all [notF, swit]) | exact get_false rfl (by simp_all [notF, swit]) | exact get_true rfl (by simp_all [notF, swit]))
    refine XK.if_ rfl (fun h4 => ?_) (fun h4 => ?_)
    ·
      refine XK.seq ?_

      refine XK.region ?_
      refine xk_buildS (zs := [.int .u8 0, .int .i64 0]) (L := [(0, 1), (1, 1)]) (zeroB_of (by kernel_rfl)) (by kernel_rfl) rfl (by simp [fillL, setN, Value.cells]; rfl) (by decide) ?_
      refine xk_assign rfl (by decide) ?_
      (first | (refine xk_storeN 0 rfl rfl rfl (by kernel_rfl) (by simp [Value.cells, Value.oneCell']) (by simp [Value.cells]) ?_) | (refine xk_storeN 1 rfl rfl rfl (by kernel_rfl) (by simp [Value.cells, Value.oneCell']) (by simp [Value.cells]) ?_) | (refine xk_storeN 2 rfl rfl rfl (by kernel_rfl) (by simp [Value.cells, Value.oneCell']) (by simp [Value.cells]) ?_) | (refine xk_storeN 3 rfl rfl rfl (by kernel_rfl) (by simp [Value.cells, Value.oneCell']) (by simp [Value.cells]) ?_) | (refine xk_storeN 4 rfl rfl rfl (by kernel_rfl) (by simp [Value.cells, Value.oneCell']) (by simp [Value.cells]) ?_) | (refine xk_storeN 5 rfl rfl rfl (by kernel_rfl) (by simp [Value.cells, Value.oneCell']) (by simp [Value.cells]) ?_) | (refine xk_storeN 6 rfl rfl rfl (by kernel_rfl) (by simp [Value.cells, Value.oneCell']) (by simp [Value.cells]) ?_) | (refine xk_storeN 7 rfl rfl rfl (by kernel_rfl) (by simp [Value.cells, Value.oneCell']) (by simp [Value.cells]) ?_) | (refine xk_storeN 8 rfl rfl rfl (by kernel_rfl) (by simp [Value.cells, Value.oneCell']) (by simp [Value.cells]) ?_)); simp only [putN, Value.cells, List.set, List.take, List.drop, List.nil_append, List.append_nil, List.length_cons, List.length_nil, List.cons_append, Nat.reduceAdd]
      refine XK.nilN ?_
      refine XK.ret ?_
      refine XK.norm ?_
      exact XK.retTC (n := 2) (vs := [.int .u8 0, .int .i64 0]) rfl (by kernel_rfl) rfl rfl (by first | assumption | exact RdN.whole 0 rfl | exact RdN.whole 1 rfl | exact RdN.whole 2 rfl | exact RdN.whole 3 rfl | exact RdN.whole 4 rfl | exact RdN.whole 5 rfl | exact RdN.whole 6 rfl | exact RdN.whole 7 rfl | exact RdN.whole 8 rfl | exact RdN.roc (by simp) (by assumption)) rfl fun w9 st => ⟨by
        rw [readF, if_pos h4]; rfl, st.below (by simp)⟩
    ·
      refine XK.skip ?_
      refine XK.norm ?_
      refine XK.cut (fun e R H => ∃ g4, e = [(9, .bool (frmOf (hPro w1) (hMsg w1)).isSome), (8, .pointer (some ⟨g4, 0, none⟩)), (7, .int .i64 (unpackE w1)), (6, .pointer (some ⟨g3, 0, none⟩)), (5, .pointer (some ⟨g2, 0, none⟩)), (2, .pointer (some ⟨g1, 0, none⟩)), (1, .slice (some ⟨b, off, none⟩) n c)] ∧ R = [all w] ∧ H = [HP.blk g4 180 [.int .i64 (frmD (hPro w1) (hMsg w1)).n, .int .i64 (frmD (hPro w1) (hMsg w1)).m, .int .u8 (frmD (hPro w1) (hMsg w1)).a, .int .u8 (frmD (hPro w1) (hMsg w1)).b, .int .u8 (frmD (hPro w1) (hMsg w1)).c], HP.blk g3 129 [.int .i64 (hMsg w1), .int .i64 (hTyp w1), .int .i64 (hPro w1), .int .i64 (hTok w1)], HP.blk g2 92 [.int .u8 0, .int .i64 0], HP.blk g1 50 [.slice A1 n1 k1, .slice A2 n2 k2, .slice A3 n3 k3, .slice A4 n4 k4]]) ?_ ?_
      ·

        refine XK.draw 12 (by kernel_rfl) (by kernel_rfl) ?_
        refine XA.dA 1 rfl rfl rfl (does_field (off := 2) (by kernel_rfl) rfl) ?_
        refine XA.dA 2 rfl rfl rfl (does_ld rfl) ?_
        refine XA.dA 3 rfl rfl rfl (does_field (off := 0) (by kernel_rfl) rfl) ?_
        refine XA.dA 4 rfl rfl rfl (does_ld rfl) ?_
        refine XA.dA 5 rfl rfl rfl (does_buildS (zs := [.int .i64 0, .int .i64 0]) (L := [(0, 1), (1, 1)]) (zeroB_of (by kernel_rfl)) (by kernel_rfl) rfl (by simp [fillL, setN, Value.cells]; rfl)) ?_
        refine XA.either 0 10 rfl rfl (by kernel_rfl) ?_ ?_
        · refine xk_callN (f := 108) (fi := []) (ca := []) (by kernel_rfl) rfl rfl (by decide) FormsOk (fun w2 _ => forms_any w2) ?_
          rintro _ _ q1 ⟨gm, sub, rfl, hsub, rfl⟩ _
          simp only [List.cons_append, List.nil_append]
          refine XK.nil ?_; refine XK.thenN ?_; refine XA.back (fun _ h => h.tailR.tail) ?_
          refine XA.either 6 10 rfl rfl (by kernel_rfl) ?_ ?_
          · refine xk_lookupT (v := .agg #[.int .i64 (frmD (hPro w1) (hMsg w1)).n, .int .i64 (frmD (hPro w1) (hMsg w1)).m, .int .u8 (frmD (hPro w1) (hMsg w1)).a, .int .u8 (frmD (hPro w1) (hMsg w1)).b, .int .u8 (frmD (hPro w1) (hMsg w1)).c]) (et := 180) (l := sub.reverse.map frmE) Try.underlying182 msgK (z := frm 0 0 0 0 0) (by kernel_rfl) rfl (k := (hPro w1, hMsg w1)) rfl (fun w2 st => st.mapV (i := 0) rfl) (frm_look hsub _ _).1 (frm_look hsub _ _).2 (by decide) ?_
            refine XK.nil ?_; refine XK.thenN ?_; refine XA.back (fun _ h => h.tailR.tail) ?_
            refine XA.do_ 7 rfl rfl rfl (by decide) (does_move rfl) (by kernel_rfl) (fun _ _ _ h => h) (fun _ h => h.tailR.tail) ?_
            refine XA.do_ 8 rfl rfl rfl (by decide) (does_extract rfl rfl) (by kernel_rfl) (fun _ _ _ h => h) (fun _ h => h.tailR.tail) ?_
            refine XA.do_ 9 rfl rfl rfl (by decide) (does_extract rfl rfl) (by kernel_rfl) (fun _ _ _ h => h) (fun _ h => h.tailR.tail) ?_
            refine XA.next 10 rfl (by kernel_rfl) ?_
            refine xk_alloc (cs := [.int .i64 0, .int .i64 0, .int .u8 0, .int .u8 0, .int .u8 0]) (zeroB_of (by kernel_rfl)) (by decide) fun g4 => ?_
            refine XK.nil ?_; refine XK.thenN ?_; refine XA.back (fun _ h => h.tailR.tail.tail) ?_
            refine XA.next 11 rfl (by kernel_rfl) ?_
            (first | (refine xk_storeN 0 rfl rfl rfl (by kernel_rfl) (by simp [Value.cells, Value.oneCell']) (by simp [Value.cells]) ?_) | (refine xk_storeN 1 rfl rfl rfl (by kernel_rfl) (by simp [Value.cells, Value.oneCell']) (by simp [Value.cells]) ?_) | (refine xk_storeN 2 rfl rfl rfl (by kernel_rfl) (by simp [Value.cells, Value.oneCell']) (by simp [Value.cells]) ?_) | (refine xk_storeN 3 rfl rfl rfl (by kernel_rfl) (by simp [Value.cells, Value.oneCell']) (by simp [Value.cells]) ?_) | (refine xk_storeN 4 rfl rfl rfl (by kernel_rfl) (by simp [Value.cells, Value.oneCell']) (by simp [Value.cells]) ?_) | (refine xk_storeN 5 rfl rfl rfl (by kernel_rfl) (by simp [Value.cells, Value.oneCell']) (by simp [Value.cells]) ?_) | (refine xk_storeN 6 rfl rfl rfl (by kernel_rfl) (by simp [Value.cells, Value.oneCell']) (by simp [Value.cells]) ?_) | (refine xk_storeN 7 rfl rfl rfl (by kernel_rfl) (by simp [Value.cells, Value.oneCell']) (by simp [Value.cells]) ?_) | (refine xk_storeN 8 rfl rfl rfl (by kernel_rfl) (by simp [Value.cells, Value.oneCell']) (by simp [Value.cells]) ?_)); simp only [putN, Value.cells, List.set, List.take, List.drop, List.nil_append, List.append_nil, List.length_cons, List.length_nil, List.cons_append, Nat.reduceAdd]
            refine XK.nil ?_; refine XK.thenN ?_; refine XA.back (fun _ h => h.tailR.tail.tail) ?_
            refine XA.next 12 rfl (by kernel_rfl) ?_
            refine xk_assign rfl (by decide) ?_
            refine XA.bt ?_
            refine XA.done (by kernel_rfl) ?_
            refine XK.norm ?_
            exact XK.weak [0, 2, 3, 4] rfl (by decide) (by simp) (XK.envS [(9, .bool (frmOf (hPro w1) (hMsg w1)).isSome), (8, .pointer (some ⟨g4, 0, none⟩)), (7, .int .i64 (unpackE w1)), (6, .pointer (some ⟨g3, 0, none⟩)), (5, .pointer (some ⟨g2, 0, none⟩)), (2, .pointer (some ⟨g1, 0, none⟩)), (1, .slice (some ⟨b, off, none⟩) n c)] (XK.meet ⟨g4, rfl, rfl, rfl⟩))
          · refine xk_alloc (cs := [.int .i64 0, .int .i64 0, .int .u8 0, .int .u8 0, .int .u8 0]) (zeroB_of (by kernel_rfl)) (by decide) fun g4 => ?_
            refine XK.nil ?_; refine XK.thenN ?_; refine XA.back (fun _ h => h.tailR.tail.tail) ?_
            refine XA.next 6 rfl (by kernel_rfl) ?_
            refine xk_lookupT (v := .agg #[.int .i64 (frmD (hPro w1) (hMsg w1)).n, .int .i64 (frmD (hPro w1) (hMsg w1)).m, .int .u8 (frmD (hPro w1) (hMsg w1)).a, .int .u8 (frmD (hPro w1) (hMsg w1)).b, .int .u8 (frmD (hPro w1) (hMsg w1)).c]) (et := 180) (l := sub.reverse.map frmE) Try.underlying182 msgK (z := frm 0 0 0 0 0) (by kernel_rfl) rfl (k := (hPro w1, hMsg w1)) rfl (fun w2 st => st.mapV (i := 1) rfl) (frm_look hsub _ _).1 (frm_look hsub _ _).2 (by decide) ?_
            refine XK.nil ?_; refine XK.thenN ?_; refine XA.back (fun _ h => h.tailR.tail.tail) ?_
            refine XA.do_ 7 rfl rfl rfl (by decide) (does_move rfl) (by kernel_rfl) (fun _ _ _ h => h) (fun _ h => h.tailR.tail.tail) ?_
            refine XA.do_ 8 rfl rfl rfl (by decide) (does_extract rfl rfl) (by kernel_rfl) (fun _ _ _ h => h) (fun _ h => h.tailR.tail.tail) ?_
            refine XA.do_ 9 rfl rfl rfl (by decide) (does_extract rfl rfl) (by kernel_rfl) (fun _ _ _ h => h) (fun _ h => h.tailR.tail.tail) ?_
            refine XA.next 11 rfl (by kernel_rfl) ?_
            (first | (refine xk_storeN 0 rfl rfl rfl (by kernel_rfl) (by simp [Value.cells, Value.oneCell']) (by simp [Value.cells]) ?_) | (refine xk_storeN 1 rfl rfl rfl (by kernel_rfl) (by simp [Value.cells, Value.oneCell']) (by simp [Value.cells]) ?_) | (refine xk_storeN 2 rfl rfl rfl (by kernel_rfl) (by simp [Value.cells, Value.oneCell']) (by simp [Value.cells]) ?_) | (refine xk_storeN 3 rfl rfl rfl (by kernel_rfl) (by simp [Value.cells, Value.oneCell']) (by simp [Value.cells]) ?_) | (refine xk_storeN 4 rfl rfl rfl (by kernel_rfl) (by simp [Value.cells, Value.oneCell']) (by simp [Value.cells]) ?_) | (refine xk_storeN 5 rfl rfl rfl (by kernel_rfl) (by simp [Value.cells, Value.oneCell']) (by simp [Value.cells]) ?_) | (refine xk_storeN 6 rfl rfl rfl (by kernel_rfl) (by simp [Value.cells, Value.oneCell']) (by simp [Value.cells]) ?_) | (refine xk_storeN 7 rfl rfl rfl (by kernel_rfl) (by simp [Value.cells, Value.oneCell']) (by simp [Value.cells]) ?_) | (refine xk_storeN 8 rfl rfl rfl (by kernel_rfl) (by simp [Value.cells, Value.oneCell']) (by simp [Value.cells]) ?_)); simp only [putN, Value.cells, List.set, List.take, List.drop, List.nil_append, List.append_nil, List.length_cons, List.length_nil, List.cons_append, Nat.reduceAdd]
            refine XK.nil ?_; refine XK.thenN ?_; refine XA.back (fun _ h => h.tailR.tail.tail) ?_
            refine XA.next 12 rfl (by kernel_rfl) ?_
            refine xk_assign rfl (by decide) ?_
            refine XA.bt ?_
            refine XA.done (by kernel_rfl) ?_
            refine XK.norm ?_
            exact XK.weak [0, 2, 3, 4] rfl (by decide) (by simp) (XK.envS [(9, .bool (frmOf (hPro w1) (hMsg w1)).isSome), (8, .pointer (some ⟨g4, 0, none⟩)), (7, .int .i64 (unpackE w1)), (6, .pointer (some ⟨g3, 0, none⟩)), (5, .pointer (some ⟨g2, 0, none⟩)), (2, .pointer (some ⟨g1, 0, none⟩)), (1, .slice (some ⟨b, off, none⟩) n c)] (XK.meet ⟨g4, rfl, rfl, rfl⟩))
        · refine xk_alloc (cs := [.int .i64 0, .int .i64 0, .int .u8 0, .int .u8 0, .int .u8 0]) (zeroB_of (by kernel_rfl)) (by decide) fun g4 => ?_
          refine XK.nil ?_; refine XK.thenN ?_; refine XA.back (fun _ h => h.tail) ?_
          refine XA.next 0 rfl (by kernel_rfl) ?_
          refine xk_callN (f := 108) (fi := []) (ca := []) (by kernel_rfl) rfl rfl (by decide) FormsOk (fun w2 _ => forms_any w2) ?_
          rintro _ _ q1 ⟨gm, sub, rfl, hsub, rfl⟩ _
          simp only [List.cons_append, List.nil_append]
          refine XK.nil ?_; refine XK.thenN ?_; refine XA.back (fun _ h => h.tailR.tail.tail) ?_
          refine XA.next 6 rfl (by kernel_rfl) ?_
          refine xk_lookupT (v := .agg #[.int .i64 (frmD (hPro w1) (hMsg w1)).n, .int .i64 (frmD (hPro w1) (hMsg w1)).m, .int .u8 (frmD (hPro w1) (hMsg w1)).a, .int .u8 (frmD (hPro w1) (hMsg w1)).b, .int .u8 (frmD (hPro w1) (hMsg w1)).c]) (et := 180) (l := sub.reverse.map frmE) Try.underlying182 msgK (z := frm 0 0 0 0 0) (by kernel_rfl) rfl (k := (hPro w1, hMsg w1)) rfl (fun w2 st => st.mapV (i := 0) rfl) (frm_look hsub _ _).1 (frm_look hsub _ _).2 (by decide) ?_
          refine XK.nil ?_; refine XK.thenN ?_; refine XA.back (fun _ h => h.tailR.tail.tail) ?_
          refine XA.do_ 7 rfl rfl rfl (by decide) (does_move rfl) (by kernel_rfl) (fun _ _ _ h => h) (fun _ h => h.tailR.tail.tail) ?_
          refine XA.do_ 8 rfl rfl rfl (by decide) (does_extract rfl rfl) (by kernel_rfl) (fun _ _ _ h => h) (fun _ h => h.tailR.tail.tail) ?_
          refine XA.do_ 9 rfl rfl rfl (by decide) (does_extract rfl rfl) (by kernel_rfl) (fun _ _ _ h => h) (fun _ h => h.tailR.tail.tail) ?_
          refine XA.next 11 rfl (by kernel_rfl) ?_
          (first | (refine xk_storeN 0 rfl rfl rfl (by kernel_rfl) (by simp [Value.cells, Value.oneCell']) (by simp [Value.cells]) ?_) | (refine xk_storeN 1 rfl rfl rfl (by kernel_rfl) (by simp [Value.cells, Value.oneCell']) (by simp [Value.cells]) ?_) | (refine xk_storeN 2 rfl rfl rfl (by kernel_rfl) (by simp [Value.cells, Value.oneCell']) (by simp [Value.cells]) ?_) | (refine xk_storeN 3 rfl rfl rfl (by kernel_rfl) (by simp [Value.cells, Value.oneCell']) (by simp [Value.cells]) ?_) | (refine xk_storeN 4 rfl rfl rfl (by kernel_rfl) (by simp [Value.cells, Value.oneCell']) (by simp [Value.cells]) ?_) | (refine xk_storeN 5 rfl rfl rfl (by kernel_rfl) (by simp [Value.cells, Value.oneCell']) (by simp [Value.cells]) ?_) | (refine xk_storeN 6 rfl rfl rfl (by kernel_rfl) (by simp [Value.cells, Value.oneCell']) (by simp [Value.cells]) ?_) | (refine xk_storeN 7 rfl rfl rfl (by kernel_rfl) (by simp [Value.cells, Value.oneCell']) (by simp [Value.cells]) ?_) | (refine xk_storeN 8 rfl rfl rfl (by kernel_rfl) (by simp [Value.cells, Value.oneCell']) (by simp [Value.cells]) ?_)); simp only [putN, Value.cells, List.set, List.take, List.drop, List.nil_append, List.append_nil, List.length_cons, List.length_nil, List.cons_append, Nat.reduceAdd]
          refine XK.nil ?_; refine XK.thenN ?_; refine XA.back (fun _ h => h.tailR.tail.tail) ?_
          refine XA.next 12 rfl (by kernel_rfl) ?_
          refine xk_assign rfl (by decide) ?_
          refine XA.bt ?_
          refine XA.done (by kernel_rfl) ?_
          refine XK.norm ?_
          exact XK.weak [1, 2, 3, 4] rfl (by decide) (by simp) (XK.envS [(9, .bool (frmOf (hPro w1) (hMsg w1)).isSome), (8, .pointer (some ⟨g4, 0, none⟩)), (7, .int .i64 (unpackE w1)), (6, .pointer (some ⟨g3, 0, none⟩)), (5, .pointer (some ⟨g2, 0, none⟩)), (2, .pointer (some ⟨g1, 0, none⟩)), (1, .slice (some ⟨b, off, none⟩) n c)] (XK.meet ⟨g4, rfl, rfl, rfl⟩))
      rintro _ _ _ ⟨g4, rfl, rfl, rfl⟩
      obtain ⟨hF1, hF2, hF3, hF4, hF5⟩ := frm_ok (hPro w1) (hMsg w1)
      refine XK.seq ?_
      refine XK.seq ?_

      refine XK.region ?_
      refine xk_move rfl (by decide) ?_
      (first | refine xk_notD rfl (by decide) ?_ | refine xk_not rfl (by decide) ?_)
      refine XK.nilN ?_
      refine XK.cond rfl (fun h7 => ?_) (fun h7 => ?_)
      ·
        refine XK.seq ?_

        refine XK.region ?_
        refine xk_buildS (zs := [.int .u8 0, .int .i64 0]) (L := [(0, 1), (1, 1)]) (zeroB_of (by kernel_rfl)) (by kernel_rfl) rfl (by simp [fillL, setN, Value.cells]; rfl) (by decide) ?_
        refine xk_assign rfl (by decide) ?_
        (first | (refine xk_storeN 0 rfl rfl rfl (by kernel_rfl) (by simp [Value.cells, Value.oneCell']) (by simp [Value.cells]) ?_) | (refine xk_storeN 1 rfl rfl rfl (by kernel_rfl) (by simp [Value.cells, Value.oneCell']) (by simp [Value.cells]) ?_) | (refine xk_storeN 2 rfl rfl rfl (by kernel_rfl) (by simp [Value.cells, Value.oneCell']) (by simp [Value.cells]) ?_) | (refine xk_storeN 3 rfl rfl rfl (by kernel_rfl) (by simp [Value.cells, Value.oneCell']) (by simp [Value.cells]) ?_) | (refine xk_storeN 4 rfl rfl rfl (by kernel_rfl) (by simp [Value.cells, Value.oneCell']) (by simp [Value.cells]) ?_) | (refine xk_storeN 5 rfl rfl rfl (by kernel_rfl) (by simp [Value.cells, Value.oneCell']) (by simp [Value.cells]) ?_) | (refine xk_storeN 6 rfl rfl rfl (by kernel_rfl) (by simp [Value.cells, Value.oneCell']) (by simp [Value.cells]) ?_) | (refine xk_storeN 7 rfl rfl rfl (by kernel_rfl) (by simp [Value.cells, Value.oneCell']) (by simp [Value.cells]) ?_) | (refine xk_storeN 8 rfl rfl rfl (by kernel_rfl) (by simp [Value.cells, Value.oneCell']) (by simp [Value.cells]) ?_)); simp only [putN, Value.cells, List.set, List.take, List.drop, List.nil_append, List.append_nil, List.length_cons, List.length_nil, List.cons_append, Nat.reduceAdd]
        refine XK.nilN ?_
        refine XK.ret ?_
        refine XK.norm ?_
        exact XK.retTC (n := 2) (vs := [.int .u8 0, .int .i64 0]) rfl (by kernel_rfl) rfl rfl (by first | assumption | exact RdN.whole 0 rfl | exact RdN.whole 1 rfl | exact RdN.whole 2 rfl | exact RdN.whole 3 rfl | exact RdN.whole 4 rfl | exact RdN.whole 5 rfl | exact RdN.whole 6 rfl | exact RdN.whole 7 rfl | exact RdN.whole 8 rfl | exact RdN.roc (by simp) (by assumption)) rfl fun w9 st => ⟨by
          rw [readF, if_neg h4, if_pos (by revert h7; cases (frmOf (hPro w1) (hMsg w1)).isSome <;> simp)]; rfl, st.below (by simp)⟩
      ·
        have h7' : ¬ (frmOf (hPro w1) (hMsg w1)).isSome = false := by revert h7; cases (frmOf (hPro w1) (hMsg w1)).isSome <;> simp
        refine XK.skip ?_
        refine XK.norm ?_
        refine XK.seq ?_
        refine XK.seq ?_

        refine XK.region ?_
        refine xk_move rfl (by decide) ?_
        refine xk_len (el := 30) (by kernel_rfl) rfl (by decide) ?_
        refine xk_sub rfl rfl (wrap_in (by omega)) (by decide) ?_
        refine xk_field (off := 0) (by kernel_rfl) rfl (by decide) ?_
        refine xk_ld rfl ?_
        refine xk_neq rfl rfl (by decide) ?_
        refine XK.nilN ?_
        refine XK.if_ rfl (fun h9 => ?_) (fun h9 => ?_)
        ·
          refine XK.seq ?_

          refine XK.region ?_
          refine xk_buildS (zs := [.int .u8 0, .int .i64 0]) (L := [(0, 1), (1, 1)]) (zeroB_of (by kernel_rfl)) (by kernel_rfl) rfl (by simp [fillL, setN, Value.cells]; rfl) (by decide) ?_
          refine xk_assign rfl (by decide) ?_
          (first | (refine xk_storeN 0 rfl rfl rfl (by kernel_rfl) (by simp [Value.cells, Value.oneCell']) (by simp [Value.cells]) ?_) | (refine xk_storeN 1 rfl rfl rfl (by kernel_rfl) (by simp [Value.cells, Value.oneCell']) (by simp [Value.cells]) ?_) | (refine xk_storeN 2 rfl rfl rfl (by kernel_rfl) (by simp [Value.cells, Value.oneCell']) (by simp [Value.cells]) ?_) | (refine xk_storeN 3 rfl rfl rfl (by kernel_rfl) (by simp [Value.cells, Value.oneCell']) (by simp [Value.cells]) ?_) | (refine xk_storeN 4 rfl rfl rfl (by kernel_rfl) (by simp [Value.cells, Value.oneCell']) (by simp [Value.cells]) ?_) | (refine xk_storeN 5 rfl rfl rfl (by kernel_rfl) (by simp [Value.cells, Value.oneCell']) (by simp [Value.cells]) ?_) | (refine xk_storeN 6 rfl rfl rfl (by kernel_rfl) (by simp [Value.cells, Value.oneCell']) (by simp [Value.cells]) ?_) | (refine xk_storeN 7 rfl rfl rfl (by kernel_rfl) (by simp [Value.cells, Value.oneCell']) (by simp [Value.cells]) ?_) | (refine xk_storeN 8 rfl rfl rfl (by kernel_rfl) (by simp [Value.cells, Value.oneCell']) (by simp [Value.cells]) ?_)); simp only [putN, Value.cells, List.set, List.take, List.drop, List.nil_append, List.append_nil, List.length_cons, List.length_nil, List.cons_append, Nat.reduceAdd]
          refine XK.nilN ?_
          refine XK.ret ?_
          refine XK.norm ?_
          exact XK.retTC (n := 2) (vs := [.int .u8 0, .int .i64 0]) rfl (by kernel_rfl) rfl rfl (by first | assumption | exact RdN.whole 0 rfl | exact RdN.whole 1 rfl | exact RdN.whole 2 rfl | exact RdN.whole 3 rfl | exact RdN.whole 4 rfl | exact RdN.whole 5 rfl | exact RdN.whole 6 rfl | exact RdN.whole 7 rfl | exact RdN.whole 8 rfl | exact RdN.roc (by simp) (by assumption)) rfl fun w9 st => ⟨by
            rw [readF, if_neg h4, if_neg h7', if_pos (by omega)]; rfl, st.below (by simp)⟩
        ·
          have h9' : ¬ (r.length : Int) ≠ (frmD (hPro w1) (hMsg w1)).n := by omega
          refine XK.skip ?_
          refine XK.norm ?_
          refine XK.seq ?_
          refine XK.seq ?_

          refine XK.region ?_
          refine xk_field (off := 0) (by kernel_rfl) rfl (by decide) ?_
          refine xk_ld rfl ?_
          refine xk_eql rfl rfl (by decide) ?_
          refine XK.nilN ?_
          refine XK.if_ rfl (fun h11 => ?_) (fun h11 => ?_)
          ·
            refine XK.seq ?_

            refine XK.region ?_
            refine xk_buildS (zs := [.int .u8 0, .int .i64 0]) (L := [(0, 1), (1, 1)]) (zeroB_of (by kernel_rfl)) (by kernel_rfl) rfl (by simp [fillL, setN, Value.cells]; rfl) (by decide) ?_
            refine xk_assign rfl (by decide) ?_
            (first | (refine xk_storeN 0 rfl rfl rfl (by kernel_rfl) (by simp [Value.cells, Value.oneCell']) (by simp [Value.cells]) ?_) | (refine xk_storeN 1 rfl rfl rfl (by kernel_rfl) (by simp [Value.cells, Value.oneCell']) (by simp [Value.cells]) ?_) | (refine xk_storeN 2 rfl rfl rfl (by kernel_rfl) (by simp [Value.cells, Value.oneCell']) (by simp [Value.cells]) ?_) | (refine xk_storeN 3 rfl rfl rfl (by kernel_rfl) (by simp [Value.cells, Value.oneCell']) (by simp [Value.cells]) ?_) | (refine xk_storeN 4 rfl rfl rfl (by kernel_rfl) (by simp [Value.cells, Value.oneCell']) (by simp [Value.cells]) ?_) | (refine xk_storeN 5 rfl rfl rfl (by kernel_rfl) (by simp [Value.cells, Value.oneCell']) (by simp [Value.cells]) ?_) | (refine xk_storeN 6 rfl rfl rfl (by kernel_rfl) (by simp [Value.cells, Value.oneCell']) (by simp [Value.cells]) ?_) | (refine xk_storeN 7 rfl rfl rfl (by kernel_rfl) (by simp [Value.cells, Value.oneCell']) (by simp [Value.cells]) ?_) | (refine xk_storeN 8 rfl rfl rfl (by kernel_rfl) (by simp [Value.cells, Value.oneCell']) (by simp [Value.cells]) ?_)); simp only [putN, Value.cells, List.set, List.take, List.drop, List.nil_append, List.append_nil, List.length_cons, List.length_nil, List.cons_append, Nat.reduceAdd]
            refine XK.nilN ?_
            refine XK.ret ?_
            refine XK.norm ?_
            exact XK.retTC (n := 2) (vs := [.int .u8 0, .int .i64 0]) rfl (by kernel_rfl) rfl rfl (by first | assumption | exact RdN.whole 0 rfl | exact RdN.whole 1 rfl | exact RdN.whole 2 rfl | exact RdN.whole 3 rfl | exact RdN.whole 4 rfl | exact RdN.whole 5 rfl | exact RdN.whole 6 rfl | exact RdN.whole 7 rfl | exact RdN.whole 8 rfl | exact RdN.roc (by simp) (by assumption)) rfl fun w9 st => ⟨by
              rw [readF, if_neg h4, if_neg h7', if_neg h9', if_pos h11]; rfl, st.below (by simp)⟩
          ·
            obtain ⟨id, hid⟩ : ∃ x, r[0]? = some x := ⟨r[0]'(by omega), List.getElem?_eq_getElem _⟩
            obtain ⟨v, hv⟩ : ∃ x, r[(frmD (hPro w1) (hMsg w1)).n.toNat - 1]? = some x := ⟨r[(frmD (hPro w1) (hMsg w1)).n.toNat - 1]'(by omega), List.getElem?_eq_getElem _⟩
            have hid' : r.getD 0 0 = id := by rw [List.getD_eq_getElem?_getD, hid]; rfl
            have hv' : r.getD ((frmD (hPro w1) (hMsg w1)).n.toNat - 1) 0 = v := by rw [List.getD_eq_getElem?_getD, hv]; rfl
            have hbid := hu id (List.mem_cons_of_mem _ (List.mem_of_getElem? hid))
            have hbv := hu v (List.mem_cons_of_mem _ (List.mem_of_getElem? hv))
            have hcid := hcell 1 id (by simpa using hid)
            have hcv := hcell (frmD (hPro w1) (hMsg w1)).n.toNat v (by
              obtain ⟨t, ht⟩ : ∃ t, (frmD (hPro w1) (hMsg w1)).n.toNat = t + 1 := ⟨(frmD (hPro w1) (hMsg w1)).n.toNat - 1, by omega⟩
              rw [ht] at hv ⊢; simpa using hv)
            have hread : readF s (w1 :: r) = askF s (hPro w1) (frmD (hPro w1) (hMsg w1)) id v := by rw [readF, if_neg h4, if_neg h7', if_neg h9', if_neg h11, hid', hv']
            refine XK.skip ?_
            refine XK.norm ?_
            refine XK.seq ?_

            refine XK.region ?_
            refine xk_move rfl (by decide) ?_
            refine xk_at 1 (off + 1) (el := 30) (sz := 1) (by kernel_rfl) (by kernel_rfl) rfl rfl (by rfl) (by omega) (by omega) (by decide) ?_
            refine xk_ld rfl ?_
            refine xk_conv (ds := .int .u32) (by kernel_rfl) (by kernel_rfl) rfl (wrap_in (by omega)) (by decide) ?_
            refine xk_assign rfl (by decide) ?_
            refine XK.nilN ?_
            refine XK.seq ?_
            refine XK.seq ?_

            refine XK.region ?_
            refine xk_move rfl (by decide) ?_
            refine xk_ldN 4 rfl ?_
            refine xk_field (off := 2) (by kernel_rfl) rfl (by decide) ?_
            refine xk_ld rfl ?_
            refine xk_callR (f := 109) (fi := []) (ca := []) (by kernel_rfl) rfl rfl (by decide) (fun w2 st => number_S s A1 A2 A3 A4 n1 k1 n2 k2 n3 k3 n4 k4 (hPro w1) w2 hS) ?_
            refine xk_geq rfl rfl (by decide) ?_
            refine XK.nilN ?_
            refine XK.if_ rfl (fun h14 => ?_) (fun h14 => ?_)
            ·
              refine XK.seq ?_

              refine XK.region ?_
              refine xk_buildS (zs := [.int .u8 0, .int .i64 0]) (L := [(0, 1), (1, 1)]) (zeroB_of (by kernel_rfl)) (by kernel_rfl) rfl (by simp [fillL, setN, Value.cells]; rfl) (by decide) ?_
              refine xk_assign rfl (by decide) ?_
              (first | (refine xk_storeN 0 rfl rfl rfl (by kernel_rfl) (by simp [Value.cells, Value.oneCell']) (by simp [Value.cells]) ?_) | (refine xk_storeN 1 rfl rfl rfl (by kernel_rfl) (by simp [Value.cells, Value.oneCell']) (by simp [Value.cells]) ?_) | (refine xk_storeN 2 rfl rfl rfl (by kernel_rfl) (by simp [Value.cells, Value.oneCell']) (by simp [Value.cells]) ?_) | (refine xk_storeN 3 rfl rfl rfl (by kernel_rfl) (by simp [Value.cells, Value.oneCell']) (by simp [Value.cells]) ?_) | (refine xk_storeN 4 rfl rfl rfl (by kernel_rfl) (by simp [Value.cells, Value.oneCell']) (by simp [Value.cells]) ?_) | (refine xk_storeN 5 rfl rfl rfl (by kernel_rfl) (by simp [Value.cells, Value.oneCell']) (by simp [Value.cells]) ?_) | (refine xk_storeN 6 rfl rfl rfl (by kernel_rfl) (by simp [Value.cells, Value.oneCell']) (by simp [Value.cells]) ?_) | (refine xk_storeN 7 rfl rfl rfl (by kernel_rfl) (by simp [Value.cells, Value.oneCell']) (by simp [Value.cells]) ?_) | (refine xk_storeN 8 rfl rfl rfl (by kernel_rfl) (by simp [Value.cells, Value.oneCell']) (by simp [Value.cells]) ?_)); simp only [putN, Value.cells, List.set, List.take, List.drop, List.nil_append, List.append_nil, List.length_cons, List.length_nil, List.cons_append, Nat.reduceAdd]
              refine XK.nilN ?_
              refine XK.ret ?_
              refine XK.norm ?_
              exact XK.retTC (n := 2) (vs := [.int .u8 0, .int .i64 0]) rfl (by kernel_rfl) rfl rfl (by first | assumption | exact RdN.whole 0 rfl | exact RdN.whole 1 rfl | exact RdN.whole 2 rfl | exact RdN.whole 3 rfl | exact RdN.whole 4 rfl | exact RdN.whole 5 rfl | exact RdN.whole 6 rfl | exact RdN.whole 7 rfl | exact RdN.whole 8 rfl | exact RdN.roc (by simp) (by assumption)) rfl fun w9 st => ⟨by
                rw [hread, askF, if_pos h14]; rfl, st.below (by simp)⟩
            ·
              refine XK.skip ?_
              refine XK.norm ?_
              refine XK.seq ?_
              refine XK.seq ?_

              refine XK.region ?_
              refine xk_field (off := 1) (by kernel_rfl) rfl (by decide) ?_
              refine xk_ld rfl ?_
              refine xk_eql rfl rfl (by decide) ?_
              refine XK.nilN ?_
              refine XK.if_ rfl (fun h16 => ?_) (fun h16 => ?_)
              ·
                refine XK.seq ?_

                refine XK.region ?_
                refine xk_buildS (zs := [.int .u8 0, .int .i64 0]) (L := [(0, 1), (1, 1)]) (zeroB_of (by kernel_rfl)) (by kernel_rfl) rfl (by simp [fillL, setN, Value.cells]; rfl) (by decide) ?_
                refine xk_assign rfl (by decide) ?_
                (first | (refine xk_storeN 0 rfl rfl rfl (by kernel_rfl) (by simp [Value.cells, Value.oneCell']) (by simp [Value.cells]) ?_) | (refine xk_storeN 1 rfl rfl rfl (by kernel_rfl) (by simp [Value.cells, Value.oneCell']) (by simp [Value.cells]) ?_) | (refine xk_storeN 2 rfl rfl rfl (by kernel_rfl) (by simp [Value.cells, Value.oneCell']) (by simp [Value.cells]) ?_) | (refine xk_storeN 3 rfl rfl rfl (by kernel_rfl) (by simp [Value.cells, Value.oneCell']) (by simp [Value.cells]) ?_) | (refine xk_storeN 4 rfl rfl rfl (by kernel_rfl) (by simp [Value.cells, Value.oneCell']) (by simp [Value.cells]) ?_) | (refine xk_storeN 5 rfl rfl rfl (by kernel_rfl) (by simp [Value.cells, Value.oneCell']) (by simp [Value.cells]) ?_) | (refine xk_storeN 6 rfl rfl rfl (by kernel_rfl) (by simp [Value.cells, Value.oneCell']) (by simp [Value.cells]) ?_) | (refine xk_storeN 7 rfl rfl rfl (by kernel_rfl) (by simp [Value.cells, Value.oneCell']) (by simp [Value.cells]) ?_) | (refine xk_storeN 8 rfl rfl rfl (by kernel_rfl) (by simp [Value.cells, Value.oneCell']) (by simp [Value.cells]) ?_)); simp only [putN, Value.cells, List.set, List.take, List.drop, List.nil_append, List.append_nil, List.length_cons, List.length_nil, List.cons_append, Nat.reduceAdd]
                refine XK.nilN ?_
                refine XK.ret ?_
                refine XK.norm ?_
                exact XK.retTC (n := 2) (vs := [.int .u8 0, .int .i64 0]) rfl (by kernel_rfl) rfl rfl (by first | assumption | exact RdN.whole 0 rfl | exact RdN.whole 1 rfl | exact RdN.whole 2 rfl | exact RdN.whole 3 rfl | exact RdN.whole 4 rfl | exact RdN.whole 5 rfl | exact RdN.whole 6 rfl | exact RdN.whole 7 rfl | exact RdN.whole 8 rfl | exact RdN.roc (by simp) (by assumption)) rfl fun w9 st => ⟨by
                  rw [hread, askF, if_neg h14, if_pos h16]; rfl, st.below (by simp)⟩
              ·
                refine XK.skip ?_
                refine XK.norm ?_
                refine XK.seq ?_

                refine XK.region ?_
                refine xk_move rfl (by decide) ?_
                refine xk_field (off := 0) (by kernel_rfl) rfl (by decide) ?_
                refine xk_ld rfl ?_
                refine xk_at (frmD (hPro w1) (hMsg w1)).n.toNat (off + (frmD (hPro w1) (hMsg w1)).n.toNat) (el := 30) (sz := 1) (by kernel_rfl) (by kernel_rfl) rfl rfl (by omega) (by omega) (by omega) (by decide) ?_
                refine xk_ld rfl ?_
                refine xk_conv (ds := .int .u32) (by kernel_rfl) (by kernel_rfl) rfl (wrap_in (by omega)) (by decide) ?_
                refine xk_assign rfl (by decide) ?_
                refine XK.nilN ?_
                refine XK.seq ?_
                refine XK.seq ?_

                refine XK.region ?_
                refine xk_move rfl (by decide) ?_
                refine xk_field (off := 1) (by kernel_rfl) rfl (by decide) ?_
                refine xk_ld rfl ?_
                refine xk_geq rfl rfl (by decide) ?_
                refine XK.nilN ?_
                refine XK.if_ rfl (fun h19 => ?_) (fun h19 => ?_)
                ·
                  refine XK.seq ?_

                  refine XK.region ?_
                  refine xk_buildS (zs := [.int .u8 0, .int .i64 0]) (L := [(0, 1), (1, 1)]) (zeroB_of (by kernel_rfl)) (by kernel_rfl) rfl (by simp [fillL, setN, Value.cells]; rfl) (by decide) ?_
                  refine xk_assign rfl (by decide) ?_
                  (first | (refine xk_storeN 0 rfl rfl rfl (by kernel_rfl) (by simp [Value.cells, Value.oneCell']) (by simp [Value.cells]) ?_) | (refine xk_storeN 1 rfl rfl rfl (by kernel_rfl) (by simp [Value.cells, Value.oneCell']) (by simp [Value.cells]) ?_) | (refine xk_storeN 2 rfl rfl rfl (by kernel_rfl) (by simp [Value.cells, Value.oneCell']) (by simp [Value.cells]) ?_) | (refine xk_storeN 3 rfl rfl rfl (by kernel_rfl) (by simp [Value.cells, Value.oneCell']) (by simp [Value.cells]) ?_) | (refine xk_storeN 4 rfl rfl rfl (by kernel_rfl) (by simp [Value.cells, Value.oneCell']) (by simp [Value.cells]) ?_) | (refine xk_storeN 5 rfl rfl rfl (by kernel_rfl) (by simp [Value.cells, Value.oneCell']) (by simp [Value.cells]) ?_) | (refine xk_storeN 6 rfl rfl rfl (by kernel_rfl) (by simp [Value.cells, Value.oneCell']) (by simp [Value.cells]) ?_) | (refine xk_storeN 7 rfl rfl rfl (by kernel_rfl) (by simp [Value.cells, Value.oneCell']) (by simp [Value.cells]) ?_) | (refine xk_storeN 8 rfl rfl rfl (by kernel_rfl) (by simp [Value.cells, Value.oneCell']) (by simp [Value.cells]) ?_)); simp only [putN, Value.cells, List.set, List.take, List.drop, List.nil_append, List.append_nil, List.length_cons, List.length_nil, List.cons_append, Nat.reduceAdd]
                  refine XK.nilN ?_
                  refine XK.ret ?_
                  refine XK.norm ?_
                  exact XK.retTC (n := 2) (vs := [.int .u8 0, .int .i64 0]) rfl (by kernel_rfl) rfl rfl (by first | assumption | exact RdN.whole 0 rfl | exact RdN.whole 1 rfl | exact RdN.whole 2 rfl | exact RdN.whole 3 rfl | exact RdN.whole 4 rfl | exact RdN.whole 5 rfl | exact RdN.whole 6 rfl | exact RdN.whole 7 rfl | exact RdN.whole 8 rfl | exact RdN.roc (by simp) (by assumption)) rfl fun w9 st => ⟨by
                    rw [hread, askF, if_neg h14, if_neg h16, if_pos h19]; rfl, st.below (by simp)⟩
                ·
                  have hact : ([.int .i64 (frmD (hPro w1) (hMsg w1)).n, .int .i64 (frmD (hPro w1) (hMsg w1)).m, .int .u8 (frmD (hPro w1) (hMsg w1)).a, .int .u8 (frmD (hPro w1) (hMsg w1)).b, .int .u8 (frmD (hPro w1) (hMsg w1)).c] : List Value)[2 + v.toNat]? = some (.int .u8 ((frmD (hPro w1) (hMsg w1)).act v)) := by
                    unfold Frm.act
                    rcases (by omega : v = 0 ∨ v = 1 ∨ v = 2) with rfl | rfl | rfl <;> rfl
                  have hp17 := hF4 v hbv.1 (by omega)
                  generalize hk : (frmD (hPro w1) (hMsg w1)).act v = k at *
                  refine XK.skip ?_
                  refine XK.norm ?_
                  refine XK.seq ?_

                  refine XK.region ?_
                  refine xk_move rfl (by decide) ?_
                  refine xk_field (off := 2) (by kernel_rfl) rfl (by decide) ?_
                  refine xk_atA v.toNat (2 + v.toNat) (n := 3) (el := 5) (sz := 1) (by kernel_rfl) (by kernel_rfl) rfl rfl (by omega) (by omega) (by omega) (by decide) ?_
                  refine xk_load (by kernel_rfl) rfl (Rd.blk 0 rfl hact) (by decide) ?_
                  refine xk_move rfl (by decide) ?_
                  refine xk_buildS (zs := [.int .u8 0, .int .i64 0]) (L := [(0, 1), (1, 1)]) (zeroB_of (by kernel_rfl)) (by kernel_rfl) rfl (by simp [fillL, setN, Value.cells]; rfl) (by decide) ?_
                  refine xk_alloc (cs := [.int .u8 0, .int .i64 0]) (zeroB_of (by kernel_rfl)) (by decide) fun g5 => ?_
                  (first | (refine xk_storeN 0 rfl rfl rfl (by kernel_rfl) (by simp [Value.cells, Value.oneCell']) (by simp [Value.cells]) ?_) | (refine xk_storeN 1 rfl rfl rfl (by kernel_rfl) (by simp [Value.cells, Value.oneCell']) (by simp [Value.cells]) ?_) | (refine xk_storeN 2 rfl rfl rfl (by kernel_rfl) (by simp [Value.cells, Value.oneCell']) (by simp [Value.cells]) ?_) | (refine xk_storeN 3 rfl rfl rfl (by kernel_rfl) (by simp [Value.cells, Value.oneCell']) (by simp [Value.cells]) ?_) | (refine xk_storeN 4 rfl rfl rfl (by kernel_rfl) (by simp [Value.cells, Value.oneCell']) (by simp [Value.cells]) ?_) | (refine xk_storeN 5 rfl rfl rfl (by kernel_rfl) (by simp [Value.cells, Value.oneCell']) (by simp [Value.cells]) ?_) | (refine xk_storeN 6 rfl rfl rfl (by kernel_rfl) (by simp [Value.cells, Value.oneCell']) (by simp [Value.cells]) ?_) | (refine xk_storeN 7 rfl rfl rfl (by kernel_rfl) (by simp [Value.cells, Value.oneCell']) (by simp [Value.cells]) ?_) | (refine xk_storeN 8 rfl rfl rfl (by kernel_rfl) (by simp [Value.cells, Value.oneCell']) (by simp [Value.cells]) ?_)); simp only [putN, Value.cells, List.set, List.take, List.drop, List.nil_append, List.append_nil, List.length_cons, List.length_nil, List.cons_append, Nat.reduceAdd]
                  refine XK.nilN ?_
                  refine XK.seq ?_
                  refine XK.cutB 113 (notF s (hPro w1) ((frmD (hPro w1) (hMsg w1)).act v) id.toNat) ?_ ?_
                  · skip

                    refine XK.region ?_
                    refine xk_field (off := 0) (by kernel_rfl) rfl (by decide) ?_
                    refine xk_ld rfl ?_
                    refine xk_eql rfl rfl (by decide) ?_
                    refine xk_move rfl (by decide) ?_
                    (first | refine xk_split (t := 91) rfl (fun hg => ?_) (fun hg => ?_) | refine xk_splitB (t := 91) rfl (fun hg => ?_) (fun hg => ?_))
                    ·
                      have hp := hp17 (by simpa using hg)
                      obtain ⟨dm, hdm⟩ : ∃ d, s.domains[id.toNat]? = some d := ⟨s.domains[id.toNat]'(by rw [hp] at h14; simp only [numF, if_true] at h14; omega), List.getElem?_eq_getElem _⟩
                      obtain ⟨bD, oD, rD, rfl, _, rfl, hRD⟩ := hS.dom.row hdm
                      have hret : retOf s id.toNat = dm.ret := by rw [retOf, hdm]; rfl
                      have hlD := hS.len2
                      have hltD := (List.getElem?_eq_some_iff.1 hdm).1
                      have hcD := hRD.at_ (j := 2) rfl
                      refine xk_guardT rfl rfl ?_; refine xk_field (off := 1) (by kernel_rfl) rfl (by decide) ?_
                      refine xk_guardT rfl rfl ?_; refine xk_ld rfl ?_
                      refine xk_guardT rfl rfl ?_; refine xk_move rfl (by decide) ?_
                      refine xk_guardT rfl rfl ?_; refine xk_at id.toNat (oD + id.toNat * 3) (el := 61) (sz := 3) (by kernel_rfl) (by kernel_rfl) rfl rfl (by omega) (by omega) (by omega) (by decide) ?_
                      refine xk_guardT rfl rfl ?_; refine xk_field (off := 2) (by kernel_rfl) rfl (by decide) ?_
                      refine xk_guardT rfl rfl ?_; refine xk_ld rfl ?_
                      refine xk_guardT rfl rfl ?_; (first | refine xk_notD rfl (by decide) ?_ | refine xk_not rfl (by decide) ?_)
                      (first | refine xk_pickT rfl rfl (by decide) ?_ | refine xk_pickF rfl rfl (by decide) ?_)
                      refine xk_move rfl (by decide) ?_
                      (first | refine xk_split (t := 100) rfl (fun hg => ?_) (fun hg => ?_) | refine xk_splitB (t := 100) rfl (fun hg => ?_) (fun hg => ?_))
                      ·
                        refine xk_guardF rfl rfl rfl (by decide) ?_
                        refine xk_guardF rfl rfl rfl (by decide) ?_
                        refine xk_guardF rfl rfl rfl (by decide) ?_
                        refine xk_guardF rfl rfl rfl (by decide) ?_
                        refine xk_guardU rfl rfl (by decide) ?_
                        refine xk_guardU rfl rfl (by decide) ?_
                        refine xk_guardU rfl rfl (by decide) ?_
                        refine xk_guardU rfl rfl (by decide) ?_
                        refine xk_guardU rfl rfl (by decide) ?_
                        refine xk_guardU rfl rfl (by decide) ?_
                        refine xk_guardU rfl rfl (by decide) ?_
                        refine xk_guardF rfl rfl rfl (by decide) ?_
                        (first | refine xk_pickT rfl rfl (by decide) ?_ | refine xk_pickF rfl rfl (by decide) ?_)
                        refine XK.nilN ?_
                        exact XK.meetB (by repeat (first | exact trivial | refine ⟨rfl, ?_⟩)) (by first | exact get_iff rfl (by simp_all [notF, swit]) | exact get_false rfl (by simp_all [notF, swit]) | exact get_true rfl (by simp_all [notF, swit]))
                      ·
                        refine xk_guardT rfl rfl ?_; refine xk_field (off := 2) (by kernel_rfl) rfl (by decide) ?_
                        refine xk_guardT rfl rfl ?_; refine xk_ld rfl ?_
                        refine xk_guardT rfl rfl ?_; refine xk_eql rfl rfl (by decide) ?_
                        refine xk_guardT rfl rfl ?_; refine xk_move rfl (by decide) ?_
                        (first | refine xk_split (t := 104) rfl (fun hg => ?_) (fun hg => ?_) | refine xk_splitB (t := 104) rfl (fun hg => ?_) (fun hg => ?_))
                        ·
                          have hp : hPro w1 = 20 := by simpa using hg
                          obtain ⟨ck, hck⟩ : ∃ d, s.clocks[id.toNat]? = some d := ⟨s.clocks[id.toNat]'(by rw [hp] at h14; simp only [numF, if_true] at h14; simp at h14; omega), List.getElem?_eq_getElem _⟩
                          obtain ⟨bC, oC, rC, rfl, _, hRC, hC⟩ := hS.clk.row hck
                          obtain ⟨cA, cn, ccap, hrow, _⟩ := hRC
                          have hkind : kindOf s id.toNat = ck.kind := by rw [kindOf, hck]; rfl
                          have hlC := hS.len1
                          have hltC := (List.getElem?_eq_some_iff.1 hck).1
                          subst hrow
                          refine xk_guardT rfl rfl ?_; refine xk_field (off := 0) (by kernel_rfl) rfl (by decide) ?_
                          refine xk_guardT rfl rfl ?_; refine xk_ld rfl ?_
                          refine xk_guardT rfl rfl ?_; refine xk_move rfl (by decide) ?_
                          refine xk_guardT rfl rfl ?_; refine xk_at id.toNat (oC + id.toNat * 6) (el := 65) (sz := 6) (by kernel_rfl) (by kernel_rfl) rfl rfl (by omega) (by omega) (by omega) (by decide) ?_
                          refine xk_guardT rfl rfl ?_; refine xk_ldN 6 rfl ?_
                          refine xk_guardT rfl rfl ?_; refine xk_callR (f := 110) (fi := []) (ca := []) (by kernel_rfl) rfl rfl (by decide) (fun w2 st => switched_any ck.kind _ _ _ _ _ _ _ w2) ?_
                          refine xk_guardT rfl rfl ?_; (first | refine xk_notD rfl (by decide) ?_ | refine xk_not rfl (by decide) ?_)
                          refine xk_guardT rfl rfl ?_; (first | refine xk_pickT rfl rfl (by decide) ?_ | refine xk_pickF rfl rfl (by decide) ?_)
                          (first | refine xk_pickT rfl rfl (by decide) ?_ | refine xk_pickF rfl rfl (by decide) ?_)
                          refine XK.nilN ?_
                          exact XK.meetB (by repeat (first | exact trivial | refine ⟨rfl, ?_⟩)) (by first | exact get_iff rfl (by simp_all [notF, swit]) | exact get_false rfl (by simp_all [notF, swit]) | exact get_true rfl (by simp_all [notF, swit]))
                        ·
                          refine xk_guardF rfl rfl rfl (by decide) ?_
                          refine xk_guardF rfl rfl rfl (by decide) ?_
                          refine xk_guardF rfl rfl rfl (by decide) ?_
                          refine xk_guardF rfl rfl rfl (by decide) ?_
                          refine xk_guardF rfl rfl rfl (by decide) ?_
                          refine xk_guardF rfl rfl rfl (by decide) ?_
                          refine xk_guardF rfl rfl rfl (by decide) ?_
                          refine xk_guardT rfl rfl ?_; (first | refine xk_pickT rfl rfl (by decide) ?_ | refine xk_pickF rfl rfl (by decide) ?_)
                          (first | refine xk_pickT rfl rfl (by decide) ?_ | refine xk_pickF rfl rfl (by decide) ?_)
                          refine XK.nilN ?_
                          exact XK.meetB (by repeat (first | exact trivial | refine ⟨rfl, ?_⟩)) (by first | exact get_iff rfl (by simp_all [notF, swit]) | exact get_false rfl (by simp_all [notF, swit]) | exact get_true rfl (by simp_all [notF, swit]))
                    ·
                      refine xk_guardF rfl rfl rfl (by decide) ?_
                      refine xk_guardF rfl rfl rfl (by decide) ?_
                      refine xk_guardF rfl rfl rfl (by decide) ?_
                      refine xk_guardF rfl rfl rfl (by decide) ?_
                      refine xk_guardF rfl rfl rfl (by decide) ?_
                      refine xk_guardF rfl rfl rfl (by decide) ?_
                      refine xk_guardF rfl rfl rfl (by decide) ?_
                      (first | refine xk_pickT rfl rfl (by decide) ?_ | refine xk_pickF rfl rfl (by decide) ?_)
                      refine xk_move rfl (by decide) ?_
                      refine xk_guardT rfl rfl ?_; refine xk_field (off := 2) (by kernel_rfl) rfl (by decide) ?_
                      refine xk_guardT rfl rfl ?_; refine xk_ld rfl ?_
                      refine xk_guardT rfl rfl ?_; refine xk_eql rfl rfl (by decide) ?_
                      refine xk_guardT rfl rfl ?_; refine xk_move rfl (by decide) ?_
                      (first | refine xk_split (t := 104) rfl (fun hg => ?_) (fun hg => ?_) | refine xk_splitB (t := 104) rfl (fun hg => ?_) (fun hg => ?_))
                      ·
                        have hp : hPro w1 = 20 := by simpa using hg
                        obtain ⟨ck, hck⟩ : ∃ d, s.clocks[id.toNat]? = some d := ⟨s.clocks[id.toNat]'(by rw [hp] at h14; simp only [numF, if_true] at h14; simp at h14; omega), List.getElem?_eq_getElem _⟩
                        obtain ⟨bC, oC, rC, rfl, _, hRC, hC⟩ := hS.clk.row hck
                        obtain ⟨cA, cn, ccap, hrow, _⟩ := hRC
                        have hkind : kindOf s id.toNat = ck.kind := by rw [kindOf, hck]; rfl
                        have hlC := hS.len1
                        have hltC := (List.getElem?_eq_some_iff.1 hck).1
                        subst hrow
                        refine xk_guardT rfl rfl ?_; refine xk_field (off := 0) (by kernel_rfl) rfl (by decide) ?_
                        refine xk_guardT rfl rfl ?_; refine xk_ld rfl ?_
                        refine xk_guardT rfl rfl ?_; refine xk_move rfl (by decide) ?_
                        refine xk_guardT rfl rfl ?_; refine xk_at id.toNat (oC + id.toNat * 6) (el := 65) (sz := 6) (by kernel_rfl) (by kernel_rfl) rfl rfl (by omega) (by omega) (by omega) (by decide) ?_
                        refine xk_guardT rfl rfl ?_; refine xk_ldN 6 rfl ?_
                        refine xk_guardT rfl rfl ?_; refine xk_callR (f := 110) (fi := []) (ca := []) (by kernel_rfl) rfl rfl (by decide) (fun w2 st => switched_any ck.kind _ _ _ _ _ _ _ w2) ?_
                        refine xk_guardT rfl rfl ?_; (first | refine xk_notD rfl (by decide) ?_ | refine xk_not rfl (by decide) ?_)
                        refine xk_guardT rfl rfl ?_; (first | refine xk_pickT rfl rfl (by decide) ?_ | refine xk_pickF rfl rfl (by decide) ?_)
                        (first | refine xk_pickT rfl rfl (by decide) ?_ | refine xk_pickF rfl rfl (by decide) ?_)
                        refine XK.nilN ?_
                        exact XK.meetB (by repeat (first | exact trivial | refine ⟨rfl, ?_⟩)) (by first | exact get_iff rfl (by simp_all [notF, swit]) | exact get_false rfl (by simp_all [notF, swit]) | exact get_true rfl (by simp_all [notF, swit]))
                      ·
                        refine xk_guardF rfl rfl rfl (by decide) ?_
                        refine xk_guardF rfl rfl rfl (by decide) ?_
                        refine xk_guardF rfl rfl rfl (by decide) ?_
                        refine xk_guardF rfl rfl rfl (by decide) ?_
                        refine xk_guardF rfl rfl rfl (by decide) ?_
                        refine xk_guardF rfl rfl rfl (by decide) ?_
                        refine xk_guardF rfl rfl rfl (by decide) ?_
                        refine xk_guardT rfl rfl ?_; (first | refine xk_pickT rfl rfl (by decide) ?_ | refine xk_pickF rfl rfl (by decide) ?_)
                        (first | refine xk_pickT rfl rfl (by decide) ?_ | refine xk_pickF rfl rfl (by decide) ?_)
                        refine XK.nilN ?_
                        exact XK.meetB (by repeat (first | exact trivial | refine ⟨rfl, ?_⟩)) (by first | exact get_iff rfl (by simp_all [notF, swit]) | exact get_false rfl (by simp_all [notF, swit]) | exact get_true rfl (by simp_all [notF, swit]))
                  refine XK.if_ rfl (fun h22 => ?_) (fun h22 => ?_)
                  ·
                    refine XK.seq ?_

                    refine XK.region ?_
                    refine xk_buildS (zs := [.int .u8 0, .int .i64 0]) (L := [(0, 1), (1, 1)]) (zeroB_of (by kernel_rfl)) (by kernel_rfl) rfl (by simp [fillL, setN, Value.cells]; rfl) (by decide) ?_
                    refine xk_assign rfl (by decide) ?_
                    (first | (refine xk_storeN 0 rfl rfl rfl (by kernel_rfl) (by simp [Value.cells, Value.oneCell']) (by simp [Value.cells]) ?_) | (refine xk_storeN 1 rfl rfl rfl (by kernel_rfl) (by simp [Value.cells, Value.oneCell']) (by simp [Value.cells]) ?_) | (refine xk_storeN 2 rfl rfl rfl (by kernel_rfl) (by simp [Value.cells, Value.oneCell']) (by simp [Value.cells]) ?_) | (refine xk_storeN 3 rfl rfl rfl (by kernel_rfl) (by simp [Value.cells, Value.oneCell']) (by simp [Value.cells]) ?_) | (refine xk_storeN 4 rfl rfl rfl (by kernel_rfl) (by simp [Value.cells, Value.oneCell']) (by simp [Value.cells]) ?_) | (refine xk_storeN 5 rfl rfl rfl (by kernel_rfl) (by simp [Value.cells, Value.oneCell']) (by simp [Value.cells]) ?_) | (refine xk_storeN 6 rfl rfl rfl (by kernel_rfl) (by simp [Value.cells, Value.oneCell']) (by simp [Value.cells]) ?_) | (refine xk_storeN 7 rfl rfl rfl (by kernel_rfl) (by simp [Value.cells, Value.oneCell']) (by simp [Value.cells]) ?_) | (refine xk_storeN 8 rfl rfl rfl (by kernel_rfl) (by simp [Value.cells, Value.oneCell']) (by simp [Value.cells]) ?_)); simp only [putN, Value.cells, List.set, List.take, List.drop, List.nil_append, List.append_nil, List.length_cons, List.length_nil, List.cons_append, Nat.reduceAdd]
                    refine XK.nilN ?_
                    refine XK.ret ?_
                    refine XK.norm ?_
                    exact XK.retTC (n := 2) (vs := [.int .u8 0, .int .i64 0]) rfl (by kernel_rfl) rfl rfl (by first | assumption | exact RdN.whole 0 rfl | exact RdN.whole 1 rfl | exact RdN.whole 2 rfl | exact RdN.whole 3 rfl | exact RdN.whole 4 rfl | exact RdN.whole 5 rfl | exact RdN.whole 6 rfl | exact RdN.whole 7 rfl | exact RdN.whole 8 rfl | exact RdN.roc (by simp) (by assumption)) rfl fun w9 st => ⟨by
                      rw [hread, askF, if_neg h14, if_neg h16, if_neg h19, if_pos h22]; rfl, st.below (by simp)⟩
                  ·
                    refine XK.skip ?_
                    refine XK.norm ?_
                    refine XK.seq ?_

                    refine XK.draw 2 (by kernel_rfl) (by kernel_rfl) ?_
                    refine XA.dA 0 rfl rfl rfl (does_ldN 2 rfl) ?_
                    refine XA.dA 1 rfl rfl rfl (does_assign rfl) ?_
                    refine XA.next 2 rfl (by kernel_rfl) ?_
                    (first | (refine xk_storeN 0 rfl rfl rfl (by kernel_rfl) (by simp [Value.cells, Value.oneCell']) (by simp [Value.cells]) ?_) | (refine xk_storeN 1 rfl rfl rfl (by kernel_rfl) (by simp [Value.cells, Value.oneCell']) (by simp [Value.cells]) ?_) | (refine xk_storeN 2 rfl rfl rfl (by kernel_rfl) (by simp [Value.cells, Value.oneCell']) (by simp [Value.cells]) ?_) | (refine xk_storeN 3 rfl rfl rfl (by kernel_rfl) (by simp [Value.cells, Value.oneCell']) (by simp [Value.cells]) ?_) | (refine xk_storeN 4 rfl rfl rfl (by kernel_rfl) (by simp [Value.cells, Value.oneCell']) (by simp [Value.cells]) ?_) | (refine xk_storeN 5 rfl rfl rfl (by kernel_rfl) (by simp [Value.cells, Value.oneCell']) (by simp [Value.cells]) ?_) | (refine xk_storeN 6 rfl rfl rfl (by kernel_rfl) (by simp [Value.cells, Value.oneCell']) (by simp [Value.cells]) ?_) | (refine xk_storeN 7 rfl rfl rfl (by kernel_rfl) (by simp [Value.cells, Value.oneCell']) (by simp [Value.cells]) ?_) | (refine xk_storeN 8 rfl rfl rfl (by kernel_rfl) (by simp [Value.cells, Value.oneCell']) (by simp [Value.cells]) ?_)); simp only [putN, Value.cells, List.set, List.take, List.drop, List.nil_append, List.append_nil, List.length_cons, List.length_nil, List.cons_append, Nat.reduceAdd]
                    refine XA.bt ?_
                    refine XA.done (by kernel_rfl) ?_
                    refine XK.norm ?_
                    refine XK.ret ?_
                    refine XK.norm ?_
                    exact XK.retTC (n := 2) (vs := [.int .u8 k, .int .i64 id]) rfl (by kernel_rfl) rfl rfl (by first | assumption | exact RdN.whole 0 rfl | exact RdN.whole 1 rfl | exact RdN.whole 2 rfl | exact RdN.whole 3 rfl | exact RdN.whole 4 rfl | exact RdN.whole 5 rfl | exact RdN.whole 6 rfl | exact RdN.whole 7 rfl | exact RdN.whole 8 rfl | exact RdN.roc (by simp) (by assumption)) rfl fun w9 st => ⟨by
                      rw [hread, askF, if_neg h14, if_neg h16, if_neg h19, if_neg h22, hk]; rfl, st.below (by simp)⟩

end Go.Proofs.Ytbgibbbggajgaaa
/- table.Chain and plan.Wants, of a chip that is made. -/
namespace Go.Proofs.Ytbgibbbggajgaaa
set_option linter.all false
open Go.RowKit
def IntsOk (l : List Nat) (v : Value) (w w' : World) : Prop := ∃ A c, v = .slice A l.length c ∧ SlS (fresh w w') 1 A l.length (intCells (natI l))
theorem natI_get {l : List Nat} {k i : Nat} (h : l[k]? = some i) : (intCells (natI l))[k]? = some (.int .i64 (i : Int)) := by simp [intCells, natI, h]

theorem chain_any (q : Piece) (s : Soc) (A1 A2 A3 A4 : Option Addr) (n1 k1 n2 k2 n3 k3 n4 k4 : Nat) (c : Nat) (w : World) (hSP : SocP q s A1 n1 A2 n2 A3 n3 A4 n4) (hm : s.okT) (hq : q.Le (all w)) (hc : c < s.clocks.length) :
    Calls Try.prog 52 #[.agg #[.slice A1 n1 k1, .slice A2 n2 k2, .slice A3 n3 k3, .slice A4 n4 k4], .int .i64 (c : Int)] w (RtW (IntsOk (chainL s c)) w) := by
  obtain ⟨rfl, rfl, rfl, rfl⟩ := hSP.len
  refine XK.enter (vs := [.agg #[.slice A1 s.clocks.length k1, .slice A2 s.domains.length k2, .slice A3 s.resets.length k3, .slice A4 s.devs.length k4], .int .i64 (c : Int)]) Try.func52 rfl Try.ntmps52 (by simp) ?_
  refine XK.piece q (by simp) hq ?_
  refine XK.seq ?_

  refine XK.region ?_
  refine xk_box rfl (by decide) fun g1 => ?_
  refine xk_assign rfl (by decide) ?_
  refine XK.nilN ?_
  refine XK.seq ?_

  refine XK.region ?_
  refine xk_assign rfl (by decide) ?_
  refine XK.nilN ?_
  refine XK.seq ?_
  refine XK.nilrow 3 1 ?_
  refine XK.envS [(1, .int .i64 (c : Int)), (5, .slice none 0 0), (2, .pointer (some ⟨g1, 0, none⟩))] ?_
  refine XK.block ?_
  refine XK.loop (fun m e R H => ∃ (cur : Nat) (l : List Nat) (A : Option Addr) (k : Nat), cur < s.clocks.length ∧ l.length ≤ s.clocks.length ∧ m = s.clocks.length - l.length ∧ chainL s c = l ++ chainN s (s.clocks.length - l.length) cur ∧ e = [(1, .int .i64 (cur : Int)), (5, .slice A l.length k), (2, .pointer (some ⟨g1, 0, none⟩))] ∧ R = [q, all w] ∧ H = [HP.own 3 1 (.slice A l.length k) l.length (intCells (natI l)), HP.blk g1 50 [.slice A1 s.clocks.length k1, .slice A2 s.domains.length k2, .slice A3 s.resets.length k3, .slice A4 s.devs.length k4]]) s.clocks.length ⟨c, [], none, 0, hc, by simp, rfl, rfl, rfl, rfl, rfl⟩ fun m e R H hI => ?_
  obtain ⟨cur, l, A, k, hcur, hll, rfl, hch, rfl, rfl, rfl⟩ := hI
  refine XK.seq ?_
  refine XK.cutB 22 (l.length < s.clocks.length) ?_ ?_
  · skip

    refine XK.region ?_
    refine xk_move rfl (by decide) ?_
    refine xk_geq rfl rfl (by decide) ?_
    refine xk_move rfl (by decide) ?_
    refine xk_split (t := 8) rfl (fun hg => ?_) (fun hg => ?_)
    ·
      refine xk_guardT rfl rfl ?_; refine xk_move rfl (by decide) ?_
      refine xk_guardT rfl rfl ?_; refine xk_field (off := 0) (by kernel_rfl) rfl (by decide) ?_
      refine xk_guardT rfl rfl ?_; refine xk_ld rfl ?_
      refine xk_guardT rfl rfl ?_; refine xk_len (el := 65) (by kernel_rfl) rfl (by decide) ?_
      refine xk_guardT rfl rfl ?_; refine xk_lss rfl rfl (by decide) ?_
      (first | refine xk_pickT rfl rfl (by decide) ?_ | refine xk_pickF rfl rfl (by decide) ?_)
      refine xk_move rfl (by decide) ?_
      refine xk_split (t := 15) rfl (fun hg => ?_) (fun hg => ?_)
      ·
        refine xk_guardT rfl rfl ?_; refine xk_move rfl (by decide) ?_
        refine xk_guardT rfl rfl ?_; refine xk_len (el := 3) (by kernel_rfl) rfl (by decide) ?_
        refine xk_guardT rfl rfl ?_; refine xk_field (off := 0) (by kernel_rfl) rfl (by decide) ?_
        refine xk_guardT rfl rfl ?_; refine xk_ld rfl ?_
        refine xk_guardT rfl rfl ?_; refine xk_len (el := 65) (by kernel_rfl) rfl (by decide) ?_
        refine xk_guardT rfl rfl ?_; refine xk_lss rfl rfl (by decide) ?_
        (first | refine xk_pickT rfl rfl (by decide) ?_ | refine xk_pickF rfl rfl (by decide) ?_)
        refine XK.nilN ?_
        exact XK.meetB (by repeat (first | exact trivial | refine ⟨rfl, ?_⟩)) (get_iff rfl (by omega))
      ·
        refine xk_guardF rfl rfl rfl (by decide) ?_
        refine xk_guardF rfl rfl rfl (by decide) ?_
        refine xk_guardF rfl rfl rfl (by decide) ?_
        refine xk_guardF rfl rfl rfl (by decide) ?_
        refine xk_guardF rfl rfl rfl (by decide) ?_
        refine xk_guardF rfl rfl rfl (by decide) ?_
        (first | refine xk_pickT rfl rfl (by decide) ?_ | refine xk_pickF rfl rfl (by decide) ?_)
        refine XK.nilN ?_
        exact XK.meetB (by repeat (first | exact trivial | refine ⟨rfl, ?_⟩)) (get_false rfl (by omega))
    ·
      refine xk_guardF rfl rfl rfl (by decide) ?_
      refine xk_guardF rfl rfl rfl (by decide) ?_
      refine xk_guardF rfl rfl rfl (by decide) ?_
      refine xk_guardF rfl rfl rfl (by decide) ?_
      refine xk_guardF rfl rfl rfl (by decide) ?_
      (first | refine xk_pickT rfl rfl (by decide) ?_ | refine xk_pickF rfl rfl (by decide) ?_)
      refine xk_move rfl (by decide) ?_
      refine xk_guardF rfl rfl rfl (by decide) ?_
      refine xk_guardF rfl rfl rfl (by decide) ?_
      refine xk_guardF rfl rfl rfl (by decide) ?_
      refine xk_guardF rfl rfl rfl (by decide) ?_
      refine xk_guardF rfl rfl rfl (by decide) ?_
      refine xk_guardF rfl rfl rfl (by decide) ?_
      (first | refine xk_pickT rfl rfl (by decide) ?_ | refine xk_pickF rfl rfl (by decide) ?_)
      refine XK.nilN ?_
      exact XK.meetB (by repeat (first | exact trivial | refine ⟨rfl, ?_⟩)) (get_false rfl (by omega))
  refine XK.if_ rfl (fun h => ?_) (fun h => ?_)
  ·
    refine XK.skip ?_
    refine XK.norm ?_
    refine XK.block ?_
    refine XK.seq ?_
    have hlt : l.length < s.clocks.length := h
    obtain ⟨x, hx⟩ : ∃ x, s.clocks[cur]? = some x := ⟨_, List.getElem?_eq_getElem hcur⟩
    obtain ⟨k0, hk0⟩ : ∃ k0, s.clocks.length - l.length = k0 + 1 := ⟨s.clocks.length - l.length - 1, by omega⟩
    rw [hk0, chainN_cons hx] at hch
    have hn9 := hm.nc
    have hfit := (hm.clocks cur x hx).1

    refine XK.region ?_
    refine xk_move rfl (by decide) ?_
    refine xk_move rfl (by decide) ?_
    refine xk_slice (el := 3) (sz := 1) (zs := [.int .i64 0]) (by kernel_rfl) (zeroB_of (by kernel_rfl)) (by kernel_rfl) rfl (by decide) (by decide) rfl (by simp [fillL, setN, Value.cells, List.range_succ, List.set]; rfl) (by decide) fun g2 => ?_
    refine xk_appendT 1 1 8 1 (n' := l.length + 1) (el := 3) (by kernel_rfl) (by kernel_rfl) (by decide) rfl rfl rfl (sl_blk 0 rfl rfl) (by simp [Value.oneCell']) rfl (by omega) (by omega) (by decide) fun A' k' => ?_
    dsimp only [List.set]
    rw [show intCells (natI l) ++ [Value.int .i64 (cur : Int)] = intCells (natI (l ++ [cur])) by simp [intCells, natI]]
    refine XK.weak [1, 2] rfl (by decide) (R' := [q, all w]) (by simp) ?_
    refine xk_assign rfl (by decide) ?_
    refine XK.nilN ?_
    refine XK.seq ?_
    refine XK.seq ?_
    obtain ⟨bC, oC, rC, rfl, hzC, _, hR, hcC⟩ := hSP.clk.rowP hx
    obtain ⟨As, ns, ks, rfl, rfl, hsr⟩ := hR

    refine XK.region ?_
    refine xk_field (off := 0) (by kernel_rfl) rfl (by decide) ?_
    refine xk_ld rfl ?_
    refine xk_move rfl (by decide) ?_
    refine xk_at (cur) (oC + cur * 6) (el := 65) (sz := 6) (by kernel_rfl) (by kernel_rfl) rfl rfl (by omega) (by omega) (by omega) (by decide) ?_
    refine xk_field (off := 1) (by kernel_rfl) rfl (by decide) ?_
    refine xk_load (by kernel_rfl) rfl (Rd.ro (p := q) (by simp) hzC (hcC 1 _ rfl)) (by decide) ?_
    refine xk_len (el := 3) (by kernel_rfl) rfl (by decide) ?_
    refine xk_eql rfl rfl (by decide) ?_
    refine XK.nilN ?_
    refine XK.if_ rfl (fun h0 => ?_) (fun h0 => ?_)
    ·
      refine XK.exit ?_
      refine XK.norm ?_
      refine XK.seq ?_

      refine XK.region ?_
      refine xk_move rfl (by decide) ?_
      refine xk_assign rfl (by decide) ?_
      refine XK.nilN ?_
      refine XK.ret ?_
      refine XK.norm ?_
      have hs0 : x.src = [] := List.eq_nil_of_length_eq_zero (by have : ((x.src.length : Nat) : Int) = 0 := h0; omega)
      rw [hs0] at hch
      have hfin : (l ++ [cur]) = chainL s c := hch.symm
      refine XK.still [] [0] [] (by simp) rfl (by decide) (by decide) fun qf hqf _ hfr => ?_
      obtain ⟨Ff, sf, zf⟩ := hqf 0 _ (by simp) rfl
      obtain ⟨Av, cv, hv, hsv⟩ := SlS.of_own (Y := qf.Z) sf zf
      exact XK.ret1 rfl rfl fun w1 st => ⟨⟨_, rfl, by
        rw [← hfin]
        unfold IntsOk
        rw [hv]
        exact ⟨Av, cv, by simp, by simpa using SlS.le hsv (st.fresh_le (by simp) (hfr (by simp) (by simp)))⟩⟩, st.below (by simp)⟩
    ·
      refine XK.skip ?_
      refine XK.norm ?_
      obtain ⟨f, fs, hs0⟩ : ∃ f fs, x.src = f :: fs := by
        cases hs0 : x.src with
        | nil => exact absurd (by rw [hs0]; rfl) h0
        | cons f fs => exact ⟨f, fs, rfl⟩
      have hf := hfit f (by rw [hs0]; simp)
      obtain ⟨f', rfl⟩ : ∃ f' : Nat, f = (f' : Int) := ⟨f.toNat, by omega⟩
      rw [hs0] at hch
      obtain ⟨bS, oS, rfl, hzS, hcS⟩ := hsr.2 (by rw [hs0]; simp)

      refine XK.region ?_
      refine xk_field (off := 0) (by kernel_rfl) rfl (by decide) ?_
      refine xk_ld rfl ?_
      refine xk_move rfl (by decide) ?_
      refine xk_at (cur) (oC + cur * 6) (el := 65) (sz := 6) (by kernel_rfl) (by kernel_rfl) rfl rfl (by omega) (by omega) (by omega) (by decide) ?_
      refine xk_field (off := 1) (by kernel_rfl) rfl (by decide) ?_
      refine xk_load (by kernel_rfl) rfl (Rd.ro (p := q) (by simp) hzC (hcC 1 _ rfl)) (by decide) ?_
      refine xk_at 0 oS (el := 3) (sz := 1) (by kernel_rfl) (by kernel_rfl) rfl rfl rfl (by rw [hs0]; simp) (by omega) (by decide) ?_
      refine xk_load (by kernel_rfl) rfl (Rd.ro (p := q) (by simp) hzS (hcS 0 _ (by rw [hs0]; rfl))) (by decide) ?_
      refine xk_assign rfl (by decide) ?_
      refine XK.nilN ?_
      exact XK.envS [(1, .int .i64 (f' : Int)), (5, .slice A' (l.length + 1) k'), (2, .pointer (some ⟨g1, 0, none⟩))] (XK.round (s.clocks.length - (l.length + 1)) (by omega) ⟨f', l ++ [cur], A', k', by omega, by simp; omega, by simp, by rw [hch]; simp [show s.clocks.length - (l.length + 1) = k0 by omega], by simp, rfl, by simp⟩)
  ·
    refine XK.exit ?_
    refine XK.norm ?_
    refine XK.seq ?_

    refine XK.region ?_
    refine xk_move rfl (by decide) ?_
    refine xk_assign rfl (by decide) ?_
    refine XK.nilN ?_
    refine XK.ret ?_
    refine XK.norm ?_
    have hge : ¬ l.length < s.clocks.length := h
    rw [show s.clocks.length - l.length = 0 by omega] at hch
    have hfin : l = chainL s c := by rw [hch]; simp [chainN]
    refine XK.still [] [0] [] (by simp) rfl (by decide) (by decide) fun qf hqf _ hfr => ?_
    obtain ⟨Ff, sf, zf⟩ := hqf 0 _ (by simp) rfl
    obtain ⟨Av, cv, hv, hsv⟩ := SlS.of_own (Y := qf.Z) sf zf
    exact XK.ret1 rfl rfl fun w1 st => ⟨⟨_, rfl, by
      rw [← hfin]
      unfold IntsOk
      rw [hv]
      exact ⟨Av, cv, rfl, SlS.le hsv (st.fresh_le (by simp) (hfr (by simp) (by simp)))⟩⟩, st.below (by simp)⟩

set_option maxHeartbeats 4000000 in
set_option maxRecDepth 10000 in
theorem wants_any (q : Piece) (s : Soc) (A1 A2 A3 A4 : Option Addr) (n1 k1 n2 k2 n3 k3 n4 k4 : Nat) (Aa : Option Addr) (ca : Nat) (act : List Bool) (w : World) (hSP : SocP q s A1 n1 A2 n2 A3 n3 A4 n4) (hm : s.made) (hq : q.Le (all w)) (hact : SlS (all w) 1 Aa act.length (boolCells act)) :
    Calls Try.prog 28 #[.agg #[.slice A1 n1 k1, .slice A2 n2 k2, .slice A3 n3 k3, .slice A4 n4 k4], .slice Aa act.length ca] w (RtW (WishOk (wants s act)) w) := by
  obtain ⟨rfl, rfl, rfl, rfl⟩ := hSP.len
  refine XK.enter (vs := [.agg #[.slice A1 s.clocks.length k1, .slice A2 s.domains.length k2, .slice A3 s.resets.length k3, .slice A4 s.devs.length k4], .slice Aa act.length ca]) Try.func28 rfl Try.ntmps28 (by simp) ?_
  refine XK.piece q (by simp) hq ?_
  have hn9 := hm.nc
  have hn4 := hm.nd
  have hn3 := hm.nr
  have hnv := hm.nv
  refine XK.seq ?_

  refine XK.region ?_
  refine xk_box rfl (by decide) fun g1 => ?_
  refine xk_alloc (cs := [.slice none 0 0, .slice none 0 0, .slice none 0 0]) (zeroB_of (by kernel_rfl)) (by decide) fun g2 => ?_
  refine XK.nilN ?_
  refine XK.seq ?_
  refine XK.seq ?_

  refine XK.region ?_
  refine xk_ldN 4 rfl ?_
  refine xk_callR (f := 43) (fi := []) (ca := []) (by kernel_rfl) rfl rfl (by decide) (fun w1 st => checkS_any s A1 A2 A3 A4 _ k1 _ k2 _ k3 _ k4 w1 (hSP.W (st.le (by simp)) (made_small hm))) ?_
  rw [made_check hm]
  refine xk_neq rfl rfl (by decide) ?_
  refine XK.nilN ?_
  refine XK.if_ rfl (fun h => absurd rfl h) (fun h => ?_)

  ·
    refine XK.skip ?_
    refine XK.norm ?_
    refine XK.cut (fun e R H => ∃ ga gb gc gw, e = [(5, .pointer (some ⟨gw, 0, none⟩)), (4, .pointer (some ⟨g2, 0, none⟩)), (2, .pointer (some ⟨g1, 0, none⟩)), (1, .slice Aa act.length ca)] ∧ R = [q, all w] ∧ H = [HP.blk gw 56 [.slice (some ⟨ga, 0, none⟩) s.domains.length s.domains.length, .slice (some ⟨gb, 0, none⟩) s.clocks.length s.clocks.length, .slice (some ⟨gc, 0, none⟩) s.resets.length s.resets.length], HP.blk ga 4 (boolCells (zeroW s).d), HP.blk gb 4 (boolCells (zeroW s).c), HP.blk gc 4 (boolCells (zeroW s).l), HP.blk g2 56 [.slice none 0 0, .slice none 0 0, .slice none 0 0], HP.blk g1 50 [.slice A1 s.clocks.length k1, .slice A2 s.domains.length k2, .slice A3 s.resets.length k3, .slice A4 s.devs.length k4]]) ?_ ?_
    ·

      refine XK.draw 14 (by kernel_rfl) (by kernel_rfl) ?_
      refine XA.dA 0 rfl rfl rfl (does_field (off := 1) (by kernel_rfl) rfl) ?_
      refine XA.dA 1 rfl rfl rfl (does_ld rfl) ?_
      refine XA.dA 2 rfl rfl rfl (does_len (el := 61) (by kernel_rfl) rfl) ?_
      refine XA.dA 4 rfl rfl rfl (does_field (off := 0) (by kernel_rfl) rfl) ?_
      refine XA.dA 5 rfl rfl rfl (does_ld rfl) ?_
      refine XA.dA 6 rfl rfl rfl (does_len (el := 65) (by kernel_rfl) rfl) ?_
      refine XA.dA 8 rfl rfl rfl (does_field (off := 2) (by kernel_rfl) rfl) ?_
      refine XA.dA 9 rfl rfl rfl (does_ld rfl) ?_
      refine XA.dA 10 rfl rfl rfl (does_len (el := 102) (by kernel_rfl) rfl) ?_
      refine XA.allocs (fuel := 2) [3, 7, 11, 13] [[3, 7, 11], [3, 7, 11, 13]] (fun i => match i with | 3 => ⟨19, 4, List.replicate s.domains.length (.bool false), fun g => .slice (some ⟨g, 0, none⟩) s.domains.length s.domains.length⟩ | 7 => ⟨23, 4, List.replicate s.clocks.length (.bool false), fun g => .slice (some ⟨g, 0, none⟩) s.clocks.length s.clocks.length⟩ | 11 => ⟨27, 4, List.replicate s.resets.length (.bool false), fun g => .slice (some ⟨g, 0, none⟩) s.resets.length s.resets.length⟩ | _ => ⟨5, 56, [.slice none 0 0, .slice none 0 0, .slice none 0 0], fun g => .pointer (some ⟨g, 0, none⟩)⟩) (fun i hi => ?_) (by show [19, 23, 27, 5].Nodup; decide) (by kernel_rfl) (fun _ h => h) (fun sub hsub hex g => ?_)
      · simp only [List.mem_cons, List.not_mem_nil, or_false] at hi
        rcases hi with rfl | rfl | rfl | rfl
        · exact ALok.of rfl rfl rfl (makes_make 1 (el := 4) (z := .bool false) (by kernel_rfl) (by kernel_rfl) rfl rfl rfl (by omega) (by omega)) (Nat.le_of_ble_eq_true rfl) rfl
        · exact ALok.of rfl rfl rfl (makes_make 1 (el := 4) (z := .bool false) (by kernel_rfl) (by kernel_rfl) rfl rfl rfl (by omega) (by omega)) (Nat.le_of_ble_eq_true rfl) rfl
        · exact ALok.of rfl rfl rfl (makes_make 1 (el := 4) (z := .bool false) (by kernel_rfl) (by kernel_rfl) rfl rfl rfl (by omega) (by omega)) (Nat.le_of_ble_eq_true rfl) rfl
        · exact ALok.of rfl rfl rfl (makes_alloc (zeroB_of (by kernel_rfl))) (Nat.le_of_ble_eq_true rfl) rfl
      have hs2 : sub = [3, 7, 11] ∨ sub = [3, 7, 11, 13] := by simpa using hex
      have er : ∀ n : Nat, List.replicate n (Value.bool false) = boolCells (List.replicate n false) := fun n => by simp [boolCells]
      rcases hs2 with rfl | rfl
      · dsimp only [envA, hpA, markA, List.map, List.foldr, List.cons_append, List.nil_append, List.length_cons, List.length_nil, Nat.reduceAdd, Nat.reduceSub]
        refine XA.do_ 12 rfl rfl rfl (by decide) (does_buildS (zs := [.slice none 0 0, .slice none 0 0, .slice none 0 0]) (L := [(0, 1), (1, 1), (2, 1)]) (zeroB_of (by kernel_rfl)) (by kernel_rfl) rfl (by simp [fillL, setN, Value.cells]; rfl)) (by kernel_rfl) (fun _ _ _ h => h) (fun _ h => h.tail.tail.tail) ?_
        refine XA.next 13 rfl (by kernel_rfl) ?_
        refine xk_alloc (cs := [.slice none 0 0, .slice none 0 0, .slice none 0 0]) (zeroB_of (by kernel_rfl)) (by decide) fun g6 => ?_
        refine XK.nil ?_; refine XK.thenN ?_; refine XA.back (fun _ h => h.tail.tail.tail.tail) ?_
        refine XA.next 14 rfl (by kernel_rfl) ?_
        (first | (refine xk_storeN 0 rfl rfl rfl (by kernel_rfl) (by simp [Value.cells, Value.oneCell']) (by simp [Value.cells]) ?_) | (refine xk_storeN 1 rfl rfl rfl (by kernel_rfl) (by simp [Value.cells, Value.oneCell']) (by simp [Value.cells]) ?_) | (refine xk_storeN 2 rfl rfl rfl (by kernel_rfl) (by simp [Value.cells, Value.oneCell']) (by simp [Value.cells]) ?_) | (refine xk_storeN 3 rfl rfl rfl (by kernel_rfl) (by simp [Value.cells, Value.oneCell']) (by simp [Value.cells]) ?_) | (refine xk_storeN 4 rfl rfl rfl (by kernel_rfl) (by simp [Value.cells, Value.oneCell']) (by simp [Value.cells]) ?_) | (refine xk_storeN 5 rfl rfl rfl (by kernel_rfl) (by simp [Value.cells, Value.oneCell']) (by simp [Value.cells]) ?_) | (refine xk_storeN 6 rfl rfl rfl (by kernel_rfl) (by simp [Value.cells, Value.oneCell']) (by simp [Value.cells]) ?_) | (refine xk_storeN 7 rfl rfl rfl (by kernel_rfl) (by simp [Value.cells, Value.oneCell']) (by simp [Value.cells]) ?_) | (refine xk_storeN 8 rfl rfl rfl (by kernel_rfl) (by simp [Value.cells, Value.oneCell']) (by simp [Value.cells]) ?_)); simp only [putN, Value.cells, List.set, List.take, List.drop, List.nil_append, List.append_nil, List.length_cons, List.length_nil, List.cons_append, Nat.reduceAdd]
        refine XA.bt ?_
        refine XA.done (by kernel_rfl) ?_
        refine XK.norm ?_
        exact XK.weak [0, 1, 2, 3, 4, 5] rfl (by decide) (by simp) (XK.envS [(5, .pointer (some ⟨g6, 0, none⟩)), (4, .pointer (some ⟨g2, 0, none⟩)), (2, .pointer (some ⟨g1, 0, none⟩)), (1, .slice Aa act.length ca)] (XK.meet ⟨g 3, g 7, g 11, g6, rfl, rfl, by simp only [er, zeroW]⟩))
      · dsimp only [envA, hpA, markA, List.map, List.foldr, List.cons_append, List.nil_append, List.length_cons, List.length_nil, Nat.reduceAdd, Nat.reduceSub]
        refine XA.do_ 12 rfl rfl rfl (by decide) (does_buildS (zs := [.slice none 0 0, .slice none 0 0, .slice none 0 0]) (L := [(0, 1), (1, 1), (2, 1)]) (zeroB_of (by kernel_rfl)) (by kernel_rfl) rfl (by simp [fillL, setN, Value.cells]; rfl)) (by kernel_rfl) (fun _ _ _ h => h) (fun _ h => h.tail.tail.tail.tail) ?_
        refine XA.next 14 rfl (by kernel_rfl) ?_
        (first | (refine xk_storeN 0 rfl rfl rfl (by kernel_rfl) (by simp [Value.cells, Value.oneCell']) (by simp [Value.cells]) ?_) | (refine xk_storeN 1 rfl rfl rfl (by kernel_rfl) (by simp [Value.cells, Value.oneCell']) (by simp [Value.cells]) ?_) | (refine xk_storeN 2 rfl rfl rfl (by kernel_rfl) (by simp [Value.cells, Value.oneCell']) (by simp [Value.cells]) ?_) | (refine xk_storeN 3 rfl rfl rfl (by kernel_rfl) (by simp [Value.cells, Value.oneCell']) (by simp [Value.cells]) ?_) | (refine xk_storeN 4 rfl rfl rfl (by kernel_rfl) (by simp [Value.cells, Value.oneCell']) (by simp [Value.cells]) ?_) | (refine xk_storeN 5 rfl rfl rfl (by kernel_rfl) (by simp [Value.cells, Value.oneCell']) (by simp [Value.cells]) ?_) | (refine xk_storeN 6 rfl rfl rfl (by kernel_rfl) (by simp [Value.cells, Value.oneCell']) (by simp [Value.cells]) ?_) | (refine xk_storeN 7 rfl rfl rfl (by kernel_rfl) (by simp [Value.cells, Value.oneCell']) (by simp [Value.cells]) ?_) | (refine xk_storeN 8 rfl rfl rfl (by kernel_rfl) (by simp [Value.cells, Value.oneCell']) (by simp [Value.cells]) ?_)); simp only [putN, Value.cells, List.set, List.take, List.drop, List.nil_append, List.append_nil, List.length_cons, List.length_nil, List.cons_append, Nat.reduceAdd]
        refine XA.bt ?_
        refine XA.done (by kernel_rfl) ?_
        refine XK.norm ?_
        exact XK.weak [3, 0, 1, 2, 4, 5] rfl (by decide) (by simp) (XK.envS [(5, .pointer (some ⟨g 13, 0, none⟩)), (4, .pointer (some ⟨g2, 0, none⟩)), (2, .pointer (some ⟨g1, 0, none⟩)), (1, .slice Aa act.length ca)] (XK.meet ⟨g 3, g 7, g 11, g 13, rfl, rfl, by simp only [er, zeroW]⟩))

    rintro _ _ _ ⟨ga, gb, gc, gw, rfl, rfl, rfl⟩
    refine XK.seq ?_
    refine XK.seq ?_

    refine XK.region ?_
    refine xk_field (off := 3) (by kernel_rfl) rfl (by decide) ?_
    refine xk_ld rfl ?_
    refine xk_len (el := 83) (by kernel_rfl) rfl (by decide) ?_
    refine xk_move rfl (by decide) ?_
    refine XK.nilN ?_
    refine XK.envS [(32, .int .i64 0), (31, .int .i64 s.devs.length), (30, .slice A4 s.devs.length k4), (5, .pointer (some ⟨gw, 0, none⟩)), (4, .pointer (some ⟨g2, 0, none⟩)), (2, .pointer (some ⟨g1, 0, none⟩)), (1, .slice Aa act.length ca)] ?_
    refine XK.block ?_
    refine XK.loop (fun m e R H => ∃ (j : Nat), j ≤ s.devs.length ∧ m = s.devs.length - j ∧ e = [(32, .int .i64 j), (31, .int .i64 s.devs.length), (30, .slice A4 s.devs.length k4), (5, .pointer (some ⟨gw, 0, none⟩)), (4, .pointer (some ⟨g2, 0, none⟩)), (2, .pointer (some ⟨g1, 0, none⟩)), (1, .slice Aa act.length ca)] ∧ R = [q, all w] ∧ H = [HP.blk gw 56 [.slice (some ⟨ga, 0, none⟩) s.domains.length s.domains.length, .slice (some ⟨gb, 0, none⟩) s.clocks.length s.clocks.length, .slice (some ⟨gc, 0, none⟩) s.resets.length s.resets.length], HP.blk ga 4 (boolCells (wantN s act j).d), HP.blk gb 4 (boolCells (wantN s act j).c), HP.blk gc 4 (boolCells (wantN s act j).l), HP.blk g2 56 [.slice none 0 0, .slice none 0 0, .slice none 0 0], HP.blk g1 50 [.slice A1 s.clocks.length k1, .slice A2 s.domains.length k2, .slice A3 s.resets.length k3, .slice A4 s.devs.length k4]]) s.devs.length ⟨0, by omega, rfl, rfl, rfl, rfl⟩ fun m e R H hI => ?_
    obtain ⟨j, hj, rfl, rfl, rfl, rfl⟩ := hI
    refine XK.seq ?_

    refine XK.region ?_
    refine xk_lss rfl rfl (by decide) ?_
    refine XK.nilN ?_
    refine XK.seq ?_
    refine XK.if_ rfl (fun h => ?_) (fun h => ?_)
    ·
      refine XK.skip ?_
      refine XK.norm ?_
      refine XK.seq ?_
      refine XK.block ?_
      refine XK.seq ?_
      have hjl : j < s.devs.length := by have h' : (j : Int) < (s.devs.length : Int) := h; omega
      obtain ⟨x, hx⟩ : ∃ x, s.devs[j]? = some x := ⟨_, List.getElem?_eq_getElem hjl⟩
      obtain ⟨hx1, hx2, hx3, hx4, hx5, hx6, _⟩ := hm.devs j x hx
      obtain ⟨bV, oV, rV, rfl, hzV, _, hR, hcV⟩ := hSP.dev.rowP hx
      obtain ⟨Ar, nr, kr, An, nn, kn, rfl, _⟩ := hR
      have hwo := wantN_of s act j
      obtain ⟨xc, hxc⟩ : ∃ xc : Nat, x.clock = (xc : Int) := ⟨x.clock.toNat, by omega⟩
      obtain ⟨xd, hxd⟩ : ∃ xd : Nat, x.domain = (xd : Int) := ⟨x.domain.toNat, by omega⟩
      obtain ⟨xr, hxr⟩ : ∃ xr : Nat, x.reset = (xr : Int) := ⟨x.reset.toNat, by omega⟩
      have hnx : hasB act j = true → wantN s act (j + 1) = ⟨putAll (ups s xd) (wantN s act j).d, putAll ((chainL s xc).filter (swK s)) (wantN s act j).c, putB (wantN s act j).l (xr : Int) true⟩ := fun ha => by
        rw [wantN_next hx ha, wantStep, hxd, hxc, hxr]; rfl
      rw [hxc, hxd, hxr] at hcV
      generalize hwj : wantN s act j = wj at *

      refine XK.region ?_
      refine xk_move rfl (by decide) ?_
      refine xk_at (j) (oV + j * 6) (el := 83) (sz := 6) (by kernel_rfl) (by kernel_rfl) rfl rfl (by omega) (by omega) (by omega) (by decide) ?_
      refine xk_loadN 6 (by kernel_rfl) rfl (RdN.of (vs := [.int .i64 (xc : Int), .int .i64 (xd : Int), .int .i64 (xr : Int), .int .u32 x.clamp, .slice Ar nr kr, .slice An nn kn]) fun f v hf => Rd.ro (p := q) (by simp) hzV (hcV f v hf)) rfl (by decide) ?_
      refine xk_alloc (cs := [.int .i64 0, .int .i64 0, .int .i64 0, .int .u32 0, .slice none 0 0, .slice none 0 0]) (zeroB_of (by kernel_rfl)) (by decide) fun g7 => ?_
      refine xk_assign rfl (by decide) ?_
      (first | (refine xk_storeN 0 rfl rfl rfl (by kernel_rfl) (by simp [Value.cells, Value.oneCell']) (by simp [Value.cells]) ?_) | (refine xk_storeN 1 rfl rfl rfl (by kernel_rfl) (by simp [Value.cells, Value.oneCell']) (by simp [Value.cells]) ?_) | (refine xk_storeN 2 rfl rfl rfl (by kernel_rfl) (by simp [Value.cells, Value.oneCell']) (by simp [Value.cells]) ?_) | (refine xk_storeN 3 rfl rfl rfl (by kernel_rfl) (by simp [Value.cells, Value.oneCell']) (by simp [Value.cells]) ?_) | (refine xk_storeN 4 rfl rfl rfl (by kernel_rfl) (by simp [Value.cells, Value.oneCell']) (by simp [Value.cells]) ?_) | (refine xk_storeN 5 rfl rfl rfl (by kernel_rfl) (by simp [Value.cells, Value.oneCell']) (by simp [Value.cells]) ?_) | (refine xk_storeN 6 rfl rfl rfl (by kernel_rfl) (by simp [Value.cells, Value.oneCell']) (by simp [Value.cells]) ?_) | (refine xk_storeN 7 rfl rfl rfl (by kernel_rfl) (by simp [Value.cells, Value.oneCell']) (by simp [Value.cells]) ?_) | (refine xk_storeN 8 rfl rfl rfl (by kernel_rfl) (by simp [Value.cells, Value.oneCell']) (by simp [Value.cells]) ?_)); simp only [putN, Value.cells, List.set, List.take, List.drop, List.nil_append, List.append_nil, List.length_cons, List.length_nil, List.cons_append, Nat.reduceAdd]
      refine XK.nilN ?_
      refine XK.seq ?_
      refine XK.seq ?_

      refine XK.region ?_
      refine xk_move rfl (by decide) ?_
      refine xk_move rfl (by decide) ?_
      refine xk_callR (f := 51) (fi := []) (ca := []) (by kernel_rfl) rfl rfl (by decide) (fun w1 st => has_any Aa act.length ca j act w1 (hact.le (st.le (by simp))) rfl (by omega)) ?_
      (first | refine xk_notD rfl (by decide) ?_ | refine xk_not rfl (by decide) ?_)
      refine XK.nilN ?_
      refine XK.cond rfl (fun h => ?_) (fun h => ?_)
      ·
        refine XK.exit ?_
        refine XK.norm ?_

        refine XK.region ?_
        refine xk_add rfl rfl (wrap_in (by omega)) (by decide) ?_
        refine xk_move rfl (by decide) ?_
        refine XK.nilN ?_
        have hno : hasB act j = false := by simpa using h
        exact XK.weak [1, 2, 3, 4, 5, 6] rfl (by decide) (by simp) (XK.envS [(32, .int .i64 ((j : Int) + 1)), (31, .int .i64 s.devs.length), (30, .slice (some ⟨bV, oV, none⟩) s.devs.length k4), (5, .pointer (some ⟨gw, 0, none⟩)), (4, .pointer (some ⟨g2, 0, none⟩)), (2, .pointer (some ⟨g1, 0, none⟩)), (1, .slice Aa act.length ca)] (XK.round (s.devs.length - (j + 1)) (by omega) ⟨j + 1, by omega, rfl, rfl, rfl, by rw [wantN_skip hno, hwj]⟩))
      ·
        have hyes : hasB act j = true := by simpa using h
        have hnx := hnx hyes
        refine XK.skip ?_
        refine XK.norm ?_
        refine XK.seq ?_
        refine XK.seq ?_

        refine XK.region ?_
        refine xk_field (off := 1) (by kernel_rfl) rfl (by decide) ?_
        refine xk_ld rfl ?_
        refine xk_assign rfl (by decide) ?_
        refine XK.nilN ?_
        refine XK.envS [(8, .int .i64 (xd : Int)), (7, .pointer (some ⟨g7, 0, none⟩)), (32, .int .i64 j), (31, .int .i64 s.devs.length), (30, .slice (some ⟨bV, oV, none⟩) s.devs.length k4), (5, .pointer (some ⟨gw, 0, none⟩)), (4, .pointer (some ⟨g2, 0, none⟩)), (2, .pointer (some ⟨g1, 0, none⟩)), (1, .slice Aa act.length ca)] ?_
        refine XK.block ?_
        refine XK.loop (fun m e R H => ∃ (cur : Int) (rest : List Nat) (d : List Bool), m = rest.length ∧ UpsR s cur rest ∧ d.length = s.domains.length ∧ putAll rest d = putAll (ups s xd) wj.d ∧ e = [(8, .int .i64 cur), (7, .pointer (some ⟨g7, 0, none⟩)), (32, .int .i64 j), (31, .int .i64 s.devs.length), (30, .slice (some ⟨bV, oV, none⟩) s.devs.length k4), (5, .pointer (some ⟨gw, 0, none⟩)), (4, .pointer (some ⟨g2, 0, none⟩)), (2, .pointer (some ⟨g1, 0, none⟩)), (1, .slice Aa act.length ca)] ∧ R = [q, all w] ∧ H = [HP.blk g7 83 [.int .i64 (xc : Int), .int .i64 (xd : Int), .int .i64 (xr : Int), .int .u32 x.clamp, .slice Ar nr kr, .slice An nn kn], HP.blk gw 56 [.slice (some ⟨ga, 0, none⟩) s.domains.length s.domains.length, .slice (some ⟨gb, 0, none⟩) s.clocks.length s.clocks.length, .slice (some ⟨gc, 0, none⟩) s.resets.length s.resets.length], HP.blk ga 4 (boolCells d), HP.blk gb 4 (boolCells wj.c), HP.blk gc 4 (boolCells wj.l), HP.blk g2 56 [.slice none 0 0, .slice none 0 0, .slice none 0 0], HP.blk g1 50 [.slice A1 s.clocks.length k1, .slice A2 s.domains.length k2, .slice A3 s.resets.length k3, .slice (some ⟨bV, oV, none⟩) s.devs.length k4]]) (ups s xd).length ⟨_, ups s xd, wj.d, rfl, ups_R hm (by omega), hwo.d, rfl, rfl, rfl, rfl⟩ fun m e R H hI => ?_
        obtain ⟨cur, rest, d, rfl, hur, hdl, hpd, rfl, rfl, rfl⟩ := hI
        refine XK.seq ?_
        refine XK.seq ?_

        refine XK.region ?_
        refine xk_move rfl (by decide) ?_
        refine xk_neq rfl rfl (by decide) ?_
        refine XK.nilN ?_
        refine XK.if_ rfl (fun h => ?_) (fun h => ?_)
        ·
          refine XK.skip ?_
          refine XK.norm ?_
          refine XK.seq ?_
          obtain ⟨i, r, rfl⟩ : ∃ i r, rest = i :: r := by
            cases rest with
            | nil => exact absurd hur h
            | cons i r => exact ⟨i, r, rfl⟩
          obtain ⟨rfl, dm, hdm, hur⟩ := hur
          have hil := (List.getElem?_eq_some_iff.1 hdm).1
          refine XK.block ?_

          refine XK.region ?_
          refine xk_field (off := 0) (by kernel_rfl) rfl (by decide) ?_
          refine xk_ld rfl ?_
          refine xk_move rfl (by decide) ?_
          refine xk_at (i) (i) (el := 4) (sz := 1) (by kernel_rfl) (by kernel_rfl) rfl rfl (by omega) (by omega) (by omega) (by decide) ?_
          refine xk_store 2 rfl (by kernel_rfl) rfl rfl rfl (by rw [boolCells_len]; omega) ?_
          dsimp only [List.set]
          rw [boolCells_set, show d.set i true = putB d (i : Int) true by simp [putB]]
          refine XK.nilN ?_
          obtain ⟨bD, oD, rD, rfl, hzD, _, rfl, hcD⟩ := hSP.dom.rowP hdm

          refine XK.region ?_
          refine xk_field (off := 1) (by kernel_rfl) rfl (by decide) ?_
          refine xk_ld rfl ?_
          refine xk_move rfl (by decide) ?_
          refine xk_at (i) (oD + i * 3) (el := 61) (sz := 3) (by kernel_rfl) (by kernel_rfl) rfl rfl (by omega) (by omega) (by omega) (by decide) ?_
          refine xk_field (off := 0) (by kernel_rfl) rfl (by decide) ?_
          refine xk_load (by kernel_rfl) rfl (Rd.ro (p := q) (by simp) hzD (hcD 0 _ rfl)) (by decide) ?_
          refine xk_assign rfl (by decide) ?_
          refine XK.nilN ?_
          exact XK.envS [(8, .int .i64 dm.above), (7, .pointer (some ⟨g7, 0, none⟩)), (32, .int .i64 j), (31, .int .i64 s.devs.length), (30, .slice (some ⟨bV, oV, none⟩) s.devs.length k4), (5, .pointer (some ⟨gw, 0, none⟩)), (4, .pointer (some ⟨g2, 0, none⟩)), (2, .pointer (some ⟨g1, 0, none⟩)), (1, .slice Aa act.length ca)] (XK.round r.length (by simp) ⟨dm.above, r, putB d (i : Int) true, rfl, hur, by rw [putB_len]; exact hdl, by rw [← hpd]; rfl, rfl, rfl, rfl⟩)
        ·
          refine XK.exit ?_
          refine XK.norm ?_
          refine XK.seq ?_
          refine XK.seq ?_
          obtain rfl : rest = [] := by
            cases rest with
            | nil => rfl
            | cons i r => exact absurd (show cur = -1 from Classical.not_not.1 h) (by have := hur.1; omega)
          have hpd : d = putAll (ups s xd) wj.d := hpd

          refine XK.region ?_
          refine xk_ldN 4 rfl ?_
          refine xk_field (off := 0) (by kernel_rfl) rfl (by decide) ?_
          refine xk_ld rfl ?_
          refine xk_call [] (f := 52) (fi := []) (ca := []) (by kernel_rfl) rfl rfl (by decide) (by simp) (IntsOk (chainL s xc)) (fun w1 st => chain_any q s A1 A2 A3 (some ⟨bV, oV, none⟩) _ k1 _ k2 _ k3 _ k4 xc w1 hSP hm.okT (st.le (by simp)) (by omega)) ?_
          rintro _ w1 qc ⟨Ac, cc, rfl, hsc⟩ hf _ _
          have hsc := hsc.le hf
          have hcin := fun i (hi : i ∈ chainL s xc) => chainN_in s _ _ i hi
          have hcl : (chainL s xc).length ≤ s.clocks.length := chainN_len s _ _
          clear hf
          generalize hch : chainL s xc = ch at *
          refine xk_len (el := 3) (by kernel_rfl) rfl (by decide) ?_
          refine xk_move rfl (by decide) ?_
          refine XK.nilN ?_
          refine XK.envS [(60, .int .i64 0), (59, .int .i64 ch.length), (58, .slice Ac ch.length cc), (7, .pointer (some ⟨g7, 0, none⟩)), (32, .int .i64 j), (31, .int .i64 s.devs.length), (30, .slice (some ⟨bV, oV, none⟩) s.devs.length k4), (5, .pointer (some ⟨gw, 0, none⟩)), (4, .pointer (some ⟨g2, 0, none⟩)), (2, .pointer (some ⟨g1, 0, none⟩)), (1, .slice Aa act.length ca)] ?_
          refine XK.block ?_
          refine XK.loop (fun m e R H => ∃ (k : Nat), k ≤ ch.length ∧ m = ch.length - k ∧ e = [(60, .int .i64 k), (59, .int .i64 ch.length), (58, .slice Ac ch.length cc), (7, .pointer (some ⟨g7, 0, none⟩)), (32, .int .i64 j), (31, .int .i64 s.devs.length), (30, .slice (some ⟨bV, oV, none⟩) s.devs.length k4), (5, .pointer (some ⟨gw, 0, none⟩)), (4, .pointer (some ⟨g2, 0, none⟩)), (2, .pointer (some ⟨g1, 0, none⟩)), (1, .slice Aa act.length ca)] ∧ R = [qc, q, all w] ∧ H = [HP.blk g7 83 [.int .i64 (xc : Int), .int .i64 (xd : Int), .int .i64 (xr : Int), .int .u32 x.clamp, .slice Ar nr kr, .slice An nn kn], HP.blk gw 56 [.slice (some ⟨ga, 0, none⟩) s.domains.length s.domains.length, .slice (some ⟨gb, 0, none⟩) s.clocks.length s.clocks.length, .slice (some ⟨gc, 0, none⟩) s.resets.length s.resets.length], HP.blk ga 4 (boolCells d), HP.blk gb 4 (boolCells (putAll ((ch.take k).filter (swK s)) wj.c)), HP.blk gc 4 (boolCells wj.l), HP.blk g2 56 [.slice none 0 0, .slice none 0 0, .slice none 0 0], HP.blk g1 50 [.slice A1 s.clocks.length k1, .slice A2 s.domains.length k2, .slice A3 s.resets.length k3, .slice (some ⟨bV, oV, none⟩) s.devs.length k4]]) ch.length ⟨0, by omega, rfl, rfl, rfl, rfl⟩ fun m e R H hI => ?_
          obtain ⟨k, hk, rfl, rfl, rfl, rfl⟩ := hI
          refine XK.seq ?_

          refine XK.region ?_
          refine xk_lss rfl rfl (by decide) ?_
          refine XK.nilN ?_
          refine XK.seq ?_
          refine XK.if_ rfl (fun h => ?_) (fun h => ?_)
          ·
            refine XK.skip ?_
            refine XK.norm ?_
            refine XK.seq ?_
            refine XK.block ?_
            refine XK.seq ?_
            have hkl : k < ch.length := by have h' : (k : Int) < (ch.length : Int) := h; omega
            obtain ⟨ci, hci⟩ : ∃ ci, ch[k]? = some ci := ⟨_, List.getElem?_eq_getElem hkl⟩
            have hcil := hcin ci (List.mem_of_getElem? hci)
            obtain ⟨ck, hck⟩ : ∃ ck, s.clocks[ci]? = some ck := ⟨_, List.getElem?_eq_getElem hcil⟩
            obtain ⟨bI, oI, rfl, hzI, hcI⟩ := hsc.2 (by omega)
            obtain ⟨bC, oC, rC, rfl, hzC, _, hR2, hcC⟩ := hSP.clk.rowP hck
            obtain ⟨As, ns, ks, rfl, _⟩ := hR2
            have htk : (ch.take (k + 1)).filter (swK s) = (ch.take k).filter (swK s) ++ (if swK s ci then [ci] else []) := by
              rw [List.take_add_one, hci, List.filter_append]
              cases hsw : swK s ci <;> simp [hsw]
            have hswv : swK s ci = decide (ck.kind = 112 ∨ ck.kind = 103) := by unfold swK; rw [hck]
            have hcpl : (putAll ((ch.take k).filter (swK s)) wj.c).length = s.clocks.length := by rw [putAll_len]; exact hwo.c

            refine XK.region ?_
            refine xk_at (k) (oI + k) (el := 3) (sz := 1) (by kernel_rfl) (by kernel_rfl) rfl rfl (by omega) (by omega) (by omega) (by decide) ?_
            refine xk_load (by kernel_rfl) rfl (Rd.ro (p := qc) (by simp) hzI (hcI k _ (natI_get hci))) (by decide) ?_
            refine xk_assign rfl (by decide) ?_
            refine XK.nilN ?_
            refine XK.seq ?_

            refine XK.region ?_
            refine xk_field (off := 0) (by kernel_rfl) rfl (by decide) ?_
            refine xk_ld rfl ?_
            refine xk_move rfl (by decide) ?_
            refine xk_at (ci) (oC + ci * 6) (el := 65) (sz := 6) (by kernel_rfl) (by kernel_rfl) rfl rfl (by omega) (by omega) (by omega) (by decide) ?_
            refine xk_field (off := 0) (by kernel_rfl) rfl (by decide) ?_
            refine xk_load (by kernel_rfl) rfl (Rd.ro (p := q) (by simp) hzC (hcC 0 _ rfl)) (by decide) ?_
            refine xk_assign rfl (by decide) ?_
            refine XK.nilN ?_
            refine XK.cutB 75 (ck.kind = 112 ∨ ck.kind = 103) ?_ ?_
            · skip

              refine XK.region ?_
              refine xk_move rfl (by decide) ?_
              refine xk_eql rfl rfl (by decide) ?_
              refine xk_move rfl (by decide) ?_
              refine xk_split (t := 72) rfl (fun hg => ?_) (fun hg => ?_)
              ·
                refine xk_guardF rfl rfl rfl (by decide) ?_
                refine xk_guardF rfl rfl rfl (by decide) ?_
                (first | refine xk_pickT rfl rfl (by decide) ?_ | refine xk_pickF rfl rfl (by decide) ?_)
                refine XK.nilN ?_
                exact XK.meetB (by repeat (first | exact trivial | refine ⟨rfl, ?_⟩)) (by first | (refine get_iff rfl ?_; omega) | (refine get_iff rfl ?_; simp_all; done) | (refine get_false rfl ?_; first | omega | (simp_all; done)) | (refine get_true rfl ?_; first | omega | (simp_all; done)) | (refine get_bool rfl ?_; simp_all; done) | (refine get_iff rfl ⟨fun hh => ?_, fun hh => ?_⟩ <;> first | omega | (simp_all; done) | (simp_all; omega)) | (exfalso; omega))
              ·
                refine xk_guardT rfl rfl ?_; refine xk_move rfl (by decide) ?_
                refine xk_guardT rfl rfl ?_; refine xk_eql rfl rfl (by decide) ?_
                (first | refine xk_pickT rfl rfl (by decide) ?_ | refine xk_pickF rfl rfl (by decide) ?_)
                refine XK.nilN ?_
                exact XK.meetB (by repeat (first | exact trivial | refine ⟨rfl, ?_⟩)) (by first | (refine get_iff rfl ?_; omega) | (refine get_iff rfl ?_; simp_all; done) | (refine get_false rfl ?_; first | omega | (simp_all; done)) | (refine get_true rfl ?_; first | omega | (simp_all; done)) | (refine get_bool rfl ?_; simp_all; done) | (refine get_iff rfl ⟨fun hh => ?_, fun hh => ?_⟩ <;> first | omega | (simp_all; done) | (simp_all; omega)) | (exfalso; omega))
            refine XK.if_ rfl (fun hkd => ?_) (fun hkd => ?_)
            ·

              refine XK.region ?_
              refine xk_field (off := 1) (by kernel_rfl) rfl (by decide) ?_
              refine xk_ld rfl ?_
              refine xk_move rfl (by decide) ?_
              refine xk_at (ci) (ci) (el := 4) (sz := 1) (by kernel_rfl) (by kernel_rfl) rfl rfl (by omega) (by omega) (by omega) (by decide) ?_
              refine xk_store 3 rfl (by kernel_rfl) rfl rfl rfl (by rw [boolCells_len]; omega) ?_
              dsimp only [List.set]
              rw [boolCells_set, show (putAll ((ch.take k).filter (swK s)) wj.c).set ci true = putAll ((ch.take (k + 1)).filter (swK s)) wj.c by rw [htk, hswv, decide_eq_true hkd]; simp [putAll, putB, List.foldl_append]]
              refine XK.nilN ?_

              refine XK.region ?_
              refine xk_add rfl rfl (wrap_in (by omega)) (by decide) ?_
              refine xk_move rfl (by decide) ?_
              refine XK.nilN ?_
              exact XK.envS [(60, .int .i64 ((k : Int) + 1)), (59, .int .i64 ch.length), (58, .slice (some ⟨bI, oI, none⟩) ch.length cc), (7, .pointer (some ⟨g7, 0, none⟩)), (32, .int .i64 j), (31, .int .i64 s.devs.length), (30, .slice (some ⟨bV, oV, none⟩) s.devs.length k4), (5, .pointer (some ⟨gw, 0, none⟩)), (4, .pointer (some ⟨g2, 0, none⟩)), (2, .pointer (some ⟨g1, 0, none⟩)), (1, .slice Aa act.length ca)] (XK.round (ch.length - (k + 1)) (by omega) ⟨k + 1, by omega, rfl, rfl, rfl, rfl⟩)
            ·
              refine XK.skip ?_
              refine XK.norm ?_

              refine XK.region ?_
              refine xk_add rfl rfl (wrap_in (by omega)) (by decide) ?_
              refine xk_move rfl (by decide) ?_
              refine XK.nilN ?_
              exact XK.envS [(60, .int .i64 ((k : Int) + 1)), (59, .int .i64 ch.length), (58, .slice (some ⟨bI, oI, none⟩) ch.length cc), (7, .pointer (some ⟨g7, 0, none⟩)), (32, .int .i64 j), (31, .int .i64 s.devs.length), (30, .slice (some ⟨bV, oV, none⟩) s.devs.length k4), (5, .pointer (some ⟨gw, 0, none⟩)), (4, .pointer (some ⟨g2, 0, none⟩)), (2, .pointer (some ⟨g1, 0, none⟩)), (1, .slice Aa act.length ca)] (XK.round (ch.length - (k + 1)) (by omega) ⟨k + 1, by omega, rfl, rfl, rfl, by rw [htk, hswv, decide_eq_false hkd]; simp⟩)
          ·
            refine XK.exit ?_
            refine XK.norm ?_
            have hke : k = ch.length := by have h' : ¬ (k : Int) < (ch.length : Int) := h; omega
            rw [hke, List.take_length]
            have hll := hwo.l

            refine XK.region ?_
            refine xk_field (off := 2) (by kernel_rfl) rfl (by decide) ?_
            refine xk_ld rfl ?_
            refine xk_field (off := 2) (by kernel_rfl) rfl (by decide) ?_
            refine xk_ld rfl ?_
            refine xk_at (xr) (xr) (el := 4) (sz := 1) (by kernel_rfl) (by kernel_rfl) rfl rfl (by omega) (by omega) (by omega) (by decide) ?_
            refine xk_store 4 rfl (by kernel_rfl) rfl rfl rfl (by rw [boolCells_len]; omega) ?_
            dsimp only [List.set]
            rw [boolCells_set, show wj.l.set xr true = putB wj.l (xr : Int) true by simp [putB]]
            refine XK.nilN ?_

            refine XK.region ?_
            refine xk_add rfl rfl (wrap_in (by omega)) (by decide) ?_
            refine xk_move rfl (by decide) ?_
            refine XK.nilN ?_
            exact XK.weak [1, 2, 3, 4, 5, 6] rfl (by decide) (R' := [q, all w]) (by simp) (XK.envS [(32, .int .i64 ((j : Int) + 1)), (31, .int .i64 s.devs.length), (30, .slice (some ⟨bV, oV, none⟩) s.devs.length k4), (5, .pointer (some ⟨gw, 0, none⟩)), (4, .pointer (some ⟨g2, 0, none⟩)), (2, .pointer (some ⟨g1, 0, none⟩)), (1, .slice Aa act.length ca)] (XK.round (s.devs.length - (j + 1)) (by omega) ⟨j + 1, by omega, rfl, rfl, rfl, by rw [hnx, hpd]⟩))
    ·
      refine XK.exit ?_
      refine XK.norm ?_
      refine XK.seq ?_

      refine XK.region ?_
      refine xk_ldN 3 rfl ?_
      (first | (refine xk_storeN 0 rfl rfl rfl (by kernel_rfl) (by simp [Value.cells, Value.oneCell']) (by simp [Value.cells]) ?_) | (refine xk_storeN 1 rfl rfl rfl (by kernel_rfl) (by simp [Value.cells, Value.oneCell']) (by simp [Value.cells]) ?_) | (refine xk_storeN 2 rfl rfl rfl (by kernel_rfl) (by simp [Value.cells, Value.oneCell']) (by simp [Value.cells]) ?_) | (refine xk_storeN 3 rfl rfl rfl (by kernel_rfl) (by simp [Value.cells, Value.oneCell']) (by simp [Value.cells]) ?_) | (refine xk_storeN 4 rfl rfl rfl (by kernel_rfl) (by simp [Value.cells, Value.oneCell']) (by simp [Value.cells]) ?_) | (refine xk_storeN 5 rfl rfl rfl (by kernel_rfl) (by simp [Value.cells, Value.oneCell']) (by simp [Value.cells]) ?_) | (refine xk_storeN 6 rfl rfl rfl (by kernel_rfl) (by simp [Value.cells, Value.oneCell']) (by simp [Value.cells]) ?_) | (refine xk_storeN 7 rfl rfl rfl (by kernel_rfl) (by simp [Value.cells, Value.oneCell']) (by simp [Value.cells]) ?_) | (refine xk_storeN 8 rfl rfl rfl (by kernel_rfl) (by simp [Value.cells, Value.oneCell']) (by simp [Value.cells]) ?_)); simp only [putN, Value.cells, List.set, List.take, List.drop, List.nil_append, List.append_nil, List.length_cons, List.length_nil, List.cons_append, Nat.reduceAdd]
      refine XK.nilN ?_
      refine XK.ret ?_
      refine XK.norm ?_
      have hje : j = s.devs.length := by have h' : ¬ (j : Int) < (s.devs.length : Int) := h; omega
      have hwo := wantN_of s act j
      have hww : wants s act = wantN s act j := by rw [hje]; rfl
      generalize wantN s act j = wj at *
      refine XK.still [] [1, 2, 3] [4] (by simp) rfl (by decide) (by decide) fun qf hqf _ hfr => ?_
      have b1 := SlS.of_blk (n := wj.d.length) (sz := 1) (c := 0) (hqf 1 _ (by simp) rfl).choose_spec.1 (hqf 1 _ (by simp) rfl).choose_spec.2 (by rw [boolCells_len]; omega)
      have b2 := SlS.of_blk (n := wj.c.length) (sz := 1) (c := 0) (hqf 2 _ (by simp) rfl).choose_spec.1 (hqf 2 _ (by simp) rfl).choose_spec.2 (by rw [boolCells_len]; omega)
      have b3 := SlS.of_blk (n := wj.l.length) (sz := 1) (c := 0) (hqf 3 _ (by simp) rfl).choose_spec.1 (hqf 3 _ (by simp) rfl).choose_spec.2 (by rw [boolCells_len]; omega)
      exact XK.retC rfl (by kernel_rfl) rfl rfl (RdN.whole 0 rfl) fun w1 st => ⟨⟨_, rfl, by
        have hl := st.fresh_le (by simp) (hfr (by simp) (by simp))
        unfold WishOk
        rw [hww]
        exact ⟨_, s.domains.length, _, s.clocks.length, _, s.resets.length, by rw [hwo.d, hwo.c, hwo.l], b1.le hl, b2.le hl, b3.le hl⟩⟩, st.below (by simp)⟩

end Go.Proofs.Ytbgibbbggajgaaa
/- package table: what is denied, what waits, what is decided. No walk in sight. -/
namespace Go.Proofs.Ytbgibbbggajgaaa
set_option linter.all false
open Go.RowKit
def idxF (l : List Int) (x : Int) : Int := if x ∈ l then (l.idxOf x : Int) else -1
theorem idxF_get {l : List Int} {x : Int} {i : Nat} (hno : ∀ j y, j < i → l[j]? = some y → y ≠ x) (h : l[i]? = some x) : idxF l x = i := by
  have hm : x ∈ l := List.mem_of_getElem? h
  rw [idxF, if_pos hm]
  have h2 : l.idxOf x = i := by
    induction l generalizing i with
    | nil => simp at h
    | cons a r ih =>
      cases i with
      | zero => simp at h; subst h; simp
      | succ i =>
        have ha : a ≠ x := hno 0 a (by omega) rfl
        simp at h
        have hmr : x ∈ r := List.mem_of_getElem? h
        have hi := ih (fun j y hj hy => hno (j + 1) y (by omega) (by simpa using hy)) h hmr
        have hb : (a == x) = false := by simpa using ha
        rw [List.idxOf_cons, hb]
        simp [hi]
  rw [h2]
theorem idxF_none {l : List Int} {x : Int} (hno : ∀ (j : Nat) (y : Int), l[j]? = some y → y ≠ x) : idxF l x = -1 := by
  rw [idxF, if_neg]
  intro hm
  obtain ⟨j, hj⟩ := List.getElem?_of_mem hm
  exact hno j x hj rfl
theorem idxF_mem (l : List Int) (x : Int) : decide (0 ≤ idxF l x) = decide (x ∈ l) := by
  unfold idxF
  by_cases h : x ∈ l <;> simp [h]
/-- a clock's chain has id -/
def chainB (s : Soc) (c id : Int) : Bool := decide (id ∈ natI (chainL s c.toNat))
/-- something on its way to this device keeps an act of this kind waiting -/
def hitB (s : Soc) (k id : Int) (d : Dev) : Bool :=
  if k = 100 ∨ k = 107 then decide (d.domain = id) else if k = 111 then chainB s d.clock id else if k = 97 then decide (d.reset = id) else false
def busyAt (s : Soc) (wt : List Int) (k id : Int) (i : Nat) : Bool := decide (0 < (wt[i]?).getD 0) && ((s.devs[i]?).any fun d => hitB s k id d)
def busyF (s : Soc) (wt : List Int) (k id : Int) : Bool := (List.range s.devs.length).any (busyAt s wt k id)
theorem busyF_true {s : Soc} {wt : List Int} {k id : Int} {i : Nat} (hi : i < s.devs.length) (h : busyAt s wt k id i = true) : busyF s wt k id = true := by
  rw [busyF, List.any_eq_true]; exact ⟨i, List.mem_range.2 hi, h⟩
theorem busyF_false {s : Soc} {wt : List Int} {k id : Int} (h : ∀ i, i < s.devs.length → busyAt s wt k id i = false) : busyF s wt k id = false := by
  rw [busyF, List.any_eq_false]; intro i hi; simp [h i (List.mem_range.1 hi)]
/-- what hangs on it is wished by any -/
def hangAt (s : Soc) (x y : Wsh) (k id : Int) (i : Nat) : Bool :=
  if k = 100 ∨ k = 107 then ((s.domains[i]?).any fun d => decide (d.above = id)) && wishedF x y k i
  else decide ((i : Int) ≠ id) && (wishedF x y k i && chainB s i id)
def hangN (s : Soc) (k : Int) : Nat := if k = 100 ∨ k = 107 then s.domains.length else if k = 111 then s.clocks.length else 0
def hangF (s : Soc) (x y : Wsh) (k id : Int) : Bool := (List.range (hangN s k)).any (hangAt s x y k id)
theorem hangF_true {s : Soc} {x y : Wsh} {k id : Int} {i : Nat} (hi : i < hangN s k) (h : hangAt s x y k id i = true) : hangF s x y k id = true := by
  rw [hangF, List.any_eq_true]; exact ⟨i, List.mem_range.2 hi, h⟩
theorem hangF_false {s : Soc} {x y : Wsh} {k id : Int} (h : ∀ i, i < hangN s k → hangAt s x y k id i = false) : hangF s x y k id = false := by
  rw [hangF, List.any_eq_false]; intro i hi; simp [h i (List.mem_range.1 hi)]
def deniedF (s : Soc) (x y : Wsh) (ag : Nat) (k id : Int) : Bool := wishF (if ag = 0 then y else x) k id || hangF s x y k id
/-- what a message has as status, and what is to be done -/
def decF (s : Soc) (x y : Wsh) (wt : List Int) (ag : Nat) (l : List Int) : Int × Int × Int :=
  if (readF s l).1 ≠ 0 ∨ (readF s l).2.1 = 0 ∨ wishF (if ag = 0 then x else y) (readF s l).2.1 (readF s l).2.2 = decide (onB (readF s l).2.1) then ((readF s l).1, 0, 0)
  else if onB (readF s l).2.1 then
    (if (readF s l).2.1 = 117 ∧ (s.domains[(readF s l).2.2.toNat]?).any (fun d => decide (d.above ≠ -1) && !wishedF x y 117 d.above) = true then (-3, 0, 0) else (0, (readF s l).2))
  else if deniedF s x y ag (readF s l).2.1 (readF s l).2.2 then (-3, 0, 0)
  else if busyF s wt (readF s l).2.1 (readF s l).2.2 then (-6, 0, 0)
  else (0, (readF s l).2)
/-- the protocol that acts of a kind belong to -/
def kPro (k : Int) : Int := if k = 117 ∨ k = 100 ∨ k = 107 then 17 else if k = 99 ∨ k = 111 then 20 else 22
def kindB (k : Int) : Prop := k = 117 ∨ k = 100 ∨ k = 107 ∨ k = 99 ∨ k = 111 ∨ k = 114 ∨ k = 97
theorem frm_act (p m : Int) (v : Int) (h0 : 0 ≤ v) (hv : v < (frmD p m).m) : kPro ((frmD p m).act v) = p ∧ kindB ((frmD p m).act v) := by
  have h1 : ∀ f : Frm, frmOf p m = some f → v < f.m → kPro (f.act v) = p ∧ kindB (f.act v) := by
    intro f hf hv
    unfold frmOf at hf
    have hv3 : f.m ≤ 3 := by
      have := (frm_ok p m).2.2.1
      unfold frmD frmOf at this
      rw [hf] at this
      exact this
    rcases (by omega : v = 0 ∨ v = 1 ∨ v = 2) with rfl | rfl | rfl <;>
    · repeat' split at hf
      all_goals first
        | (cases hf; done)
        | (cases hf; simp at hv; done)
        | (cases hf; simp_all [kPro, kindB, Frm.act])
  unfold frmD at hv ⊢
  cases h : frmOf p m with
  | none => rw [h] at hv; simp at hv; omega
  | some f => rw [h] at hv; exact h1 f h hv
theorem readF_ok {s : Soc} {l : List Int} (hu : U32s l) : ((readF s l).2.1 = 0 ∧ (readF s l).2.2 = 0) ∨ ((readF s l).1 = 0 ∧ kindB (readF s l).2.1 ∧ 0 ≤ (readF s l).2.2 ∧ (readF s l).2.2 < (numF s (kPro (readF s l).2.1) : Int) ∧
    ((readF s l).2.1 = 107 → retOf s (readF s l).2.2.toNat = true) ∧ (kPro (readF s l).2.1 = 20 → swit s (readF s l).2.2.toNat)) := by
  unfold readF
  split
  · exact .inl ⟨rfl, rfl⟩
  · rename_i w r
    split
    · exact .inl ⟨rfl, rfl⟩
    · split
      · exact .inl ⟨rfl, rfl⟩
      · split
        · exact .inl ⟨rfl, rfl⟩
        · split
          · exact .inl ⟨rfl, rfl⟩
          · have hd : ∀ i, 0 ≤ r.getD i 0 := fun i => by
              rw [List.getD_eq_getElem?_getD]
              cases hi : r[i]? with
              | none => exact Int.le_refl _
              | some x => exact (hu x (List.mem_cons_of_mem _ (List.mem_of_getElem? hi))).1
            have hid := hd 0
            have hv := hd ((frmD (hPro w) (hMsg w)).n.toNat - 1)
            generalize r.getD 0 0 = id at *
            generalize r.getD ((frmD (hPro w) (hMsg w)).n.toNat - 1) 0 = v at *
            unfold askF
            split
            · exact .inl ⟨rfl, rfl⟩
            · split
              · exact .inl ⟨rfl, rfl⟩
              · split
                · exact .inl ⟨rfl, rfl⟩
                · split
                  · exact .inl ⟨rfl, rfl⟩
                  · rename_i h1 h2 h3 h4
                    obtain ⟨a1, a2⟩ := frm_act (hPro w) (hMsg w) v hv (by omega)
                    refine .inr ⟨rfl, a2, hid, by dsimp only; rw [a1]; omega, fun h5 => ?_, fun h5 => ?_⟩
                    · dsimp only at h5 ⊢
                      cases hr : retOf s id.toNat with
                      | true => rfl
                      | false => exact absurd (.inl ⟨h5, hr⟩) h4
                    · dsimp only at h5 ⊢
                      rw [a1] at h5
                      exact Decidable.byContradiction fun hs => h4 (.inr ⟨h5, hs⟩)
theorem SlS.int {w : World} {A : Option Addr} {n : Nat} {l : List Int} (h : SlS (all w) 1 A n (intCells l)) (hn : 0 < n) : ∃ b off, A = some ⟨b, off, none⟩ ∧ ∀ (i : Nat) (x : Int), l[i]? = some x → ROc w b (off + i) (.int .i64 x) := by
  obtain ⟨b, off, hA, hb, hc⟩ := h.2 hn
  refine ⟨b, off, hA, fun i x hx => ⟨hb, hc i _ ?_⟩⟩
  simp only [intCells, List.getElem?_map, hx, Option.map_some]
theorem SocW.P {w : World} {s : Soc} {A1 A2 A3 A4 : Option Addr} {n1 n2 n3 n4 : Nat} (h : SocW w s A1 n1 A2 n2 A3 n3 A4 n4) : SocP (all w) s A1 n1 A2 n2 A3 n3 A4 n4 := ⟨h.clk, h.dom, h.rst, h.dev⟩
end Go.Proofs.Ytbgibbbggajgaaa
/- package table: what is denied, and what waits. -/
namespace Go.Proofs.Ytbgibbbggajgaaa
set_option linter.all false
open Go.RowKit

theorem index_any (A : Option Addr) (n c : Nat) (l : List Int) (x : Int) (w : World) (hs : SlS (all w) 1 A n (intCells l)) (hn : n = l.length) (hn2 : n ≤ 1000000) :
    Calls Try.prog 136 #[.slice A n c, .int .i64 x] w (Rt (.int .i64 (idxF l x)) w) := by
  refine XK.enter (vs := [.slice A n c, .int .i64 x]) Try.func136 rfl Try.ntmps136 (by simp) ?_
  refine XK.seq ?_

  refine XK.region ?_
  refine xk_assign rfl (by decide) ?_
  refine XK.nilN ?_
  refine XK.seq ?_
  refine XK.seq ?_

  refine XK.region ?_
  refine xk_move rfl (by decide) ?_
  refine xk_len (el := 3) (by kernel_rfl) rfl (by decide) ?_
  refine xk_move rfl (by decide) ?_
  refine XK.nilN ?_
  refine XK.envS [(8, .int .i64 0), (7, .int .i64 n), (1, .int .i64 x), (0, .slice A n c)] ?_
  refine XK.block ?_
  refine XK.loop (fun m e R H => ∃ (i : Nat), i ≤ n ∧ m = n - i ∧ (∀ (j : Nat) (y : Int), j < i → l[j]? = some y → y ≠ x) ∧ e = [(8, .int .i64 i), (7, .int .i64 n), (1, .int .i64 x), (0, .slice A n c)] ∧ R = [all w] ∧ H = []) n ⟨0, by omega, rfl, (fun j y hj => absurd hj (Nat.not_lt_zero j)), rfl, rfl, rfl⟩ fun m e R H hI => ?_
  obtain ⟨i, hi, rfl, hno, rfl, rfl, rfl⟩ := hI
  refine XK.seq ?_

  refine XK.region ?_
  refine xk_lss rfl rfl (by decide) ?_
  refine XK.nilN ?_
  refine XK.seq ?_
  refine XK.if_ rfl (fun h => ?_) (fun h => ?_)
  ·
    refine XK.skip ?_
    refine XK.norm ?_
    refine XK.seq ?_
    refine XK.block ?_
    refine XK.seq ?_
    have hil : i < n := by have h' : (i : Int) < (n : Int) := h; omega
    obtain ⟨y, hy⟩ : ∃ y, l[i]? = some y := ⟨l[i]'(by omega), List.getElem?_eq_getElem _⟩
    obtain ⟨b, off, rfl, hc⟩ := hs.int (by omega)
    have hcy := hc i y hy

    refine XK.region ?_
    refine xk_move rfl (by decide) ?_
    refine xk_assign rfl (by decide) ?_
    refine XK.nilN ?_
    refine XK.seq ?_

    refine XK.region ?_
    refine xk_move rfl (by decide) ?_
    refine xk_move rfl (by decide) ?_
    refine xk_move rfl (by decide) ?_
    refine xk_at (i) (off + i) (el := 3) (sz := 1) (by kernel_rfl) (by kernel_rfl) rfl rfl (by omega) (by omega) (by omega) (by decide) ?_
    refine xk_ld rfl ?_
    refine xk_eql rfl rfl (by decide) ?_
    refine XK.nilN ?_
    refine XK.if_ rfl (fun h2 => ?_) (fun h2 => ?_)
    ·
      refine XK.seq ?_

      refine XK.region ?_
      refine xk_move rfl (by decide) ?_
      refine xk_assign rfl (by decide) ?_
      refine XK.nilN ?_
      refine XK.ret ?_
      refine XK.norm ?_
      exact XK.ret1 rfl rfl fun w1 st => ⟨by rw [idxF_get (i := i) hno (h2 ▸ hy)], st.below (by simp)⟩
    ·
      refine XK.skip ?_
      refine XK.norm ?_

      refine XK.region ?_
      refine xk_add rfl rfl (wrap_in (by omega)) (by decide) ?_
      refine xk_move rfl (by decide) ?_
      refine XK.nilN ?_
      exact XK.envS [(8, .int .i64 ((i : Int) + 1)), (7, .int .i64 n), (1, .int .i64 x), (0, .slice (some ⟨b, off, none⟩) n c)] (XK.round (n - (i + 1)) (by omega) ⟨i + 1, by omega, rfl, (fun j y' hj hy' => by
        rcases Nat.lt_or_ge j i with h1 | h1
        · exact hno j y' h1 hy'
        · have hji : j = i := by omega
          subst hji
          rw [hy] at hy'
          cases hy'
          exact fun h => h2 h.symm), rfl, rfl, rfl⟩)
  ·
    refine XK.exit ?_
    refine XK.norm ?_
    refine XK.seq ?_

    refine XK.region ?_
    refine xk_assign rfl (by decide) ?_
    refine XK.nilN ?_
    refine XK.ret ?_
    refine XK.norm ?_
    have hin : i = n := by have h' : ¬ (i : Int) < (n : Int) := h; omega
    subst hin
    exact XK.ret1 rfl rfl fun w1 st => ⟨by rw [idxF_none (fun j y hy => hno j y (by have := (List.getElem?_eq_some_iff.1 hy).1; omega) hy)], st.below (by simp)⟩

theorem contains_any (A : Option Addr) (n c : Nat) (l : List Int) (x : Int) (w : World) (hs : SlS (all w) 1 A n (intCells l)) (hn : n = l.length) (hn2 : n ≤ 1000000) :
    Calls Try.prog 111 #[.slice A n c, .int .i64 x] w (Rt (.bool (decide (x ∈ l))) w) := by
  refine XK.enter (vs := [.slice A n c, .int .i64 x]) Try.func111 rfl Try.ntmps111 (by simp) ?_
  refine XK.seq ?_

  refine XK.region ?_
  refine xk_assign rfl (by decide) ?_
  refine XK.nilN ?_
  refine XK.seq ?_

  refine XK.region ?_
  refine xk_move rfl (by decide) ?_
  refine xk_move rfl (by decide) ?_
  refine xk_callR (f := 136) (fi := []) (ca := []) (by kernel_rfl) rfl rfl (by decide) (fun w1 st => index_any A n c l x w1 (hs.le (st.le (by simp))) hn hn2) ?_
  refine xk_geq rfl rfl (by decide) ?_
  refine xk_assign rfl (by decide) ?_
  refine XK.nilN ?_
  refine XK.ret ?_
  refine XK.norm ?_
  exact XK.ret1 rfl rfl fun w1 st => ⟨by rw [← idxF_mem], st.below (by simp)⟩

theorem busy_any (q : Piece) (s : Soc) (A1 A2 A3 A4 : Option Addr) (n1 k1 n2 k2 n3 k3 n4 k4 : Nat) (Aw : Option Addr) (nw cw : Nat) (wt : List Int) (k id : Int) (w : World) (hSP : SocP q s A1 n1 A2 n2 A3 n3 A4 n4) (hm : s.okT) (hq : q.Le (all w)) (hw : SlS (all w) 1 Aw nw (intCells wt)) (hnw : nw = wt.length) :
    Calls Try.prog 61 #[.agg #[.slice A1 n1 k1, .slice A2 n2 k2, .slice A3 n3 k3, .slice A4 n4 k4], .slice Aw nw cw, .agg #[.int .u8 k, .int .i64 id]] w (Rt (.bool (busyF s wt k id)) w) := by
  refine XK.enter (vs := [.agg #[.slice A1 n1 k1, .slice A2 n2 k2, .slice A3 n3 k3, .slice A4 n4 k4], .slice Aw nw cw, .agg #[.int .u8 k, .int .i64 id]]) Try.func61 rfl Try.ntmps61 (by simp) ?_
  refine XK.seq ?_
  refine XK.piece q (by simp) hq ?_
  obtain ⟨rfl, rfl, rfl, rfl⟩ := hSP.len

  refine XK.region ?_
  refine xk_box rfl (by decide) fun g1 => ?_
  refine xk_box rfl (by decide) fun g2 => ?_
  refine xk_assign rfl (by decide) ?_
  refine XK.nilN ?_
  refine XK.seq ?_
  refine XK.seq ?_

  refine XK.region ?_
  refine xk_field (off := 3) (by kernel_rfl) rfl (by decide) ?_
  refine xk_ld rfl ?_
  refine xk_len (el := 83) (by kernel_rfl) rfl (by decide) ?_
  refine xk_move rfl (by decide) ?_
  refine XK.nilN ?_
  refine XK.envS [(12, .int .i64 0), (11, .int .i64 s.devs.length), (10, .slice A4 s.devs.length k4), (5, .pointer (some ⟨g2, 0, none⟩)), (3, .pointer (some ⟨g1, 0, none⟩)), (1, .slice Aw nw cw)] ?_
  refine XK.block ?_
  refine XK.loop (fun m e R H => ∃ (i : Nat), i ≤ s.devs.length ∧ m = s.devs.length - i ∧ (∀ j, j < i → busyAt s wt k id j = false) ∧ e = [(12, .int .i64 i), (11, .int .i64 s.devs.length), (10, .slice A4 s.devs.length k4), (5, .pointer (some ⟨g2, 0, none⟩)), (3, .pointer (some ⟨g1, 0, none⟩)), (1, .slice Aw nw cw)] ∧ R = [q, all w] ∧ H = [HP.blk g2 92 [.int .u8 k, .int .i64 id], HP.blk g1 50 [.slice A1 s.clocks.length k1, .slice A2 s.domains.length k2, .slice A3 s.resets.length k3, .slice A4 s.devs.length k4]]) s.devs.length ⟨0, by omega, rfl, (fun j hj => absurd hj (Nat.not_lt_zero j)), rfl, rfl, rfl⟩ fun m e R H hI => ?_
  obtain ⟨i, hi, rfl, hno, rfl, rfl, rfl⟩ := hI
  refine XK.seq ?_

  refine XK.region ?_
  refine xk_lss rfl rfl (by decide) ?_
  refine XK.nilN ?_
  refine XK.seq ?_
  refine XK.if_ rfl (fun h => ?_) (fun h => ?_)
  ·
    refine XK.skip ?_
    refine XK.norm ?_
    refine XK.seq ?_
    refine XK.block ?_
    refine XK.seq ?_
    have hil : i < s.devs.length := by have h' : (i : Int) < (s.devs.length : Int) := h; omega
    obtain ⟨d, hd⟩ : ∃ d, s.devs[i]? = some d := ⟨_, List.getElem?_eq_getElem hil⟩
    obtain ⟨hx1, hx2, hx3, hx4, hx5, hx6, _⟩ := hm.devs i d hd
    have hnc := hm.nc
    have hnd := hm.nd
    have hnv := hm.nv
    obtain ⟨bV, oV, rV, rfl, hzV, _, hR, hcV⟩ := hSP.dev.rowP hd
    obtain ⟨Ar, nr, kr, An, nn, kn, rfl, _⟩ := hR
    obtain ⟨xc, hxc⟩ : ∃ xc : Nat, d.clock = (xc : Int) := ⟨d.clock.toNat, by omega⟩
    have hgo : busyAt s wt k id i = false → ∀ j, j < i + 1 → busyAt s wt k id j = false := fun h j hj => by
      rcases Nat.lt_or_ge j i with h1 | h1
      · exact hno j h1
      · have hji : j = i := by omega
        subst hji; exact h
    rw [hxc] at hcV
    have hbat : busyAt s wt k id i = (decide (0 < (wt[i]?).getD 0) && hitB s k id d) := by rw [busyAt, hd]; rfl

    refine XK.region ?_
    refine xk_move rfl (by decide) ?_
    refine xk_at (i) (oV + i * 6) (el := 83) (sz := 6) (by kernel_rfl) (by kernel_rfl) rfl rfl (by omega) (by omega) (by omega) (by decide) ?_
    refine xk_loadN 6 (by kernel_rfl) rfl (RdN.of (vs := [.int .i64 (xc : Int), .int .i64 d.domain, .int .i64 d.reset, .int .u32 d.clamp, .slice Ar nr kr, .slice An nn kn]) fun f v hf => Rd.ro (p := q) (by simp) hzV (hcV f v hf)) rfl (by decide) ?_
    refine xk_alloc (cs := [.int .i64 0, .int .i64 0, .int .i64 0, .int .u32 0, .slice none 0 0, .slice none 0 0]) (zeroB_of (by kernel_rfl)) (by decide) fun g3 => ?_
    refine xk_assign rfl (by decide) ?_
    (first | (refine xk_storeN 0 rfl rfl rfl (by kernel_rfl) (by simp [Value.cells, Value.oneCell']) (by simp [Value.cells]) ?_) | (refine xk_storeN 1 rfl rfl rfl (by kernel_rfl) (by simp [Value.cells, Value.oneCell']) (by simp [Value.cells]) ?_) | (refine xk_storeN 2 rfl rfl rfl (by kernel_rfl) (by simp [Value.cells, Value.oneCell']) (by simp [Value.cells]) ?_) | (refine xk_storeN 3 rfl rfl rfl (by kernel_rfl) (by simp [Value.cells, Value.oneCell']) (by simp [Value.cells]) ?_) | (refine xk_storeN 4 rfl rfl rfl (by kernel_rfl) (by simp [Value.cells, Value.oneCell']) (by simp [Value.cells]) ?_) | (refine xk_storeN 5 rfl rfl rfl (by kernel_rfl) (by simp [Value.cells, Value.oneCell']) (by simp [Value.cells]) ?_) | (refine xk_storeN 6 rfl rfl rfl (by kernel_rfl) (by simp [Value.cells, Value.oneCell']) (by simp [Value.cells]) ?_) | (refine xk_storeN 7 rfl rfl rfl (by kernel_rfl) (by simp [Value.cells, Value.oneCell']) (by simp [Value.cells]) ?_) | (refine xk_storeN 8 rfl rfl rfl (by kernel_rfl) (by simp [Value.cells, Value.oneCell']) (by simp [Value.cells]) ?_)); simp only [putN, Value.cells, List.set, List.take, List.drop, List.nil_append, List.append_nil, List.length_cons, List.length_nil, List.cons_append, Nat.reduceAdd]
    refine XK.nilN ?_
    refine XK.seq ?_
    refine XK.cutB 27 ((nw : Int) ≤ i ∨ (wt[i]?).getD 0 ≤ 0) ?_ ?_
    · skip

      refine XK.region ?_
      refine xk_move rfl (by decide) ?_
      refine xk_move rfl (by decide) ?_
      refine xk_len (el := 3) (by kernel_rfl) rfl (by decide) ?_
      refine xk_geq rfl rfl (by decide) ?_
      refine xk_move rfl (by decide) ?_
      (first | refine xk_split (t := 21) rfl (fun hg => ?_) (fun hg => ?_) | refine xk_splitB (t := 21) rfl (fun hg => ?_) (fun hg => ?_))
      ·
        refine xk_guardF rfl rfl rfl (by decide) ?_
        refine xk_guardF rfl rfl rfl (by decide) ?_
        refine xk_guardF rfl rfl rfl (by decide) ?_
        refine xk_guardF rfl rfl rfl (by decide) ?_
        refine xk_guardF rfl rfl rfl (by decide) ?_
        (first | refine xk_pickT rfl rfl (by decide) ?_ | refine xk_pickF rfl rfl (by decide) ?_)
        refine XK.nilN ?_
        exact XK.meetB (by repeat (first | exact trivial | refine ⟨rfl, ?_⟩)) (by first | (refine get_iff rfl ?_; omega) | (refine get_iff rfl ?_; simp_all; done) | (refine get_false rfl ?_; first | omega | (simp_all; done)) | (refine get_true rfl ?_; first | omega | (simp_all; done)) | (refine get_bool rfl ?_; simp_all; done) | (refine get_iff rfl ⟨fun hh => ?_, fun hh => ?_⟩ <;> first | omega | (simp_all; done) | (simp_all; omega)) | (exfalso; omega))
      ·
        have hiw : i < nw := by omega
        obtain ⟨y, hy⟩ : ∃ y, wt[i]? = some y := ⟨wt[i]'(by omega), List.getElem?_eq_getElem _⟩
        obtain ⟨bW, oW, rfl, hcW⟩ := hw.int (by omega)
        have hcy := hcW i y hy
        have hgy : (wt[i]?).getD 0 = y := by rw [hy]; rfl
        refine xk_guardT rfl rfl ?_; refine xk_move rfl (by decide) ?_
        refine xk_guardT rfl rfl ?_; refine xk_move rfl (by decide) ?_
        refine xk_guardT rfl rfl ?_; refine xk_at (i) (oW + i) (el := 3) (sz := 1) (by kernel_rfl) (by kernel_rfl) rfl rfl (by omega) (by omega) (by omega) (by decide) ?_
        refine xk_guardT rfl rfl ?_; refine xk_ld rfl ?_
        refine xk_guardT rfl rfl ?_; refine xk_leq rfl rfl (by decide) ?_
        (first | refine xk_pickT rfl rfl (by decide) ?_ | refine xk_pickF rfl rfl (by decide) ?_)
        refine XK.nilN ?_
        exact XK.meetB (by repeat (first | exact trivial | refine ⟨rfl, ?_⟩)) (by first | (refine get_iff rfl ?_; omega) | (refine get_iff rfl ?_; simp_all; done) | (refine get_false rfl ?_; first | omega | (simp_all; done)) | (refine get_true rfl ?_; first | omega | (simp_all; done)) | (refine get_bool rfl ?_; simp_all; done) | (refine get_iff rfl ⟨fun hh => ?_, fun hh => ?_⟩ <;> first | omega | (simp_all; done) | (simp_all; omega)) | (exfalso; omega))
    refine XK.if_ rfl (fun h4 => ?_) (fun h4 => ?_)
    ·
      refine XK.exit ?_
      refine XK.norm ?_

      refine XK.region ?_
      refine xk_add rfl rfl (wrap_in (by omega)) (by decide) ?_
      refine xk_move rfl (by decide) ?_
      refine XK.nilN ?_
      have hf2 : busyAt s wt k id i = false := by
        rw [hbat]
        have h5 : (wt[i]?).getD 0 ≤ 0 := by
          rcases h4 with h4 | h4
          · rw [List.getElem?_eq_none (by omega)]; exact Int.le_refl _
          · exact h4
        simp [show ¬ 0 < (wt[i]?).getD 0 by omega]
      exact XK.weak [1, 2] rfl (by decide) (by simp) (XK.envS [(12, .int .i64 ((i : Int) + 1)), (11, .int .i64 s.devs.length), (10, .slice (some ⟨bV, oV, none⟩) s.devs.length k4), (5, .pointer (some ⟨g2, 0, none⟩)), (3, .pointer (some ⟨g1, 0, none⟩)), (1, .slice Aw nw cw)] (XK.round (s.devs.length - (i + 1)) (by omega) ⟨i + 1, by omega, rfl, hgo hf2, rfl, rfl, rfl⟩))
    ·
      have h5 : 0 < (wt[i]?).getD 0 := by have h' := fun h => h4 (.inr h); omega
      rw [show decide (0 < (wt[i]?).getD 0) = true from decide_eq_true h5, Bool.true_and] at hbat
      refine XK.skip ?_
      refine XK.norm ?_
      refine XK.seq ?_

      refine XK.region ?_
      refine xk_field (off := 0) (by kernel_rfl) rfl (by decide) ?_
      refine xk_ld rfl ?_
      refine XK.nilN ?_
      refine XK.block ?_
      refine XK.cutB 30 (k = 100 ∨ k = 107) ?_ ?_
      · skip
        refine XK.seq ?_

        refine XK.region ?_
        refine xk_eql rfl rfl (by decide) ?_
        refine xk_assign rfl (by decide) ?_
        refine XK.nilN ?_
        refine XK.if_ rfl (fun h => ?_) (fun h => ?_)
        ·
          refine XK.skip ?_
          refine XK.norm ?_
          exact XK.meetB (by repeat (first | exact trivial | refine ⟨rfl, ?_⟩)) (by first | (refine get_iff rfl ?_; omega) | (refine get_iff rfl ?_; simp_all; done) | (refine get_false rfl ?_; first | omega | (simp_all; done)) | (refine get_true rfl ?_; first | omega | (simp_all; done)) | (refine get_bool rfl ?_; simp_all; done) | (refine get_iff rfl ⟨fun hh => ?_, fun hh => ?_⟩ <;> first | omega | (simp_all; done) | (simp_all; omega)) | (exfalso; omega))
        ·

          refine XK.region ?_
          refine xk_eql rfl rfl (by decide) ?_
          refine xk_assign rfl (by decide) ?_
          refine XK.nilN ?_
          exact XK.meetB (by repeat (first | exact trivial | refine ⟨rfl, ?_⟩)) (by first | (refine get_iff rfl ?_; omega) | (refine get_iff rfl ?_; simp_all; done) | (refine get_false rfl ?_; first | omega | (simp_all; done)) | (refine get_true rfl ?_; first | omega | (simp_all; done)) | (refine get_bool rfl ?_; simp_all; done) | (refine get_iff rfl ⟨fun hh => ?_, fun hh => ?_⟩ <;> first | omega | (simp_all; done) | (simp_all; omega)) | (exfalso; omega))
      refine XK.if_ rfl (fun h => ?_) (fun h => ?_)
      ·
        refine XK.seq ?_

        refine XK.region ?_
        refine xk_field (off := 1) (by kernel_rfl) rfl (by decide) ?_
        refine xk_ld rfl ?_
        refine xk_field (off := 1) (by kernel_rfl) rfl (by decide) ?_
        refine xk_ld rfl ?_
        refine xk_eql rfl rfl (by decide) ?_
        refine XK.nilN ?_
        refine XK.if_ rfl (fun h => ?_) (fun h => ?_)
        ·
          refine XK.seq ?_

          refine XK.region ?_
          refine xk_assign rfl (by decide) ?_
          refine XK.nilN ?_
          refine XK.ret ?_
          refine XK.norm ?_
          have ht : busyAt s wt k id i = true := by
            rw [hbat]; unfold hitB chainB; first | (simp_all; done) | (simp_all; omega)
          exact XK.ret1 rfl rfl fun w9 st => ⟨by rw [busyF_true hil ht], st.below (by simp)⟩
        ·
          refine XK.skip ?_
          refine XK.norm ?_

          refine XK.region ?_
          refine xk_add rfl rfl (wrap_in (by omega)) (by decide) ?_
          refine xk_move rfl (by decide) ?_
          refine XK.nilN ?_
          have hf2 : busyAt s wt k id i = false := by
            rw [hbat]; unfold hitB chainB; first | (simp_all; done) | (simp_all; omega)
          exact XK.weak [1, 2] rfl (by decide) (by simp) (XK.envS [(12, .int .i64 ((i : Int) + 1)), (11, .int .i64 s.devs.length), (10, .slice (some ⟨bV, oV, none⟩) s.devs.length k4), (5, .pointer (some ⟨g2, 0, none⟩)), (3, .pointer (some ⟨g1, 0, none⟩)), (1, .slice Aw nw cw)] (XK.round (s.devs.length - (i + 1)) (by omega) ⟨i + 1, by omega, rfl, hgo hf2, rfl, rfl, rfl⟩))
      ·
        refine XK.seq ?_

        refine XK.region ?_
        refine xk_eql rfl rfl (by decide) ?_
        refine xk_assign rfl (by decide) ?_
        refine XK.nilN ?_
        refine XK.if_ rfl (fun h => ?_) (fun h => ?_)
        ·
          refine XK.seq ?_

          refine XK.draw 6 (by kernel_rfl) (by kernel_rfl) ?_
          refine XA.dA 0 rfl rfl rfl (does_ldN 4 rfl) ?_
          refine XA.dA 1 rfl rfl rfl (does_field (off := 0) (by kernel_rfl) rfl) ?_
          refine XA.dA 2 rfl rfl rfl (does_ld rfl) ?_
          refine XA.dA 4 rfl rfl rfl (does_field (off := 1) (by kernel_rfl) rfl) ?_
          refine XA.dA 5 rfl rfl rfl (does_ld rfl) ?_
          refine XA.next 3 rfl (by kernel_rfl) ?_
          refine xk_call [q] (f := 52) (fi := []) (ca := []) (by kernel_rfl) rfl rfl (by decide) (by simp) (IntsOk (chainL s xc)) (fun w2 st => chain_any q s _ _ _ _ _ k1 _ k2 _ k3 _ k4 xc w2 hSP hm (st.le (by simp)) (by omega)) ?_
          rintro _ w2 q1 ⟨Ac, cc, rfl, hch⟩ hf hle _
          have hch := hch.le hf
          have hclen := chainN_len s s.clocks.length xc
          refine XA.bk ?_
          refine XA.next 6 rfl (by kernel_rfl) ?_
          refine xk_callR (f := 111) (fi := []) (ca := []) (by kernel_rfl) rfl rfl (by decide) (fun w3 st => contains_any Ac _ cc (natI (chainL s xc)) id w3 (hch.le (st.le (by simp))) (by simp [natI]) (by unfold chainL; omega)) ?_
          refine XA.bt ?_
          refine XA.done (by kernel_rfl) ?_
          refine XK.norm ?_
          refine XK.if_ rfl (fun h => ?_) (fun h => ?_)
          ·
            refine XK.seq ?_

            refine XK.region ?_
            refine xk_assign rfl (by decide) ?_
            refine XK.nilN ?_
            refine XK.ret ?_
            refine XK.norm ?_
            have ht : busyAt s wt k id i = true := by
              rw [hbat]; unfold hitB chainB; first | (simp_all; done) | (simp_all; omega)
            exact XK.ret1 rfl rfl fun w9 st => ⟨by rw [busyF_true hil ht], st.below (by simp)⟩
          ·
            refine XK.skip ?_
            refine XK.norm ?_

            refine XK.region ?_
            refine xk_add rfl rfl (wrap_in (by omega)) (by decide) ?_
            refine xk_move rfl (by decide) ?_
            refine XK.nilN ?_
            have hf2 : busyAt s wt k id i = false := by
              rw [hbat]; unfold hitB chainB; first | (simp_all; done) | (simp_all; omega)
            exact XK.weak [1, 2] rfl (by decide) (by simp) (XK.envS [(12, .int .i64 ((i : Int) + 1)), (11, .int .i64 s.devs.length), (10, .slice (some ⟨bV, oV, none⟩) s.devs.length k4), (5, .pointer (some ⟨g2, 0, none⟩)), (3, .pointer (some ⟨g1, 0, none⟩)), (1, .slice Aw nw cw)] (XK.round (s.devs.length - (i + 1)) (by omega) ⟨i + 1, by omega, rfl, hgo hf2, rfl, rfl, rfl⟩))
        ·
          refine XK.seq ?_

          refine XK.region ?_
          refine xk_eql rfl rfl (by decide) ?_
          refine xk_assign rfl (by decide) ?_
          refine XK.nilN ?_
          refine XK.if_ rfl (fun h => ?_) (fun h => ?_)
          ·
            refine XK.seq ?_

            refine XK.region ?_
            refine xk_field (off := 2) (by kernel_rfl) rfl (by decide) ?_
            refine xk_ld rfl ?_
            refine xk_field (off := 1) (by kernel_rfl) rfl (by decide) ?_
            refine xk_ld rfl ?_
            refine xk_eql rfl rfl (by decide) ?_
            refine XK.nilN ?_
            refine XK.if_ rfl (fun h => ?_) (fun h => ?_)
            ·
              refine XK.seq ?_

              refine XK.region ?_
              refine xk_assign rfl (by decide) ?_
              refine XK.nilN ?_
              refine XK.ret ?_
              refine XK.norm ?_
              have ht : busyAt s wt k id i = true := by
                rw [hbat]; unfold hitB chainB; first | (simp_all; done) | (simp_all; omega)
              exact XK.ret1 rfl rfl fun w9 st => ⟨by rw [busyF_true hil ht], st.below (by simp)⟩
            ·
              refine XK.skip ?_
              refine XK.norm ?_

              refine XK.region ?_
              refine xk_add rfl rfl (wrap_in (by omega)) (by decide) ?_
              refine xk_move rfl (by decide) ?_
              refine XK.nilN ?_
              have hf2 : busyAt s wt k id i = false := by
                rw [hbat]; unfold hitB chainB; first | (simp_all; done) | (simp_all; omega)
              exact XK.weak [1, 2] rfl (by decide) (by simp) (XK.envS [(12, .int .i64 ((i : Int) + 1)), (11, .int .i64 s.devs.length), (10, .slice (some ⟨bV, oV, none⟩) s.devs.length k4), (5, .pointer (some ⟨g2, 0, none⟩)), (3, .pointer (some ⟨g1, 0, none⟩)), (1, .slice Aw nw cw)] (XK.round (s.devs.length - (i + 1)) (by omega) ⟨i + 1, by omega, rfl, hgo hf2, rfl, rfl, rfl⟩))
          ·
            refine XK.skip ?_
            refine XK.norm ?_

            refine XK.region ?_
            refine xk_add rfl rfl (wrap_in (by omega)) (by decide) ?_
            refine xk_move rfl (by decide) ?_
            refine XK.nilN ?_
            have hf2 : busyAt s wt k id i = false := by
              rw [hbat]; unfold hitB chainB; first | (simp_all; done) | (simp_all; omega)
            exact XK.weak [1, 2] rfl (by decide) (by simp) (XK.envS [(12, .int .i64 ((i : Int) + 1)), (11, .int .i64 s.devs.length), (10, .slice (some ⟨bV, oV, none⟩) s.devs.length k4), (5, .pointer (some ⟨g2, 0, none⟩)), (3, .pointer (some ⟨g1, 0, none⟩)), (1, .slice Aw nw cw)] (XK.round (s.devs.length - (i + 1)) (by omega) ⟨i + 1, by omega, rfl, hgo hf2, rfl, rfl, rfl⟩))
  ·
    refine XK.exit ?_
    refine XK.norm ?_
    refine XK.seq ?_

    refine XK.region ?_
    refine xk_assign rfl (by decide) ?_
    refine XK.nilN ?_
    refine XK.ret ?_
    refine XK.norm ?_
    have hin : i = s.devs.length := by have h' : ¬ (i : Int) < (s.devs.length : Int) := h; omega
    subst hin
    exact XK.ret1 rfl rfl fun w9 st => ⟨by rw [busyF_false hno], st.below (by simp)⟩

/-- the state, as it lies in the call's own block -/
theorem StR.box {q : Piece} {x y : Wsh} {A1 A2 A3 B1 B2 B3 : Option Addr} {n1 k1 n2 k2 n3 k3 m1 l1 m2 l2 m3 l3 : Nat} {w : World} {g : Nat}
    (hx : StR q x y (.agg #[.slice A1 n1 k1, .slice A2 n2 k2, .slice A3 n3 k3, .slice B1 m1 l1, .slice B2 m2 l2, .slice B3 m3 l3])) (hq : q.Le (all w)) (hg : ROn w g 0 [.slice A1 n1 k1, .slice A2 n2 k2, .slice A3 n3 k3, .slice B1 m1 l1, .slice B2 m2 l2, .slice B3 m3 l3]) : StM w g x y := by
  obtain ⟨C1, j1, C2, j2, C3, j3, D1, i1, D2, i2, D3, i3, he, s1, s2, s3, s4, s5, s6⟩ := hx
  simp only [Value.agg.injEq, Array.mk.injEq, List.cons.injEq, Value.slice.injEq] at he
  obtain ⟨⟨rfl, rfl, rfl⟩, ⟨rfl, rfl, rfl⟩, ⟨rfl, rfl, rfl⟩, ⟨rfl, rfl, rfl⟩, ⟨rfl, rfl, rfl⟩, ⟨rfl, rfl, rfl⟩, _⟩ := he
  intro i hi
  rcases (by omega : i = 0 ∨ i = 1) with rfl | rfl
  · exact ⟨A1, k1, A2, k2, A3, k3, by simpa using hg.at_ (j := 0) rfl, by simpa using hg.at_ (j := 1) rfl, by simpa using hg.at_ (j := 2) rfl, s1.le hq, s2.le hq, s3.le hq⟩
  · exact ⟨B1, l1, B2, l2, B3, l3, by simpa using hg.at_ (j := 3) rfl, by simpa using hg.at_ (j := 4) rfl, by simpa using hg.at_ (j := 5) rfl, s4.le hq, s5.le hq, s6.le hq⟩

theorem denied_any (q qx : Piece) (s : Soc) (A1 A2 A3 A4 : Option Addr) (n1 k1 n2 k2 n3 k3 n4 k4 : Nat) (X1 X2 X3 Y1 Y2 Y3 : Option Addr) (xn1 xk1 xn2 xk2 xn3 xk3 yn1 yk1 yn2 yk2 yn3 yk3 : Nat) (x y : Wsh) (ag : Nat) (k id : Int) (w : World) (hSP : SocP q s A1 n1 A2 n2 A3 n3 A4 n4) (hm : s.okT) (hq : q.Le (all w)) (hSt : StR qx x y (.agg #[.slice X1 xn1 xk1, .slice X2 xn2 xk2, .slice X3 xn3 xk3, .slice Y1 yn1 yk1, .slice Y2 yn2 yk2, .slice Y3 yn3 yk3])) (hqx : qx.Le (all w)) (hag : ag < 2) :
    Calls Try.prog 60 #[.agg #[.slice A1 n1 k1, .slice A2 n2 k2, .slice A3 n3 k3, .slice A4 n4 k4], .agg #[.slice X1 xn1 xk1, .slice X2 xn2 xk2, .slice X3 xn3 xk3, .slice Y1 yn1 yk1, .slice Y2 yn2 yk2, .slice Y3 yn3 yk3], .int .i64 (ag : Int), .agg #[.int .u8 k, .int .i64 id]] w (Rt (.bool (deniedF s x y ag k id)) w) := by
  refine XK.enter (vs := [.agg #[.slice A1 n1 k1, .slice A2 n2 k2, .slice A3 n3 k3, .slice A4 n4 k4], .agg #[.slice X1 xn1 xk1, .slice X2 xn2 xk2, .slice X3 xn3 xk3, .slice Y1 yn1 yk1, .slice Y2 yn2 yk2, .slice Y3 yn3 yk3], .int .i64 (ag : Int), .agg #[.int .u8 k, .int .i64 id]]) Try.func60 rfl Try.ntmps60 (by simp) ?_
  refine XK.seq ?_
  refine XK.piece qx (by simp) hqx ?_
  refine XK.piece q (by simp) hq ?_
  obtain ⟨rfl, rfl, rfl, rfl⟩ := hSP.len
  have hnc := hm.nc
  have hnd := hm.nd

  refine XK.region ?_
  refine xk_box rfl (by decide) fun g1 => ?_
  refine xk_box rfl (by decide) fun g2 => ?_
  refine xk_box rfl (by decide) fun g3 => ?_
  refine xk_assign rfl (by decide) ?_
  refine XK.nilN ?_
  refine XK.seq ?_
  refine XK.seq ?_

  refine XK.region ?_
  refine xk_move rfl (by decide) ?_
  refine XK.nilN ?_
  refine XK.envS [(13, .int .i64 0), (7, .pointer (some ⟨g3, 0, none⟩)), (5, .pointer (some ⟨g2, 0, none⟩)), (4, .pointer (some ⟨g1, 0, none⟩)), (2, .int .i64 (ag : Int))] ?_
  refine XK.block ?_
  refine XK.loop (fun m e R H => ∃ (i : Nat), i ≤ 2 ∧ m = 2 - i ∧ (∀ j : Nat, j < i → ¬ (j : Int) = ag → wishF (if j = 0 then x else y) k id = false) ∧ e = [(13, .int .i64 i), (7, .pointer (some ⟨g3, 0, none⟩)), (5, .pointer (some ⟨g2, 0, none⟩)), (4, .pointer (some ⟨g1, 0, none⟩)), (2, .int .i64 (ag : Int))] ∧ R = [q, qx, all w] ∧ H = [HP.blk g3 92 [.int .u8 k, .int .i64 id], HP.blk g2 79 [.slice X1 xn1 xk1, .slice X2 xn2 xk2, .slice X3 xn3 xk3, .slice Y1 yn1 yk1, .slice Y2 yn2 yk2, .slice Y3 yn3 yk3], HP.blk g1 50 [.slice A1 s.clocks.length k1, .slice A2 s.domains.length k2, .slice A3 s.resets.length k3, .slice A4 s.devs.length k4]]) 2 ⟨0, by omega, rfl, (fun j hj => absurd hj (Nat.not_lt_zero j)), rfl, rfl, rfl⟩ fun m e R H hI => ?_
  obtain ⟨i, hi, rfl, hno, rfl, rfl, rfl⟩ := hI
  refine XK.seq ?_

  refine XK.region ?_
  refine xk_lss rfl rfl (by decide) ?_
  refine XK.nilN ?_
  refine XK.seq ?_
  refine XK.if_ rfl (fun h => ?_) (fun h => ?_)
  ·
    refine XK.skip ?_
    refine XK.norm ?_
    refine XK.seq ?_
    refine XK.block ?_
    refine XK.seq ?_
    have hi2 : i < 2 := by have h' : (i : Int) < 2 := h; omega

    refine XK.region ?_
    refine xk_move rfl (by decide) ?_
    refine xk_assign rfl (by decide) ?_
    refine XK.nilN ?_
    refine XK.cutB 26 (¬ (i : Int) = ag ∧ wishF (if i = 0 then x else y) k id = true) ?_ ?_
    · skip

      refine XK.region ?_
      refine xk_move rfl (by decide) ?_
      refine xk_move rfl (by decide) ?_
      refine xk_neq rfl rfl (by decide) ?_
      refine xk_move rfl (by decide) ?_
      (first | refine xk_split (t := 19) rfl (fun hg => ?_) (fun hg => ?_) | refine xk_splitB (t := 19) rfl (fun hg => ?_) (fun hg => ?_))
      ·
        refine xk_guardT rfl rfl ?_; refine xk_move rfl (by decide) ?_
        refine xk_guardT rfl rfl ?_; refine xk_field (off := 0) (by kernel_rfl) rfl (by decide) ?_
        refine xk_guardT rfl rfl ?_; refine xk_ld rfl ?_
        refine xk_guardT rfl rfl ?_; refine xk_field (off := 1) (by kernel_rfl) rfl (by decide) ?_
        refine xk_guardT rfl rfl ?_; refine xk_ld rfl ?_
        refine xk_guardT rfl rfl ?_; refine xk_callR (f := 57) (fi := []) (ca := []) (by kernel_rfl) rfl rfl (by decide) (fun w1 st => wishes_any g2 i (if i = 0 then x else y) k id w1 hi2 (StR.box hSt (st.le (by simp)) (st.box (i := 1) rfl) i hi2)) ?_
        (first | refine xk_pickT rfl rfl (by decide) ?_ | refine xk_pickF rfl rfl (by decide) ?_)
        refine XK.nilN ?_
        exact XK.meetB (by repeat (first | exact trivial | refine ⟨rfl, ?_⟩)) (by first | (refine get_iff rfl ?_; omega) | (refine get_iff rfl ?_; simp_all; done) | (refine get_false rfl ?_; first | omega | (simp_all; done)) | (refine get_true rfl ?_; first | omega | (simp_all; done)) | (refine get_bool rfl ?_; simp_all; done) | (refine get_iff rfl ⟨fun hh => ?_, fun hh => ?_⟩ <;> first | omega | (simp_all; done) | (simp_all; omega)) | (exfalso; omega))
      ·
        refine xk_guardF rfl rfl rfl (by decide) ?_
        refine xk_guardF rfl rfl rfl (by decide) ?_
        refine xk_guardF rfl rfl rfl (by decide) ?_
        refine xk_guardF rfl rfl rfl (by decide) ?_
        refine xk_guardF rfl rfl rfl (by decide) ?_
        refine xk_guardF rfl rfl rfl (by decide) ?_
        (first | refine xk_pickT rfl rfl (by decide) ?_ | refine xk_pickF rfl rfl (by decide) ?_)
        refine XK.nilN ?_
        exact XK.meetB (by repeat (first | exact trivial | refine ⟨rfl, ?_⟩)) (by first | (refine get_iff rfl ?_; omega) | (refine get_iff rfl ?_; simp_all; done) | (refine get_false rfl ?_; first | omega | (simp_all; done)) | (refine get_true rfl ?_; first | omega | (simp_all; done)) | (refine get_bool rfl ?_; simp_all; done) | (refine get_iff rfl ⟨fun hh => ?_, fun hh => ?_⟩ <;> first | omega | (simp_all; done) | (simp_all; omega)) | (exfalso; omega))
    refine XK.if_ rfl (fun h4 => ?_) (fun h4 => ?_)
    ·
      refine XK.seq ?_

      refine XK.region ?_
      refine xk_assign rfl (by decide) ?_
      refine XK.nilN ?_
      refine XK.ret ?_
      refine XK.norm ?_
      have hoth : wishF (if ag = 0 then y else x) k id = true := by
        have h5 := h4.2
        rcases (by omega : ag = 0 ∨ ag = 1) with rfl | rfl <;> rcases (by omega : i = 0 ∨ i = 1) with rfl | rfl <;> simp_all
      exact XK.ret1 rfl rfl fun w9 st => ⟨by rw [deniedF, hoth]; rfl, st.below (by simp)⟩
    ·
      refine XK.skip ?_
      refine XK.norm ?_

      refine XK.region ?_
      refine xk_add rfl rfl (wrap_in (by omega)) (by decide) ?_
      refine xk_move rfl (by decide) ?_
      refine XK.nilN ?_
      have hgo : ∀ j : Nat, j < i + 1 → ¬ (j : Int) = ag → wishF (if j = 0 then x else y) k id = false := fun j hj hja => by
        rcases Nat.lt_or_ge j i with h1 | h1
        · exact hno j h1 hja
        · have hji : j = i := by omega
          subst hji
          cases hb : wishF (if j = 0 then x else y) k id with
          | false => rfl
          | true => exact absurd ⟨hja, hb⟩ h4
      exact XK.envS [(13, .int .i64 ((i : Int) + 1)), (7, .pointer (some ⟨g3, 0, none⟩)), (5, .pointer (some ⟨g2, 0, none⟩)), (4, .pointer (some ⟨g1, 0, none⟩)), (2, .int .i64 (ag : Int))] (XK.round (2 - (i + 1)) (by omega) ⟨i + 1, by omega, rfl, hgo, rfl, rfl, rfl⟩)
  ·
    refine XK.exit ?_
    refine XK.norm ?_
    refine XK.seq ?_
    refine XK.seq ?_
    have hoth : wishF (if ag = 0 then y else x) k id = false := by
      have hi2 : i = 2 := by have h' : ¬ (i : Int) < 2 := h; omega
      subst hi2
      rcases (by omega : ag = 0 ∨ ag = 1) with rfl | rfl
      · exact hno 1 (by omega) (by decide)
      · exact hno 0 (by omega) (by decide)
    have hden : deniedF s x y ag k id = hangF s x y k id := by rw [deniedF, hoth, Bool.false_or]
    clear hno hoth

    refine XK.region ?_
    refine xk_field (off := 0) (by kernel_rfl) rfl (by decide) ?_
    refine xk_ld rfl ?_
    refine XK.nilN ?_
    refine XK.block ?_
    refine XK.cutB 30 (k = 100 ∨ k = 107) ?_ ?_
    · skip
      refine XK.seq ?_

      refine XK.region ?_
      refine xk_eql rfl rfl (by decide) ?_
      refine xk_assign rfl (by decide) ?_
      refine XK.nilN ?_
      refine XK.if_ rfl (fun h => ?_) (fun h => ?_)
      ·
        refine XK.skip ?_
        refine XK.norm ?_
        exact XK.meetB (by repeat (first | exact trivial | refine ⟨rfl, ?_⟩)) (by first | (refine get_iff rfl ?_; omega) | (refine get_iff rfl ?_; simp_all; done) | (refine get_false rfl ?_; first | omega | (simp_all; done)) | (refine get_true rfl ?_; first | omega | (simp_all; done)) | (refine get_bool rfl ?_; simp_all; done) | (refine get_iff rfl ⟨fun hh => ?_, fun hh => ?_⟩ <;> first | omega | (simp_all; done) | (simp_all; omega)) | (exfalso; omega))
      ·

        refine XK.region ?_
        refine xk_eql rfl rfl (by decide) ?_
        refine xk_assign rfl (by decide) ?_
        refine XK.nilN ?_
        exact XK.meetB (by repeat (first | exact trivial | refine ⟨rfl, ?_⟩)) (by first | (refine get_iff rfl ?_; omega) | (refine get_iff rfl ?_; simp_all; done) | (refine get_false rfl ?_; first | omega | (simp_all; done)) | (refine get_true rfl ?_; first | omega | (simp_all; done)) | (refine get_bool rfl ?_; simp_all; done) | (refine get_iff rfl ⟨fun hh => ?_, fun hh => ?_⟩ <;> first | omega | (simp_all; done) | (simp_all; omega)) | (exfalso; omega))
    refine XK.if_ rfl (fun h => ?_) (fun h => ?_)
    ·
      refine XK.seq ?_
      have hk8 : k = 100 ∨ k = 107 := by first | assumption | simp_all
      have hhn : hangN s k = s.domains.length := by rw [hangN, if_pos hk8]

      refine XK.region ?_
      refine xk_field (off := 1) (by kernel_rfl) rfl (by decide) ?_
      refine xk_ld rfl ?_
      refine xk_len (el := 61) (by kernel_rfl) rfl (by decide) ?_
      refine xk_move rfl (by decide) ?_
      refine XK.nilN ?_
      refine XK.envS [(36, .int .i64 0), (35, .int .i64 s.domains.length), (34, .slice A2 s.domains.length k2), (7, .pointer (some ⟨g3, 0, none⟩)), (5, .pointer (some ⟨g2, 0, none⟩)), (4, .pointer (some ⟨g1, 0, none⟩)), (2, .int .i64 (ag : Int))] ?_
      refine XK.block ?_
      refine XK.loop (fun m e R H => ∃ (i : Nat), i ≤ s.domains.length ∧ m = s.domains.length - i ∧ (∀ j, j < i → hangAt s x y k id j = false) ∧ e = [(36, .int .i64 i), (35, .int .i64 s.domains.length), (34, .slice A2 s.domains.length k2), (7, .pointer (some ⟨g3, 0, none⟩)), (5, .pointer (some ⟨g2, 0, none⟩)), (4, .pointer (some ⟨g1, 0, none⟩)), (2, .int .i64 (ag : Int))] ∧ R = [q, qx, all w] ∧ H = [HP.blk g3 92 [.int .u8 k, .int .i64 id], HP.blk g2 79 [.slice X1 xn1 xk1, .slice X2 xn2 xk2, .slice X3 xn3 xk3, .slice Y1 yn1 yk1, .slice Y2 yn2 yk2, .slice Y3 yn3 yk3], HP.blk g1 50 [.slice A1 s.clocks.length k1, .slice A2 s.domains.length k2, .slice A3 s.resets.length k3, .slice A4 s.devs.length k4]]) s.domains.length ⟨0, by omega, rfl, (fun j hj => absurd hj (Nat.not_lt_zero j)), rfl, rfl, rfl⟩ fun m e R H hI => ?_
      obtain ⟨i, hi, rfl, hno, rfl, rfl, rfl⟩ := hI
      refine XK.seq ?_

      refine XK.region ?_
      refine xk_lss rfl rfl (by decide) ?_
      refine XK.nilN ?_
      refine XK.seq ?_
      refine XK.if_ rfl (fun h => ?_) (fun h => ?_)
      ·
        refine XK.skip ?_
        refine XK.norm ?_
        refine XK.seq ?_
        refine XK.block ?_
        refine XK.seq ?_
        have hil : i < s.domains.length := by have h' : (i : Int) < (s.domains.length : Int) := h; omega
        obtain ⟨d, hd⟩ : ∃ d, s.domains[i]? = some d := ⟨_, List.getElem?_eq_getElem hil⟩
        obtain ⟨bD, oD, rD, rfl, hzD, _, rfl, hcD⟩ := hSP.dom.rowP hd
        have hgo : hangAt s x y k id i = false → ∀ j, j < i + 1 → hangAt s x y k id j = false := fun h j hj => by
          rcases Nat.lt_or_ge j i with h1 | h1
          · exact hno j h1
          · have hji : j = i := by omega
            subst hji; exact h
        have hat : hangAt s x y k id i = (decide (d.above = id) && wishedF x y k i) := by rw [hangAt, if_pos hk8, hd]; rfl

        refine XK.region ?_
        refine xk_move rfl (by decide) ?_
        refine xk_at (i) (oD + i * 3) (el := 61) (sz := 3) (by kernel_rfl) (by kernel_rfl) rfl rfl (by omega) (by omega) (by omega) (by decide) ?_
        refine xk_loadN 3 (by kernel_rfl) rfl (RdN.of (vs := [.int .i64 d.above, .int .i64 d.delay, .bool d.ret]) fun f v hf => Rd.ro (p := q) (by simp) hzD (hcD f v hf)) rfl (by decide) ?_
        refine xk_alloc (cs := [.int .i64 0, .int .i64 0, .bool false]) (zeroB_of (by kernel_rfl)) (by decide) fun g4 => ?_
        refine xk_assign rfl (by decide) ?_
        (first | (refine xk_storeN 0 rfl rfl rfl (by kernel_rfl) (by simp [Value.cells, Value.oneCell']) (by simp [Value.cells]) ?_) | (refine xk_storeN 1 rfl rfl rfl (by kernel_rfl) (by simp [Value.cells, Value.oneCell']) (by simp [Value.cells]) ?_) | (refine xk_storeN 2 rfl rfl rfl (by kernel_rfl) (by simp [Value.cells, Value.oneCell']) (by simp [Value.cells]) ?_) | (refine xk_storeN 3 rfl rfl rfl (by kernel_rfl) (by simp [Value.cells, Value.oneCell']) (by simp [Value.cells]) ?_) | (refine xk_storeN 4 rfl rfl rfl (by kernel_rfl) (by simp [Value.cells, Value.oneCell']) (by simp [Value.cells]) ?_) | (refine xk_storeN 5 rfl rfl rfl (by kernel_rfl) (by simp [Value.cells, Value.oneCell']) (by simp [Value.cells]) ?_) | (refine xk_storeN 6 rfl rfl rfl (by kernel_rfl) (by simp [Value.cells, Value.oneCell']) (by simp [Value.cells]) ?_) | (refine xk_storeN 7 rfl rfl rfl (by kernel_rfl) (by simp [Value.cells, Value.oneCell']) (by simp [Value.cells]) ?_) | (refine xk_storeN 8 rfl rfl rfl (by kernel_rfl) (by simp [Value.cells, Value.oneCell']) (by simp [Value.cells]) ?_)); simp only [putN, Value.cells, List.set, List.take, List.drop, List.nil_append, List.append_nil, List.length_cons, List.length_nil, List.cons_append, Nat.reduceAdd]
        refine XK.nilN ?_
        refine XK.cutB 51 (d.above = id ∧ wishedF x y k i = true) ?_ ?_
        · skip

          refine XK.region ?_
          refine xk_field (off := 0) (by kernel_rfl) rfl (by decide) ?_
          refine xk_ld rfl ?_
          refine xk_field (off := 1) (by kernel_rfl) rfl (by decide) ?_
          refine xk_ld rfl ?_
          refine xk_eql rfl rfl (by decide) ?_
          refine xk_move rfl (by decide) ?_
          (first | refine xk_split (t := 46) rfl (fun hg => ?_) (fun hg => ?_) | refine xk_splitB (t := 46) rfl (fun hg => ?_) (fun hg => ?_))
          ·
            refine xk_guardT rfl rfl ?_; refine xk_field (off := 0) (by kernel_rfl) rfl (by decide) ?_
            refine xk_guardT rfl rfl ?_; refine xk_ld rfl ?_
            refine xk_guardT rfl rfl ?_; refine xk_move rfl (by decide) ?_
            refine xk_guardT rfl rfl ?_; refine xk_callR (f := 59) (fi := []) (ca := []) (by kernel_rfl) rfl rfl (by decide) (fun w1 st => wished_any g2 x y k i w1 (StR.box hSt (st.le (by simp)) (st.box (i := 2) rfl))) ?_
            (first | refine xk_pickT rfl rfl (by decide) ?_ | refine xk_pickF rfl rfl (by decide) ?_)
            refine XK.nilN ?_
            exact XK.meetB (by repeat (first | exact trivial | refine ⟨rfl, ?_⟩)) (by first | (refine get_iff rfl ?_; omega) | (refine get_iff rfl ?_; simp_all; done) | (refine get_false rfl ?_; first | omega | (simp_all; done)) | (refine get_true rfl ?_; first | omega | (simp_all; done)) | (refine get_bool rfl ?_; simp_all; done) | (refine get_iff rfl ⟨fun hh => ?_, fun hh => ?_⟩ <;> first | omega | (simp_all; done) | (simp_all; omega)) | (exfalso; omega))
          ·
            refine xk_guardF rfl rfl rfl (by decide) ?_
            refine xk_guardF rfl rfl rfl (by decide) ?_
            refine xk_guardF rfl rfl rfl (by decide) ?_
            refine xk_guardF rfl rfl rfl (by decide) ?_
            (first | refine xk_pickT rfl rfl (by decide) ?_ | refine xk_pickF rfl rfl (by decide) ?_)
            refine XK.nilN ?_
            exact XK.meetB (by repeat (first | exact trivial | refine ⟨rfl, ?_⟩)) (by first | (refine get_iff rfl ?_; omega) | (refine get_iff rfl ?_; simp_all; done) | (refine get_false rfl ?_; first | omega | (simp_all; done)) | (refine get_true rfl ?_; first | omega | (simp_all; done)) | (refine get_bool rfl ?_; simp_all; done) | (refine get_iff rfl ⟨fun hh => ?_, fun hh => ?_⟩ <;> first | omega | (simp_all; done) | (simp_all; omega)) | (exfalso; omega))
        refine XK.if_ rfl (fun h4 => ?_) (fun h4 => ?_)
        ·
          refine XK.seq ?_

          refine XK.region ?_
          refine xk_assign rfl (by decide) ?_
          refine XK.nilN ?_
          refine XK.ret ?_
          refine XK.norm ?_
          have ht : hangAt s x y k id i = true := by rw [hat]; simp [h4.1, h4.2]
          exact XK.ret1 rfl rfl fun w9 st => ⟨by rw [hden, hangF_true (by rw [hhn]; exact hil) ht], st.below (by simp)⟩
        ·
          refine XK.skip ?_
          refine XK.norm ?_

          refine XK.region ?_
          refine xk_add rfl rfl (wrap_in (by omega)) (by decide) ?_
          refine xk_move rfl (by decide) ?_
          refine XK.nilN ?_
          have hf2 : hangAt s x y k id i = false := by
            rw [hat]
            by_cases h5 : d.above = id
            · have h6 : wishedF x y k i = false := by cases hb : wishedF x y k i with
                | false => rfl
                | true => exact absurd ⟨h5, hb⟩ h4
              rw [h6, Bool.and_false]
            · simp [h5]
          exact XK.weak [1, 2, 3] rfl (by decide) (by simp) (XK.envS [(36, .int .i64 ((i : Int) + 1)), (35, .int .i64 s.domains.length), (34, .slice (some ⟨bD, oD, none⟩) s.domains.length k2), (7, .pointer (some ⟨g3, 0, none⟩)), (5, .pointer (some ⟨g2, 0, none⟩)), (4, .pointer (some ⟨g1, 0, none⟩)), (2, .int .i64 (ag : Int))] (XK.round (s.domains.length - (i + 1)) (by omega) ⟨i + 1, by omega, rfl, hgo hf2, rfl, rfl, rfl⟩))
      ·
        refine XK.exit ?_
        refine XK.norm ?_
        refine XK.seq ?_

        refine XK.region ?_
        refine xk_assign rfl (by decide) ?_
        refine XK.nilN ?_
        refine XK.ret ?_
        refine XK.norm ?_
        have hin : i = s.domains.length := by have h' : ¬ (i : Int) < (s.domains.length : Int) := h; omega
        subst hin
        exact XK.ret1 rfl rfl fun w9 st => ⟨by rw [hden, hangF_false (by rw [hhn]; exact hno)], st.below (by simp)⟩
    ·
      refine XK.seq ?_

      refine XK.region ?_
      refine xk_eql rfl rfl (by decide) ?_
      refine xk_assign rfl (by decide) ?_
      refine XK.nilN ?_
      refine XK.if_ rfl (fun hk16 => ?_) (fun hk16 => ?_)
      ·
        refine XK.seq ?_
        have hk8 : ¬ (k = 100 ∨ k = 107) := by first | assumption | simp_all
        have hhn : hangN s k = s.clocks.length := by rw [hangN, if_neg hk8, if_pos hk16]

        refine XK.region ?_
        refine xk_field (off := 0) (by kernel_rfl) rfl (by decide) ?_
        refine xk_ld rfl ?_
        refine xk_len (el := 65) (by kernel_rfl) rfl (by decide) ?_
        refine xk_move rfl (by decide) ?_
        refine XK.nilN ?_
        refine XK.envS [(58, .int .i64 0), (57, .int .i64 s.clocks.length), (7, .pointer (some ⟨g3, 0, none⟩)), (5, .pointer (some ⟨g2, 0, none⟩)), (4, .pointer (some ⟨g1, 0, none⟩)), (2, .int .i64 (ag : Int))] ?_
        refine XK.block ?_
        refine XK.loop (fun m e R H => ∃ (i : Nat), i ≤ s.clocks.length ∧ m = s.clocks.length - i ∧ (∀ j, j < i → hangAt s x y k id j = false) ∧ e = [(58, .int .i64 i), (57, .int .i64 s.clocks.length), (7, .pointer (some ⟨g3, 0, none⟩)), (5, .pointer (some ⟨g2, 0, none⟩)), (4, .pointer (some ⟨g1, 0, none⟩)), (2, .int .i64 (ag : Int))] ∧ R = [q, qx, all w] ∧ H = [HP.blk g3 92 [.int .u8 k, .int .i64 id], HP.blk g2 79 [.slice X1 xn1 xk1, .slice X2 xn2 xk2, .slice X3 xn3 xk3, .slice Y1 yn1 yk1, .slice Y2 yn2 yk2, .slice Y3 yn3 yk3], HP.blk g1 50 [.slice A1 s.clocks.length k1, .slice A2 s.domains.length k2, .slice A3 s.resets.length k3, .slice A4 s.devs.length k4]]) s.clocks.length ⟨0, by omega, rfl, (fun j hj => absurd hj (Nat.not_lt_zero j)), rfl, rfl, rfl⟩ fun m e R H hI => ?_
        obtain ⟨i, hi, rfl, hno, rfl, rfl, rfl⟩ := hI
        refine XK.seq ?_

        refine XK.region ?_
        refine xk_lss rfl rfl (by decide) ?_
        refine XK.nilN ?_
        refine XK.seq ?_
        refine XK.if_ rfl (fun h => ?_) (fun h => ?_)
        ·
          refine XK.skip ?_
          refine XK.norm ?_
          refine XK.seq ?_
          refine XK.block ?_
          refine XK.seq ?_
          have hil : i < s.clocks.length := by have h' : (i : Int) < (s.clocks.length : Int) := h; omega
          have hgo : hangAt s x y k id i = false → ∀ j, j < i + 1 → hangAt s x y k id j = false := fun h j hj => by
            rcases Nat.lt_or_ge j i with h1 | h1
            · exact hno j h1
            · have hji : j = i := by omega
              subst hji; exact h
          have hat : hangAt s x y k id i = (decide ((i : Int) ≠ id) && (wishedF x y k i && decide (id ∈ natI (chainL s i)))) := by rw [hangAt, if_neg hk8, chainB, Int.toNat_natCast]

          refine XK.region ?_
          refine xk_move rfl (by decide) ?_
          refine xk_assign rfl (by decide) ?_
          refine XK.nilN ?_
          refine XK.seq ?_

          refine XK.draw 16 (by kernel_rfl) (by kernel_rfl) ?_
          refine XA.dA 0 rfl rfl rfl (does_move rfl) ?_
          refine XA.dA 1 rfl rfl rfl (does_field (off := 1) (by kernel_rfl) rfl) ?_
          refine XA.dA 2 rfl rfl rfl (does_ld rfl) ?_
          refine XA.dA 3 rfl rfl rfl (does_neq rfl rfl) ?_
          refine XA.dA 4 rfl rfl rfl (does_move rfl) ?_
          (first | refine XA.split (t := 65) rfl (fun hg => ?_) (fun hg => ?_) | refine XA.splitB (t := 65) rfl (fun hg => ?_) (fun hg => ?_))
          ·
            refine XA.dT 5 rfl rfl rfl (does_field (off := 0) (by kernel_rfl) rfl) ?_
            refine XA.dT 6 rfl rfl rfl (does_ld rfl) ?_
            refine XA.dT 7 rfl rfl rfl (does_move rfl) ?_
            refine XA.next 8 rfl (by kernel_rfl) ?_
            refine xk_guardT rfl rfl ?_; refine xk_callR (f := 59) (fi := []) (ca := []) (by kernel_rfl) rfl rfl (by decide) (fun w1 st => wished_any g2 x y k i w1 (StR.box hSt (st.le (by simp)) (st.box (i := 1) rfl))) ?_
            refine XA.bk ?_
            refine XA.dA 9 rfl rfl rfl (by first | exact does_pickT rfl rfl | exact does_pickF rfl rfl) ?_
            refine XA.dA 10 rfl rfl rfl (does_move rfl) ?_
            (first | refine XA.split (t := 71) rfl (fun hg => ?_) (fun hg => ?_) | refine XA.splitB (t := 71) rfl (fun hg => ?_) (fun hg => ?_))
            ·
              refine XA.dT 11 rfl rfl rfl (does_ldN 4 rfl) ?_
              refine XA.dT 12 rfl rfl rfl (does_move rfl) ?_
              refine XA.dT 14 rfl rfl rfl (does_field (off := 1) (by kernel_rfl) rfl) ?_
              refine XA.dT 15 rfl rfl rfl (does_ld rfl) ?_
              refine XA.next 13 rfl (by kernel_rfl) ?_
              refine xk_guardT rfl rfl ?_; refine xk_call [q] (f := 52) (fi := []) (ca := []) (by kernel_rfl) rfl rfl (by decide) (by simp) (IntsOk (chainL s i)) (fun w2 st => chain_any q s _ _ _ _ _ k1 _ k2 _ k3 _ k4 i w2 hSP hm (st.le (by simp)) (by omega)) ?_
              rintro _ w2 q1 ⟨Ac, cc, rfl, hch⟩ hf hle _
              have hch := hch.le hf
              have hclen := chainN_len s s.clocks.length i
              refine XA.bk ?_
              refine XA.next 16 rfl (by kernel_rfl) ?_
              refine xk_guardT rfl rfl ?_; refine xk_callR (f := 111) (fi := []) (ca := []) (by kernel_rfl) rfl rfl (by decide) (fun w3 st => contains_any Ac _ cc (natI (chainL s i)) id w3 (hch.le (st.le (by simp))) (by simp [natI]) (by unfold chainL; omega)) ?_
              refine XA.bt ?_
              refine XA.next 17 rfl (by kernel_rfl) ?_
              (first | refine xk_pickT rfl rfl (by decide) ?_ | refine xk_pickF rfl rfl (by decide) ?_)
              refine XA.bt ?_
              refine XA.done (by kernel_rfl) ?_
              refine XK.norm ?_
              refine XK.if_ rfl (fun h => ?_) (fun h => ?_)
              ·
                refine XK.seq ?_

                refine XK.region ?_
                refine xk_assign rfl (by decide) ?_
                refine XK.nilN ?_
                refine XK.ret ?_
                refine XK.norm ?_
                have ht : hangAt s x y k id i = true := by
                  rw [hat]; first | (simp_all; done) | (simp_all; omega)
                exact XK.ret1 rfl rfl fun w9 st => ⟨by rw [hden, hangF_true (by rw [hhn]; exact hil) ht], st.below (by simp)⟩
              ·
                refine XK.skip ?_
                refine XK.norm ?_

                refine XK.region ?_
                refine xk_add rfl rfl (wrap_in (by omega)) (by decide) ?_
                refine xk_move rfl (by decide) ?_
                refine XK.nilN ?_
                have hf2 : hangAt s x y k id i = false := by
                  rw [hat]; first | (simp_all; done) | (simp_all; omega)
                refine XK.weakR (R' := [q, qx, all w]) (by simp) ?_
                exact XK.envS [(58, .int .i64 ((i : Int) + 1)), (57, .int .i64 s.clocks.length), (7, .pointer (some ⟨g3, 0, none⟩)), (5, .pointer (some ⟨g2, 0, none⟩)), (4, .pointer (some ⟨g1, 0, none⟩)), (2, .int .i64 (ag : Int))] (XK.round (s.clocks.length - (i + 1)) (by omega) ⟨i + 1, by omega, rfl, hgo hf2, rfl, rfl, rfl⟩)
            ·
              refine XA.dF 11 rfl rfl rfl rfl ?_
              refine XA.dF 12 rfl rfl rfl rfl ?_
              refine XA.dF 13 rfl rfl rfl rfl ?_
              refine XA.dF 14 rfl rfl rfl rfl ?_
              refine XA.dF 15 rfl rfl rfl rfl ?_
              refine XA.next 16 rfl (by kernel_rfl) ?_
              refine xk_guardF rfl rfl rfl (by decide) ?_
              refine XA.bt ?_
              refine XA.next 17 rfl (by kernel_rfl) ?_
              (first | refine xk_pickT rfl rfl (by decide) ?_ | refine xk_pickF rfl rfl (by decide) ?_)
              refine XA.bt ?_
              refine XA.done (by kernel_rfl) ?_
              refine XK.norm ?_
              refine XK.cond rfl (fun h => by cases h) (fun _ => ?_)
              refine XK.skip ?_
              refine XK.norm ?_

              refine XK.region ?_
              refine xk_add rfl rfl (wrap_in (by omega)) (by decide) ?_
              refine xk_move rfl (by decide) ?_
              refine XK.nilN ?_
              have hf2 : hangAt s x y k id i = false := by
                rw [hat]; first | (simp_all; done) | (simp_all; omega)
              refine XK.weakR (R' := [q, qx, all w]) (by simp) ?_
              exact XK.envS [(58, .int .i64 ((i : Int) + 1)), (57, .int .i64 s.clocks.length), (7, .pointer (some ⟨g3, 0, none⟩)), (5, .pointer (some ⟨g2, 0, none⟩)), (4, .pointer (some ⟨g1, 0, none⟩)), (2, .int .i64 (ag : Int))] (XK.round (s.clocks.length - (i + 1)) (by omega) ⟨i + 1, by omega, rfl, hgo hf2, rfl, rfl, rfl⟩)
          ·
            refine XA.dF 5 rfl rfl rfl rfl ?_
            refine XA.dF 6 rfl rfl rfl rfl ?_
            refine XA.dF 7 rfl rfl rfl rfl ?_
            refine XA.dF 8 rfl rfl rfl rfl ?_
            refine XA.dA 9 rfl rfl rfl (by first | exact does_pickT rfl rfl | exact does_pickF rfl rfl) ?_
            refine XA.dA 10 rfl rfl rfl (does_move rfl) ?_
            refine XA.dF 11 rfl rfl rfl rfl ?_
            refine XA.dF 12 rfl rfl rfl rfl ?_
            refine XA.dF 13 rfl rfl rfl rfl ?_
            refine XA.dF 14 rfl rfl rfl rfl ?_
            refine XA.dF 15 rfl rfl rfl rfl ?_
            refine XA.next 16 rfl (by kernel_rfl) ?_
            refine xk_guardF rfl rfl rfl (by decide) ?_
            refine XA.bt ?_
            refine XA.next 17 rfl (by kernel_rfl) ?_
            (first | refine xk_pickT rfl rfl (by decide) ?_ | refine xk_pickF rfl rfl (by decide) ?_)
            refine XA.bt ?_
            refine XA.done (by kernel_rfl) ?_
            refine XK.norm ?_
            refine XK.cond rfl (fun h => by cases h) (fun _ => ?_)
            refine XK.skip ?_
            refine XK.norm ?_

            refine XK.region ?_
            refine xk_add rfl rfl (wrap_in (by omega)) (by decide) ?_
            refine xk_move rfl (by decide) ?_
            refine XK.nilN ?_
            have hf2 : hangAt s x y k id i = false := by
              rw [hat]; first | (simp_all; done) | (simp_all; omega)
            refine XK.weakR (R' := [q, qx, all w]) (by simp) ?_
            exact XK.envS [(58, .int .i64 ((i : Int) + 1)), (57, .int .i64 s.clocks.length), (7, .pointer (some ⟨g3, 0, none⟩)), (5, .pointer (some ⟨g2, 0, none⟩)), (4, .pointer (some ⟨g1, 0, none⟩)), (2, .int .i64 (ag : Int))] (XK.round (s.clocks.length - (i + 1)) (by omega) ⟨i + 1, by omega, rfl, hgo hf2, rfl, rfl, rfl⟩)
        ·
          refine XK.exit ?_
          refine XK.norm ?_
          refine XK.seq ?_

          refine XK.region ?_
          refine xk_assign rfl (by decide) ?_
          refine XK.nilN ?_
          refine XK.ret ?_
          refine XK.norm ?_
          have hin : i = s.clocks.length := by have h' : ¬ (i : Int) < (s.clocks.length : Int) := h; omega
          subst hin
          exact XK.ret1 rfl rfl fun w9 st => ⟨by rw [hden, hangF_false (by rw [hhn]; exact hno)], st.below (by simp)⟩
      ·
        refine XK.skip ?_
        refine XK.norm ?_
        refine XK.seq ?_

        refine XK.region ?_
        refine xk_assign rfl (by decide) ?_
        refine XK.nilN ?_
        refine XK.ret ?_
        refine XK.norm ?_
        have hk8 : ¬ (k = 100 ∨ k = 107) := by first | assumption | simp_all
        have hhn : hangN s k = 0 := by rw [hangN, if_neg hk8, if_neg hk16]
        exact XK.ret1 rfl rfl fun w9 st => ⟨by rw [hden, hangF_false (by rw [hhn]; exact fun j hj => absurd hj (Nat.not_lt_zero j))], st.below (by simp)⟩

end Go.Proofs.Ytbgibbbggajgaaa
