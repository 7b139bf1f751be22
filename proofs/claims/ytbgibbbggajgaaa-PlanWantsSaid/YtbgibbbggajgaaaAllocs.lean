/- The small logic: several new blocks, in whatever order they come up. -/
import Derived.Test.YtbgibbbggajgaaaMaybe
namespace Go.Proofs.Ytbgibbbggajgaaa
set_option linter.all false
open Go.RowKit
/-- an operation that makes a block: its slot, the block's type and cells, what it yields -/
structure AL where
  d : Nat
  t : TypeId
  cs : List Value
  val : Nat → Value
def envA (al : Nat → AL) (g : Nat → Nat) (ds : List Nat) (e : Env) : Env := ds.map (fun i => ((al i).d, (al i).val (g i))) ++ e
def hpA (al : Nat → AL) (g : Nat → Nat) (ds : List Nat) (H : List HP) : List HP := ds.map (fun i => HP.blk (g i) (al i).t (al i).cs) ++ H
def markA (ds : List Nat) (l : Array Bool) : Array Bool := ds.foldr (fun i a => a.setIfInBounds i true) l
def subsN : List Nat → List (List Nat)
  | [] => [[]]
  | i :: l => (subsN l).map (i :: ·) ++ subsN l
theorem subsN_filter (p : Nat → Bool) : ∀ l : List Nat, l.filter p ∈ subsN l
  | [] => by simp [subsN]
  | i :: l => by
    unfold subsN
    rw [List.filter_cons]
    split
    · exact List.mem_append_left _ (List.mem_map_of_mem (subsN_filter p l))
    · exact List.mem_append_right _ (subsN_filter p l)
def readyA (ops : Array Oper) (idx : List Nat) (ex : List (List Nat)) (listed : Array Bool) : Bool :=
  (subsN idx).all fun sub => ex.contains sub || (!(Region.ready .any ops (markA sub listed)).isEmpty && (Region.ready .any ops (markA sub listed)).all fun j => idx.contains j && !sub.contains j)
theorem markA_perm {l1 l2 : List Nat} (h : l1.Perm l2) (l : Array Bool) : markA l1 l = markA l2 l := by
  induction h with
  | nil => rfl
  | cons x _ ih => show (markA _ l).setIfInBounds x true = _; rw [ih]; rfl
  | swap x y s =>
    show ((markA s l).setIfInBounds x true).setIfInBounds y true = ((markA s l).setIfInBounds y true).setIfInBounds x true
    by_cases hxy : x = y
    · rw [hxy]
    · exact Array.setIfInBounds_comm _ _ hxy
  | trans _ _ h1 h2 => exact h1.trans h2
section
variable {P : Program} {N : Nat} {w0 w : World} {e : Env} {R R0 : List Piece} {H H0 : List HP} {Q : Exit → Act → World → Prop} {ops : Array Oper} {m fuel : Nat} {listed : Array Bool} {K : Act → World → Prop}
variable {al : Nat → AL} {g g' : Nat → Nat}
theorem get_cons (k : Nat) (v : Value) (e : Env) (t : Nat) : Env.get ((k, v) :: e) t = if k = t then some v else e.get t := by
  show (match Nat.beq k t with | true => some v | false => Env.get e t) = _
  by_cases h : k = t
  · subst h; rw [if_pos rfl, Nat.beq_refl]
  · rw [if_neg h]
    cases hb : Nat.beq k t with
    | true => exact absurd (Nat.eq_of_beq_eq_true hb) h
    | false => rfl
theorem envA_perm {l1 l2 : List Nat} (h : l1.Perm l2) (hn : (l1.map fun i => (al i).d).Nodup) (t : Nat) : (envA al g l1 e).get t = (envA al g l2 e).get t := by
  induction h with
  | nil => rfl
  | cons x _ ih =>
    show Env.get ((_, _) :: envA al g _ e) t = Env.get ((_, _) :: envA al g _ e) t
    rw [get_cons, get_cons, ih (List.nodup_cons.1 (show ((al x).d :: List.map (fun i => (al i).d) _).Nodup from hn)).2]
  | swap x y s =>
    show Env.get ((_, _) :: (_, _) :: envA al g s e) t = Env.get ((_, _) :: (_, _) :: envA al g s e) t
    have hne : (al y).d ≠ (al x).d := fun he => (List.nodup_cons.1 (show ((al y).d :: (al x).d :: List.map (fun i => (al i).d) s).Nodup from hn)).1 (by rw [he]; exact List.mem_cons_self)
    simp only [get_cons]
    by_cases h1 : (al x).d = t
    · rw [if_pos h1, if_neg (fun h2 => hne (h2.trans h1.symm)), if_pos h1]
    · rw [if_neg h1, if_neg h1]
  | trans h1 h2 i1 i2 => exact (i1 hn).trans (i2 ((h1.map _).nodup_iff.1 hn))
theorem hpA_perm {l1 l2 : List Nat} (h : l1.Perm l2) : ∀ pre : List HP, St w0 R (pre ++ hpA al g l1 H) w → St w0 R (pre ++ hpA al g l2 H) w := by
  induction h with
  | nil => exact fun _ h => h
  | cons x _ ih =>
    intro pre st
    have := ih (pre ++ [HP.blk (g x) (al x).t (al x).cs]) (by rw [List.append_assoc]; exact st)
    rw [List.append_assoc] at this
    exact this
  | swap x y s =>
    intro pre st
    refine st.weak (fun _ hp => hp) (fun i => if i = pre.length then pre.length + 1 else if i = pre.length + 1 then pre.length else i) (fun i j _ _ he => ?_) (fun i p hi => ?_)
    · split at he <;> split at he <;> (try split at he) <;> (try split at he) <;> omega
    · change (pre ++ HP.blk (g x) (al x).t (al x).cs :: HP.blk (g y) (al y).t (al y).cs :: hpA al g s H)[i]? = some p at hi
      show (pre ++ HP.blk (g y) (al y).t (al y).cs :: HP.blk (g x) (al x).t (al x).cs :: hpA al g s H)[_]? = some p
      rcases Nat.lt_or_ge i pre.length with h | h
      · rw [if_neg (by omega), if_neg (by omega), List.getElem?_append_left h]
        rwa [List.getElem?_append_left h] at hi
      · obtain ⟨k, rfl⟩ : ∃ k, i = pre.length + k := ⟨i - pre.length, by omega⟩
        rw [List.getElem?_append_right (by omega), Nat.add_sub_cancel_left] at hi
        match k, hi with
        | 0, hi =>
          rw [if_pos (by omega), List.getElem?_append_right (by omega), Nat.add_sub_cancel_left]
          exact hi
        | 1, hi =>
          rw [if_neg (by omega), if_pos rfl, List.getElem?_append_right (by omega), Nat.sub_self]
          exact hi
        | k + 2, hi =>
          rw [if_neg (by omega), if_neg (by omega), List.getElem?_append_right (by omega), Nat.add_sub_cancel_left]
          exact hi
  | trans _ _ i1 i2 => exact fun pre st => i2 pre (i1 pre st)
/-- the operation makes the block, wherever the slots are so -/
def Makes (P : Program) (N : Nat) (e : Env) (o : Oper) (x : AL) : Prop := ∀ a w, Rep N e a → (execOp a.eval o).run P w = .ok (.value (x.val w.heap.size)) (w.alloc (.cells x.cs.toArray x.t))
theorem makes_alloc {t ty : TypeId} {d : Nat} {pos : String} {aft : Array Edge} {cs : List Value} (ht : zeroB P t cs) : Makes P N e ⟨some d, .alloc t, ty, pos, aft, none⟩ ⟨d, t, cs, fun g => .pointer (some ⟨g, 0, none⟩)⟩ := fun a w hr => by
  obtain ⟨i, z, hi, hz, rfl⟩ := ht
  simp [execOp, Instr.alloc, zeroValue, typeInfo, hi, hz, newVar, newRow]
theorem makes_make (bytes : Nat) {x y : Operand} {t el ty : TypeId} {d n : Nat} {z : Value} {pos : String} {aft : Array Edge} {kd kd' : IntKind} (ht : P.underlying t = some (.slice el)) (hT : (P.info? el).map (fun i => (i.zero, i.size, i.bytes)) = some (some z, 1, bytes)) (hzc : z.cells = #[z]) (hx : e.ev x = some (.int kd (n : Int))) (hy : e.ev y = some (.int kd' (n : Int)))
    (hb : bytes * n ≤ 281474976710656) (hn : (n : Int) ≤ 9223372036854775807) : Makes P N e ⟨some d, .makeSlice t x y, ty, pos, aft, none⟩ ⟨d, el, List.replicate n z, fun g => .slice (some ⟨g, 0, none⟩) n n⟩ := fun a w hr => by
  obtain ⟨i, hi, he⟩ := Option.map_eq_some_iff.1 hT
  simp only [Prod.mk.injEq] at he
  obtain ⟨h1, h2, rfl⟩ := he
  have := run_make (P := P) w t el i z ht hi h1 kd kd' n n (by omega) (Int.le_refl _) (by rw [← Int.natCast_mul]; omega) hn
  have hm : madeCells z.cells (n * i.size) = (List.replicate n z).toArray := by
    rw [h2, Nat.mul_one, hzc]
    unfold madeCells
    apply Array.ext
    · simp
    · intro j h1 h2
      simp
      rw [Nat.mod_one]
      rfl
  simp only [Int.toNat_natCast, hm] at this
  simp only [execOp, hr.ev hx, hr.ev hy, Sem.run_bind, this, Result.andThen_ok, Sem.run_pure]
structure ALok (P : Program) (N : Nat) (ops : Array Oper) (e : Env) (x : AL) (i : Nat) : Prop where
  ok : ∃ o, ops[i]? = some o ∧ o.guard = none ∧ o.dst = some x.d ∧ Makes P N e o x
  lt : x.d < N
  new : e.get x.d = none
theorem ALok.of {o : Oper} {x : AL} {i : Nat} (h1 : ops[i]? = some o) (h2 : o.guard = none) (h3 : o.dst = some x.d) (h4 : Makes P N e o x) (h5 : x.d < N) (h6 : e.get x.d = none) : ALok P N ops e x i := ⟨⟨o, h1, h2, h3, h4⟩, h5, h6⟩
theorem envA_old {ds : List Nat} (hn : ∀ i ∈ ds, e.get (al i).d = none) {t : Nat} {v : Value} (h : e.get t = some v) : (envA al g ds e).get t = some v := by
  induction ds with
  | nil => exact h
  | cons i ds ih =>
    show Env.get ((_, _) :: envA al g ds e) t = some v
    rw [get_cons, if_neg (fun he => by have := hn i (by simp); rw [he, h] at this; cases this)]
    exact ih fun j hj => hn j (by simp [hj])
theorem Rep.envA_base {a : Act} {ds : List Nat} (hn : ∀ i ∈ ds, e.get (al i).d = none) (h : Rep N (envA al g ds e) a) : Rep N e a := ⟨h.size, h.defers, fun t v ht => h.get t v (envA_old hn ht)⟩
theorem St.unA {ds : List Nat} (h : St w0 R (hpA al g ds H) w) : St w0 R H w := h.weak (fun _ hp => hp) (fun i => i + ds.length) (fun i j _ _ he => by omega) (fun i p hi => by
  show (ds.map _ ++ H)[i + ds.length]? = some p
  rw [List.getElem?_append_right (by simp)]
  simpa using hi)
theorem XA.allocs (idx : List Nat) (ex : List (List Nat)) (al : Nat → AL) (hok : ∀ i ∈ idx, ALok P N ops e (al i) i) (hd : (idx.map fun i => (al i).d).Nodup) (hr : readyA ops idx ex listed = true) (hS : ∀ w, St w0 R H w → St w0 R0 H0 w)
    (k : ∀ sub ∈ subsN idx, ex.contains sub = true → ∀ g : Nat → Nat, XA P N w0 ops Q R0 H0 m (fuel + (idx.length - sub.length)) (markA sub listed) (envA al g sub e) R (hpA al g sub H)) : XA P N w0 ops Q R0 H0 m (fuel + idx.length) listed e R H := by
  have hni : idx.Nodup := (List.pairwise_map.1 hd).imp fun h e => h (by rw [e])
  have key : ∀ (n : Nat) (ds : List Nat) (g : Nat → Nat), ds.Nodup → (∀ i ∈ ds, i ∈ idx) → ds.length + n = idx.length → XA P N w0 ops Q R0 H0 m (fuel + n) (markA ds listed) (envA al g ds e) R (hpA al g ds H) := by
    intro n
    induction n with
    | zero =>
      intro ds g hn hin hl
      have hperm : (idx.filter fun i => ds.contains i).Perm ds := by
        rw [List.perm_iff_count]
        intro a
        rw [(hni.sublist List.filter_sublist).count, hn.count]
        by_cases ha : a ∈ ds
        · rw [if_pos ha, if_pos (by simp [ha, hin a ha])]
        · rw [if_neg ha, if_neg (by simp [ha])]
      have hlen := hperm.length_eq
      have heq : (idx.filter fun i => ds.contains i) = idx := List.filter_sublist.eq_of_length (by omega)
      have hr1 := List.all_eq_true.1 hr _ (subsN_filter (fun i => ds.contains i) idx)
      rw [Bool.or_eq_true] at hr1
      rcases hr1 with hc | hc
      · have h := k _ (subsN_filter _ idx) hc g
        rw [markA_perm hperm, show fuel + (idx.length - (idx.filter fun i => ds.contains i).length) = fuel + 0 by omega] at h
        exact fun up a w hrp st => h up a w ⟨hrp.size, hrp.defers, fun t v ht => hrp.get t v (by rw [← envA_perm hperm (by rw [heq]; exact hd)]; exact ht)⟩ (hpA_perm hperm.symm [] st)
      · exfalso
        rw [Bool.and_eq_true, List.all_eq_true] at hc
        obtain ⟨h1, h2⟩ := hc
        rw [heq] at h1 h2
        cases hrd : Region.ready .any ops (markA idx listed) with
        | nil => rw [hrd] at h1; cases h1
        | cons j js =>
          rw [hrd] at h2
          have := h2 j (by simp)
          simp at this
    | succ n ih =>
      intro ds g hn hin hl
      have hperm : (idx.filter fun i => ds.contains i).Perm ds := by
        rw [List.perm_iff_count]
        intro a
        rw [(hni.sublist List.filter_sublist).count, hn.count]
        by_cases ha : a ∈ ds
        · rw [if_pos ha, if_pos (by simp [ha, hin a ha])]
        · rw [if_neg ha, if_neg (by simp [ha])]
      have hlen := hperm.length_eq
      have hr1 := List.all_eq_true.1 hr _ (subsN_filter (fun i => ds.contains i) idx)
      rw [Bool.or_eq_true] at hr1
      rcases hr1 with hc | hc
      · have h := k _ (subsN_filter _ idx) hc g
        rw [markA_perm hperm, show fuel + (idx.length - (idx.filter fun i => ds.contains i).length) = fuel + (n + 1) by omega] at h
        have hnd : ((idx.filter fun i => ds.contains i).map fun i => (al i).d).Nodup := hd.sublist (List.filter_sublist.map _)
        exact fun up a w hrp st => h up a w ⟨hrp.size, hrp.defers, fun t v ht => hrp.get t v (by rw [← envA_perm hperm hnd]; exact ht)⟩ (hpA_perm hperm.symm [] st)
      · rw [Bool.and_eq_true, List.all_eq_true, markA_perm hperm] at hc
        obtain ⟨h1, h2⟩ := hc
        intro up a w hrp st
        show wpAnyX P ops Q (St w0 R0 H0) m ((fuel + n) + 1) (markA ds listed) a w
        refine ⟨(fun h => by rw [h] at h1; exact absurd h1 (by decide)), fun j hj => ?_⟩
        have hj2 := h2 j hj
        simp only [Bool.and_eq_true, Bool.not_eq_true', List.contains_eq_mem, decide_eq_true_eq, decide_eq_false_iff_not, List.mem_filter, not_and] at hj2
        have hjd : j ∉ ds := hj2.2 hj2.1
        obtain ⟨⟨o, ho, hog, hod, hmk⟩, hlt, hnew⟩ := hok j hj2.1
        have hrun := hmk a w (hrp.envA_base fun i hi => (hok i (hin i hi)).new)
        let g' : Nat → Nat := fun i => if i = j then w.heap.size else g i
        have hg1 : envA al g' (j :: ds) e = ((al j).d, (al j).val w.heap.size) :: envA al g ds e := by
          show ((al j).d, (al j).val (g' j)) :: (ds.map _ ++ e) = _
          rw [show g' j = w.heap.size from if_pos rfl]
          congr 1
          unfold envA
          congr 1
          refine List.map_congr_left fun i hi => ?_
          rw [show g' i = g i from if_neg (fun he : i = j => hjd (he ▸ hi))]
        have hg2 : hpA al g' (j :: ds) H = HP.blk w.heap.size (al j).t (al j).cs :: hpA al g ds H := by
          show HP.blk (g' j) _ _ :: (ds.map _ ++ H) = _
          rw [show g' j = w.heap.size from if_pos rfl]
          congr 1
          unfold hpA
          congr 1
          refine List.map_congr_left fun i hi => ?_
          rw [show g' i = g i from if_neg (fun he : i = j => hjd (he ▸ hi))]
        have st' : St w0 R (hpA al g' (j :: ds) H) (w.alloc (.cells (al j).cs.toArray (al j).t)) := by
          rw [hg2]
          exact st.new (alloc_below w _) (fresh_blk w _ _)
        have h := ih (j :: ds) g' (List.nodup_cons.2 ⟨hjd, hn⟩) (fun i hi => by
          rcases List.mem_cons.1 hi with rfl | hi
          · exact hj2.1
          · exact hin i hi) (by simp only [List.length_cons]; omega)
        rw [hg1] at h
        have hfin := h (up.set_ hj) (a.put (some (al j).d) ((al j).val w.heap.size)) _ (hrp.put hlt _) st'
        unfold wpOp
        simp only [ho]
        have hw : Region.wanted o (yielded ops a.tmps) = true := by simp [Region.wanted, hog]
        simp only [hw, if_true, Oper.wp, hrun, Oper.upon, hod]
        exact .inl ⟨fun _ => hS _ st'.unA, hfin⟩
  have := key idx.length [] (fun _ => 0) List.nodup_nil (fun i hi => by cases hi) (by simp)
  exact this
end
end Go.Proofs.Ytbgibbbggajgaaa
