/- The small logic's rules for memory, calls and the ends of functions. -/
import Derived.Test.YtbgibbbggajgaaaOps
import Derived.Deep.MidRow
import Derived.Laws.CopyRow
import Derived.Laws.MakeOwn
namespace Go.Proofs.Ytbgibbbggajgaaa
set_option linter.all false
open Go.RowKit

/-- the slice 'A, n' of elements of sz cells reads xs in the picture p -/
def SlS (p : Piece) (sz : Nat) (A : Option Addr) (n : Nat) (xs : List Value) : Prop :=
  xs.length = n * sz ∧ (0 < n → ∃ b off, A = some ⟨b, off, none⟩ ∧ p.Z b ∧ ∀ j u, xs[j]? = some u → p.w.cell? ⟨b, off + j, none⟩ = some u)
theorem SlS.le {p q : Piece} {sz n : Nat} {A : Option Addr} {xs : List Value} (h : SlS p sz A n xs) (hl : p.Le q) : SlS q sz A n xs :=
  ⟨h.1, fun hn => by
    obtain ⟨b, off, hA, hz, hc⟩ := h.2 hn
    exact ⟨b, off, hA, (hl b hz).1, fun j u hu => (World.cell?_of_block (w := p.w) (a := ⟨b, off + j, none⟩) (hl b hz).2).trans (hc j u hu)⟩⟩
theorem SlS.nil (p : Piece) (sz : Nat) : SlS p sz none 0 [] := ⟨by simp, fun h => absurd h (by omega)⟩
theorem SlS.sl {p : Piece} {w : World} {sz n : Nat} {A : Option Addr} {xs : List Value} (h : SlS p sz A n xs) (hl : p.Le (all w)) : Sl w w.heap.size sz A n xs := by
  obtain ⟨h1, h2⟩ := h.le hl
  exact ⟨h1, fun hn => by obtain ⟨b, off, hA, hz, hc⟩ := h2 hn; exact ⟨b, off, hA, hz, hc⟩⟩
theorem SlS.of_sl {w : World} {sz n : Nat} {A : Option Addr} {xs : List Value} (h : Sl w w.heap.size sz A n xs) : SlS (all w) sz A n xs :=
  ⟨h.1, fun hn => by obtain ⟨b, off, hA, hz, hc⟩ := h.2 hn; exact ⟨b, off, hA, hz, hc⟩⟩
/-- cell f of element k -/
theorem SlS.at_ {p : Piece} {sz n : Nat} {A : Option Addr} {xs : List Value} (h : SlS p sz A n xs) {k : Nat} (hk : k < n) : ∃ b off, A = some ⟨b, off, none⟩ ∧ p.Z b ∧ ∀ f u, xs[k * sz + f]? = some u → p.w.cell? ⟨b, off + k * sz + f, none⟩ = some u := by
  obtain ⟨b, off, e, hb, hc⟩ := h.2 (by omega)
  exact ⟨b, off, e, hb, fun f u hu => by rw [Nat.add_assoc]; exact hc _ u hu⟩
theorem SlS.of_own {Y : Nat → Prop} {w : World} {F : Nat → Prop} {e : TypeId} {sz n : Nat} {v : Value} {xs : List Value} (h : (HP.own e sz v n xs).sat F w) (hF : ∀ b, F b → Y b) : ∃ A c, v = .slice A n c ∧ SlS ⟨w, Y⟩ sz A n xs := by
  obtain ⟨hg, ho⟩ := h
  rcases ho.2 with ⟨rfl, hn⟩ | ⟨g, cap, cur, rfl, _⟩
  · exact ⟨none, 0, by rw [hn], ho.1, fun h => absurd h (by omega)⟩
  · refine ⟨_, _, rfl, ho.1, fun _ => ⟨g, 0, rfl, hF g (hg g rfl), fun j u hu => ?_⟩⟩
    have := ho.cells (g := g) rfl j u hu
    rw [Addr.add_mid] at this
    exact this
theorem SlS.of_blk {Y : Nat → Prop} {w : World} {F : Nat → Prop} {t : TypeId} {g sz n c : Nat} {xs : List Value} (h : (HP.blk g t xs).sat F w) (hF : ∀ b, F b → Y b) (hn : xs.length = n * sz) : SlS ⟨w, Y⟩ sz (some ⟨g, 0, none⟩) n xs := by
  obtain ⟨hg, hb⟩ := h
  refine ⟨hn, fun _ => ⟨g, 0, rfl, hF g hg, fun j u hu => ?_⟩⟩
  rw [Nat.zero_add, hb.cell]
  simpa using hu

theorem SlS.own {q : Piece} {e : TypeId} {sz n c : Nat} {A : Option Addr} {xs : List Value} (h : ∃ F, (HP.own e sz (.slice A n c) n xs).sat F q.w ∧ ∀ b, F b → q.Z b) : SlS q sz A n xs := by
  obtain ⟨F, h1, h2⟩ := h
  obtain ⟨A', c', he, hs⟩ := SlS.of_own (Y := q.Z) (w := q.w) h1 h2
  injection he with he
  subst he
  exact hs
/-- the kind of a type is no row of cells -/
def oneB (P : Program) (t : TypeId) : Bool := match P.underlying t with
  | some (.struct _) | some (.array _ _) => false
  | some _ => (P.info? t).any (·.size == 1)
  | none => false
def rowB (P : Program) (t : TypeId) (n : Nat) : Bool := match P.underlying t with
  | some (.struct _) | some (.array _ _) => (P.info? t).any (·.size == n)
  | _ => false
def zeroB (P : Program) (t : TypeId) (cs : List Value) : Prop := ∃ i z, P.info? t = some i ∧ i.zero = some z ∧ z.cells.toList = cs
def callB (P : Program) (f : FuncId) : Bool := (P.funcs[f]?).any fun fn => fn.name != "runtime.NumGoroutine" && fn.body.isSome
theorem run_load_one {P : Program} {w : World} {t : TypeId} {b o : Nat} {v : Value} (h : oneB P t = true) (hc : w.cell? ⟨b, o, none⟩ = some v) : (Instr.loadAt t (.pointer (some ⟨b, o, none⟩))).run P w = .ok v w := by
  unfold oneB at h
  split at h
  · cases h
  · cases h
  · rename_i d h1 h2 hu
    have hagg : (isAgg t).run P w = .ok false w := by
      unfold isAgg
      rw [Sem.run_bind, run_underlying hu]
      cases d <;> first | rfl | exact (h1 _ rfl).elim | exact (h2 _ _ rfl).elim
    simp [Instr.loadAt, Instr.sureAddr, loadVar, Sem.run_bind, hagg, run_load, hc]
  · cases h
theorem run_load_row {P : Program} {w : World} {t : TypeId} {b o n : Nat} {vs : List Value} (h : rowB P t n = true) (hn : vs.length = n) (hc : w.rangeAt b o vs) : (Instr.loadAt t (.pointer (some ⟨b, o, none⟩))).run P w = .ok (.agg vs.toArray) w := by
  subst hn
  unfold rowB at h
  have hi : ∀ (x : Option TypeInfo), x.any (·.size == vs.length) = true → x.map (·.size) = some vs.length := by intro x hx; cases x <;> simp_all
  split at h
  · rename_i hu; exact run_loadAt_mid w b o t vs _ hc hu rfl (hi _ h)
  · rename_i hu; exact run_loadAt_mid w b o t vs _ hc hu rfl (hi _ h)
  · cases h
/-- n cells from place o on are others -/
def putN (cs : List Value) (o : Nat) (vs : List Value) : List Value := cs.take o ++ vs ++ cs.drop (o + vs.length)
theorem putN_all {cs vs : List Value} (h : vs.length = cs.length) : putN cs 0 vs = vs := by simp [putN, h]
theorem putN_one {cs : List Value} {o : Nat} {v : Value} (h : o < cs.length) : putN cs o [v] = cs.set o v := by
  unfold putN
  rw [List.set_eq_take_append_cons_drop, if_pos h]
  simp
theorem putN_len {cs vs : List Value} {o : Nat} (h : o + vs.length ≤ cs.length) : (putN cs o vs).length = cs.length := by
  simp [putN]; omega
theorem run_store_row {P : Program} {w : World} {t ty : TypeId} {g o : Nat} {cs : List Value} {v : Value} (hb : Blk w g t cs.toArray) (hi : (P.info? ty).any (·.size == v.cells.size) = true) (h1 : ∀ u ∈ v.cells.toList, u.oneCell' = true) (hl : o + v.cells.size ≤ cs.length) :
    (Instr.storeAt ty (.pointer (some ⟨g, o, none⟩)) v).run P w = .ok () (w.setRow g (putN cs o v.cells.toList).toArray) := by
  have hs := run_storeCells_at P g o t v.cells.toList 0 cs.toArray w hb (by simpa using hl) h1
  cases hq : P.info? ty with
  | none => simp [hq] at hi
  | some i =>
    have hz : i.size = v.cells.size := by simpa [hq] using hi
    simp [Instr.storeAt, Instr.sureAddr, storeVar, sizeOf, typeInfo, hq, hz, hs, putN]
theorem setRow_size (w : World) (g : Nat) (c : Array Value) : (w.setRow g c).heap.size = w.heap.size := by simp [World.setRow]
theorem setRow_other (w : World) (g : Nat) (c : Array Value) (b : Nat) (h : b ≠ g) : (w.setRow g c).heap[b]? = w.heap[b]? := by simp [World.setRow, Array.getElem?_modify, Ne.symm h]

section
variable {P : Program} {N : Nat} {w0 : World} {e : Env} {R : List Piece} {H : List HP} {Q : Exit → Act → World → Prop} {ops : Array Oper} {rest : List Oper}
variable {d : Nat} {ty : TypeId} {pos : String} {aft : Array Edge}

/-! what is read where -/
/-- in whatever world that is so, block b has v at place o -/
def Rd (w0 : World) (R : List Piece) (H : List HP) (b o : Nat) (v : Value) : Prop := ∀ w, St w0 R H w → w.cell? ⟨b, o, none⟩ = some v
def RdN (w0 : World) (R : List Piece) (H : List HP) (b o : Nat) (vs : List Value) : Prop := ∀ w, St w0 R H w → w.rangeAt b o vs
theorem Rd.blk (i : Nat) {b o : Nat} {t : TypeId} {cs : List Value} {v : Value} (hi : H[i]? = some (HP.blk b t cs)) (hv : cs[o]? = some v) : Rd w0 R H b o v := fun w st => by
  rw [(st.blk hi).cell]; simpa using hv
theorem Rd.own (i : Nat) {b o n c sz : Nat} {t : TypeId} {xs : List Value} {v : Value} (hi : H[i]? = some (HP.own t sz (.slice (some ⟨b, 0, none⟩) n c) n xs)) (hv : xs[o]? = some v) : Rd w0 R H b o v := fun w st => by
  have := (st.own hi).cells (g := b) rfl o v hv
  rw [Addr.add_mid, Nat.zero_add] at this
  exact this
theorem Rd.ro {p : Piece} {b o : Nat} {v : Value} (hp : p ∈ R) (hz : p.Z b) (hv : p.w.cell? ⟨b, o, none⟩ = some v) : Rd w0 R H b o v := fun w st => (st.ro_cell hp hz).trans hv
theorem RdN.of {b o : Nat} {vs : List Value} (h : ∀ j v, vs[j]? = some v → Rd w0 R H b (o + j) v) : RdN w0 R H b o vs := fun w st j v hv => h j v hv w st
theorem RdN.blk (i : Nat) {b o : Nat} {t : TypeId} {cs vs : List Value} (hi : H[i]? = some (HP.blk b t cs)) (hv : ∀ j v, vs[j]? = some v → cs[o + j]? = some v) : RdN w0 R H b o vs := .of fun j v h => .blk i hi (hv j v h)
theorem RdN.whole (i : Nat) {b : Nat} {t : TypeId} {cs : List Value} (hi : H[i]? = some (HP.blk b t cs)) : RdN w0 R H b 0 cs := .blk i hi (fun j v h => by rw [Nat.zero_add]; exact h)
theorem xk_load {x : Operand} {t : TypeId} {b o : Nat} {v : Value} (ht : oneB P t = true) (hx : e.ev x = some (.pointer (some ⟨b, o, none⟩))) (hr : Rd w0 R H b o v) (hd : d < N) (k : XK N w0 (wpList P ops Q rest) ((d, v) :: e) R H) :
    XK N w0 (wpList P ops Q (⟨some d, .load t x, ty, pos, aft, none⟩ :: rest)) e R H :=
  xk_run rfl fun a w hrp st => ⟨v, w, by simp [execOp, hrp.ev hx, run_load_one ht (hr w st)], k _ _ (hrp.put hd v) st⟩
theorem xk_loadN (n : Nat) {x : Operand} {t : TypeId} {b o : Nat} {vs : List Value} (ht : rowB P t n = true) (hx : e.ev x = some (.pointer (some ⟨b, o, none⟩))) (hr : RdN w0 R H b o vs) (hn : vs.length = n) (hd : d < N) (k : XK N w0 (wpList P ops Q rest) ((d, .agg vs.toArray) :: e) R H) :
    XK N w0 (wpList P ops Q (⟨some d, .load t x, ty, pos, aft, none⟩ :: rest)) e R H :=
  xk_run rfl fun a w hrp st => ⟨_, w, by simp [execOp, hrp.ev hx, run_load_row ht hn (hr w st)], k _ _ (hrp.put hd _) st⟩

/-! new blocks -/
theorem fresh_blk (w : World) (t : TypeId) (cs : List Value) : (HP.blk w.heap.size t cs).sat (fresh w (w.alloc (.cells cs.toArray t))).Z (w.alloc (.cells cs.toArray t)) := ⟨⟨Nat.le_refl _, by simp⟩, Blk.new w t cs.toArray⟩
theorem alloc_below (w : World) (o : Obj) : Below w.heap.size w (w.alloc o) := (Below.refl _ _).alloc (Nat.le_refl _) o
theorem xk_new {o : Oper} (hg : o.guard = none) {t : TypeId} {cs : List Value} {val : Nat → Value} (hdst : o.dst = some d) (hd : d < N)
    (hrun : ∀ a w, Rep N e a → St w0 R H w → (execOp a.eval o).run P w = .ok (.value (val w.heap.size)) (w.alloc (.cells cs.toArray t)))
    (k : ∀ g, XK N w0 (wpList P ops Q rest) ((d, val g) :: e) R (HP.blk g t cs :: H)) : XK N w0 (wpList P ops Q (o :: rest)) e R H :=
  xk_run hg fun a w hr st => ⟨_, _, hrun a w hr st, by
    rw [hdst]
    exact k w.heap.size _ _ (hr.put hd _) (st.new (alloc_below w _) (fresh_blk w t cs))⟩
theorem xk_alloc {t : TypeId} {cs : List Value} (ht : zeroB P t cs) (hd : d < N) (k : ∀ g, XK N w0 (wpList P ops Q rest) ((d, .pointer (some ⟨g, 0, none⟩)) :: e) R (HP.blk g t cs :: H)) :
    XK N w0 (wpList P ops Q (⟨some d, .alloc t, ty, pos, aft, none⟩ :: rest)) e R H :=
  xk_new (val := fun g => .pointer (some ⟨g, 0, none⟩)) rfl rfl hd (fun a w hr st => by
    obtain ⟨i, z, hi, hz, rfl⟩ := ht
    simp [execOp, Instr.alloc, zeroValue, typeInfo, hi, hz, newVar, newRow]) k
theorem xk_box {x : Operand} {v : Value} {t : TypeId} (hx : e.ev x = some v) (hd : d < N) (k : ∀ g, XK N w0 (wpList P ops Q rest) ((d, .pointer (some ⟨g, 0, none⟩)) :: e) R (HP.blk g t v.cells.toList :: H)) :
    XK N w0 (wpList P ops Q (⟨some d, .box t x, ty, pos, aft, none⟩ :: rest)) e R H :=
  xk_new (val := fun g => .pointer (some ⟨g, 0, none⟩)) rfl rfl hd (fun a w hr st => by simp [execOp, hr.ev hx, Instr.box, newVar, newRow]) k
def Env.parts (e : Env) : List (Nat × Operand) → Option (List (Nat × Value))
  | [] => some []
  | (i, x) :: xs => match e.ev x, e.parts xs with
    | some v, some vs => some ((i, v) :: vs)
    | _, _ => none
theorem Rep.parts {a : Act} (h : Rep N e a) : ∀ {xs : List (Nat × Operand)} {vs : List (Nat × Value)}, e.parts xs = some vs → xs.map (fun (i, x) => (i, a.eval x)) = vs
  | [], vs, hx => by cases hx; rfl
  | (i, x) :: xs, vs, hx => by
    unfold Env.parts at hx
    split at hx
    · rename_i v r h1 h2
      cases hx
      rw [List.map_cons, h.parts h2]
      simp [h.ev h1]
    · cases hx
theorem xk_build {t : TypeId} {ps : List (Nat × Operand)} {vs : List (Nat × Value)} {cs : List Value} (hp : e.parts ps = some vs) (hb : ∀ w, (Instr.build t vs.toArray).run P w = .ok (.agg cs.toArray) w) (hd : d < N)
    (k : XK N w0 (wpList P ops Q rest) ((d, .agg cs.toArray) :: e) R H) : XK N w0 (wpList P ops Q (⟨some d, .build t ps.toArray, ty, pos, aft, none⟩ :: rest)) e R H :=
  xk_pure hd (fun a w hr => by
    have := hr.parts hp
    simp only [execOp, List.map_toArray, this, Sem.run_bind, hb, Result.andThen_ok, Sem.run_pure]) k
theorem xk_buildSlice {t el : TypeId} {n : Nat} {ps : List (Nat × Operand)} {vs : List (Nat × Value)} {cs : List Value} (hp : e.parts ps = some vs) (hb : ∀ w, (Instr.buildSlice t n vs.toArray).run P w = .ok (.slice (some ⟨w.heap.size, 0, none⟩) n n) (w.alloc (.cells cs.toArray el))) (hd : d < N)
    (k : ∀ g, XK N w0 (wpList P ops Q rest) ((d, .slice (some ⟨g, 0, none⟩) n n) :: e) R (HP.blk g el cs :: H)) : XK N w0 (wpList P ops Q (⟨some d, .buildSlice t n ps.toArray, ty, pos, aft, none⟩ :: rest)) e R H :=
  xk_new (val := fun g => .slice (some ⟨g, 0, none⟩) n n) rfl rfl hd (fun a w hr st => by
    have := hr.parts hp
    simp only [execOp, List.map_toArray, this, Sem.run_bind, hb, Result.andThen_ok, Sem.run_pure]) k
/-- cells from place o on are others -/
def setN (cs : List Value) (o : Nat) : List Value → List Value
  | [] => cs
  | v :: vs => setN (cs.set o v) (o + 1) vs
/-- where the parts of a struct lie, and how long they are -/
def layB (P : Program) (t : TypeId) : Option (List (Nat × Nat)) := match P.underlying t with
  | some (.struct fs) => fs.toList.mapM fun f => (P.info? f.type).map fun i => (f.offset, i.size)
  | _ => none
def fillL (L : List (Nat × Nat)) (cs : List Value) : List (Nat × Value) → Option (List Value)
  | [] => some cs
  | (i, v) :: rest => match L[i]? with
    | some (off, sz) => if v.cells.size = sz ∧ off + sz ≤ cs.length then fillL L (setN cs off v.cells.toList) rest else none
    | none => none
theorem setN_len : ∀ (vs cs : List Value) (o : Nat), (setN cs o vs).length = cs.length
  | [], cs, o => rfl
  | v :: vs, cs, o => by rw [setN, setN_len vs]; simp
theorem setN_fold : ∀ (vs : List Value) (cs : List Value) (off k : Nat), (vs.zipIdx k).foldl (fun (a : Array Value) (x : Value × Nat) => a.setIfInBounds (off + x.2) x.1) cs.toArray = (setN cs (off + k) vs).toArray
  | [], cs, off, k => rfl
  | v :: vs, cs, off, k => by
    rw [List.zipIdx_cons, List.foldl_cons, setN, List.setIfInBounds_toArray, setN_fold vs _ off (k + 1)]
    rfl
theorem fill_eq (L : List (Nat × Nat)) (place : Nat → Option (Nat × Nat)) (hp : ∀ i, place i = L[i]?) : ∀ (ps : List (Nat × Value)) (cs cs' : List Value), fillL L cs ps = some cs' → Instr.fill place cs.toArray ps = some cs'.toArray
  | [], cs, cs', h => by cases h; rfl
  | (i, v) :: rest, cs, cs', h => by
    unfold fillL at h
    unfold Instr.fill
    rw [hp]
    split at h
    · rename_i off sz hL
      rw [hL]
      split at h
      · rename_i hc
        have e1 : (decide (v.cells.size ≠ sz) || decide (off + v.cells.size > cs.toArray.size)) = false := by simp; omega
        simp only [e1, Bool.false_eq_true, if_false]
        have := setN_fold v.cells.toList cs off 0
        rw [show v.cells.zipIdx.foldl (fun cs (c, j) => cs.setIfInBounds (off + j) c) cs.toArray = (setN cs off v.cells.toList).toArray by
          rw [← Array.foldl_toList, Array.toList_zipIdx]; exact this]
        exact fill_eq L place hp rest _ cs' h
      · cases h
    · cases h
theorem build_run {t : TypeId} {vs : List (Nat × Value)} {zs cs : List Value} {L : List (Nat × Nat)} (hz : zeroB P t zs) (hL : layB P t = some L) (hf : fillL L zs vs = some cs) : ∀ w, (Instr.build t vs.toArray).run P w = .ok (.agg cs.toArray) w := fun w => by
    obtain ⟨i, z, hi, hzz, rfl⟩ := hz
    unfold layB at hL
    split at hL
    · rename_i fs hu
      have hs1 : ∀ (f : Field) (j : TypeInfo), P.info? f.type = some j → ∀ w, ((fun f : Field => Prod.mk f.offset <$> sizeOf f.type) f).run P w = .ok (f.offset, j.size) w := by
        intro f j hj w
        simp [sizeOf, typeInfo, hj]
      have hm : ∀ (l : List Field) (L : List (Nat × Nat)), (l.mapM fun f => (P.info? f.type).map fun i => (f.offset, i.size)) = some L → ∀ w, (l.mapM (fun f => Prod.mk f.offset <$> sizeOf f.type)).run P w = .ok L w := by
        intro l
        induction l with
        | nil => intro L h w; simp at h; subst h; rfl
        | cons f l ih =>
          intro L h w
          simp only [List.mapM_cons, Option.bind_eq_bind, Option.bind_eq_some_iff, Option.pure_def, Option.some.injEq, Option.map_eq_some_iff] at h
          obtain ⟨x, ⟨j, hj, rfl⟩, L', hL', rfl⟩ := h
          rw [List.mapM_cons]
          simp only [Sem.run_bind]
          have h1 := hs1 f j hj w
          rw [h1]
          simp only [Result.andThen_ok, ih L' hL' w, Sem.run_pure]
      have hm' : (fs.mapM (fun f => Prod.mk f.offset <$> sizeOf f.type)).run P w = .ok L.toArray w := by
        rw [Array.mapM_eq_mapM_toList]
        simp [hm fs.toList L hL w]
      have hfl := fill_eq L (L.toArray[·]?) (fun i => by rw [List.getElem?_toArray]) vs z.cells.toList cs hf
      simp at hfl
      simp [Instr.build, zeroValue, typeInfo, hi, hzz, run_underlying hu, hm', hfl]
    · cases hL
theorem does_buildS {t : TypeId} {ps : List (Nat × Operand)} {vs : List (Nat × Value)} {zs cs : List Value} {L : List (Nat × Nat)} (hz : zeroB P t zs) (hL : layB P t = some L) (hp : e.parts ps = some vs) (hf : fillL L zs vs = some cs) : Does P N w0 e R H ⟨some d, .build t ps.toArray, ty, pos, aft, none⟩ (.agg cs.toArray) :=
  does_of (fun a w hr => by
    have := hr.parts hp
    simp only [execOp, List.map_toArray, this, Sem.run_bind, build_run hz hL hf, Result.andThen_ok, Sem.run_pure])
theorem xk_buildS {t : TypeId} {ps : List (Nat × Operand)} {vs : List (Nat × Value)} {zs cs : List Value} {L : List (Nat × Nat)} (hz : zeroB P t zs) (hL : layB P t = some L) (hp : e.parts ps = some vs) (hf : fillL L zs vs = some cs) (hd : d < N)
    (k : XK N w0 (wpList P ops Q rest) ((d, .agg cs.toArray) :: e) R H) : XK N w0 (wpList P ops Q (⟨some d, .build t ps.toArray, ty, pos, aft, none⟩ :: rest)) e R H :=
  xk_build hp (build_run hz hL hf) hd k
/-- a slice of elements written out -/
theorem xk_slice {t el : TypeId} {n sz : Nat} {ps : List (Nat × Operand)} {vs : List (Nat × Value)} {zs cs : List Value} (ht : P.underlying t = some (.slice el)) (hz : zeroB P el zs) (hsz : (P.info? el).map (·.size) = some sz) (hzs : zs.length = sz) (hpos : 0 < n * sz) (hsm : n * sz ≤ 16777216) (hp : e.parts ps = some vs)
    (hf : fillL ((List.range n).map fun i => (i * sz, sz)) ((List.range (n * sz)).map fun i => zs.getD (i % sz) undef) vs = some cs) (hd : d < N)
    (k : ∀ g, XK N w0 (wpList P ops Q rest) ((d, .slice (some ⟨g, 0, none⟩) n n) :: e) R (HP.blk g el cs :: H)) : XK N w0 (wpList P ops Q (⟨some d, .buildSlice t n ps.toArray, ty, pos, aft, none⟩ :: rest)) e R H :=
  xk_buildSlice hp (fun w => by
    obtain ⟨i, z, hi, hzz, rfl⟩ := hz
    have hs : i.size = sz := by simpa [hi] using hsz
    have hfl : Instr.fill (fun i => some (i * sz, sz)) ((List.range (n * sz)).map fun i => z.cells.toList.getD (i % sz) undef).toArray vs = some cs.toArray := by
      have key : ∀ (ps : List (Nat × Value)) (cs0 cs' : List Value), fillL ((List.range n).map fun i => (i * sz, sz)) cs0 ps = some cs' → Instr.fill (fun i => some (i * sz, sz)) cs0.toArray ps = some cs'.toArray := by
        intro ps
        induction ps with
        | nil => intro cs0 cs' h; cases h; rfl
        | cons p ps ih =>
          intro cs0 cs' h
          obtain ⟨i, v⟩ := p
          unfold fillL at h
          split at h
          · rename_i off s' hL
            split at h
            · rename_i hc
              have hLL : off = i * sz ∧ s' = sz := by
                rw [List.getElem?_map] at hL
                rcases Option.map_eq_some_iff.1 hL with ⟨q, hq, he⟩
                have : q = i := by
                  rw [List.getElem?_range] at hq
                  · cases hq; rfl
                  · rcases Nat.lt_or_ge i n with h | h
                    · exact h
                    · rw [List.getElem?_eq_none (by simpa using h)] at hq; cases hq
                subst this
                cases he
                exact ⟨rfl, rfl⟩
              obtain ⟨e1, e2⟩ := hLL
              rw [e1] at hc h
              rw [e2] at hc
              have := fill_eq [(i * sz, sz)] (fun j => if j = 0 then some (i * sz, sz) else none) (fun j => by cases j <;> simp) [(0, v)] cs0 (setN cs0 (i * sz) v.cells.toList) (by
                unfold fillL
                simp only [List.getElem?_cons_zero]
                rw [if_pos hc]
                rfl)
              unfold Instr.fill at this ⊢
              simp only [if_true] at this ⊢
              split
              · rename_i hbad; rw [if_pos hbad] at this; cases this
              · rename_i hok
                rw [if_neg hok] at this
                unfold Instr.fill at this
                rw [Option.some.inj this]
                exact ih _ cs' h
            · cases h
          · cases h
      exact key vs _ cs hf
    have hz0 : z.cells.size = sz := by simpa using hzs
    have e1 : (Array.range (n * i.size)).map (fun j => z.cells[j % z.cells.size]!) = ((List.range (n * sz)).map fun i => z.cells.toList.getD (i % sz) undef).toArray := by
      rw [hs]
      apply Array.ext
      · simp
      · intro j h1 h2
        have hj : j % sz < z.cells.size := by rw [hz0]; exact Nat.mod_lt _ (by rcases Nat.eq_zero_or_pos sz with h | h; subst h; simp at hpos; exact h)
        simp only [Array.getElem_map, Array.getElem_range, hz0, List.getElem_toArray, List.getElem_map, List.getElem_range]
        rw [getElem!_pos z.cells _ hj, List.getD_eq_getElem?_getD, List.getElem?_eq_getElem (by simpa using hj)]
        simp
    have h3z : ¬ n * sz = 0 := by omega
    have h2' : ¬ 16777216 < n * sz := by omega
    have h3' : ¬ (n = 0 ∨ sz = 0) := by intro h; rcases h with h | h <;> subst h <;> simp at hpos
    simp only [Instr.buildSlice, Sem.run_bind, run_underlying ht, Result.andThen_ok, sizeOf, typeInfo, zeroValue]
    rw [hs] at e1
    rw [← e1] at hfl
    simp [hi, hs, hzz, h3z, h3', h2', newRow]
    rw [hfl]
    simp) hd k
/-- make of a slice of one-cell elements, as long as its room -/
theorem xk_make {x y : Operand} {t el : TypeId} {n : Nat} {i : TypeInfo} {z : Value} {kd kd' : IntKind} (ht : P.underlying t = some (.slice el)) (hi : P.info? el = some i) (hz : i.zero = some z) (hs : i.size = 1) (hzc : z.cells = #[z]) (hx : e.ev x = some (.int kd (n : Int))) (hy : e.ev y = some (.int kd' (n : Int)))
    (hb : (i.bytes : Int) * n ≤ 281474976710656) (hn : (n : Int) ≤ 9223372036854775807) (hd : d < N) (k : ∀ g, XK N w0 (wpList P ops Q rest) ((d, .slice (some ⟨g, 0, none⟩) n n) :: e) R (HP.blk g el (List.replicate n z) :: H)) :
    XK N w0 (wpList P ops Q (⟨some d, .makeSlice t x y, ty, pos, aft, none⟩ :: rest)) e R H :=
  xk_new (val := fun g => .slice (some ⟨g, 0, none⟩) n n) rfl rfl hd (fun a w hr st => by
    have := run_make (P := P) w t el i z ht hi hz kd kd' n n (by omega) (Int.le_refl _) hb hn
    have hm : madeCells z.cells (n * i.size) = (List.replicate n z).toArray := by
      rw [hs, Nat.mul_one, hzc]
      unfold madeCells
      apply Array.ext
      · simp
      · intro j h1 h2
        simp
        rw [Nat.mod_one]
        rfl
    simp only [Int.toNat_natCast, hm] at this
    simp only [execOp, hr.ev hx, hr.ev hy, Sem.run_bind, this, Result.andThen_ok, Sem.run_pure]) k
/-- a block that is known whole, as a row that has no room left -/
theorem XK.asOwn (i : Nat) {K : Act → World → Prop} {g : Nat} {t : TypeId} {cs : List Value} (sz n : Nat) (hi : H[i]? = some (HP.blk g t cs)) (hl : cs.length = n * sz) (hn : (n : Int) ≤ 9223372036854775807) (h : XK N w0 K e R (H.set i (HP.own t sz (.slice (some ⟨g, 0, none⟩) n n) n cs))) : XK N w0 K e R H := fun a w hr st =>
  h a w hr (st.turn hi (Nat.le_refl _) rfl rfl rfl fun F hF hlt => ⟨F, ⟨fun g' hg' => by simp [Value.ownBlock] at hg'; exact hg' ▸ hF.1, hl, .inr ⟨g, n, cs.toArray, rfl, Nat.zero_le _, hF.2, Nat.le_refl _, by unfold maxLen; omega, by simpa using hl, by simp [← hl]⟩⟩, fun b hb => ⟨.inl hb, hlt b hb⟩, fun _ _ _ => rfl⟩)
/-- an empty row of the call's own, with or without room -/
theorem XK.nilrow {K : Act → World → Prop} (t : TypeId) (sz : Nat) (h : XK N w0 K e R (HP.own t sz (.slice none 0 0) 0 [] :: H)) : XK N w0 K e R H := fun a w hr st =>
  h a w hr (st.new (w' := w) (Below.refl _ _) ⟨fun g hg => by simp [Value.ownBlock] at hg, World.ownsRow_nil _ _ _ _⟩)
theorem xk_makeCap {x y : Operand} {t el : TypeId} {c : Nat} {i : TypeInfo} {z : Value} {kd kd' : IntKind} {sz : Nat} (ht : P.underlying t = some (.slice el)) (hi : P.info? el = some i) (hz : i.zero = some z) (hs : i.size = sz) (hx : e.ev x = some (.int kd 0)) (hy : e.ev y = some (.int kd' (c : Int)))
    (hb : (i.bytes : Int) * c ≤ 281474976710656) (hn : (c : Int) ≤ 9223372036854775807) (hd : d < N) (k : ∀ g, XK N w0 (wpList P ops Q rest) ((d, .slice (some ⟨g, 0, none⟩) 0 c) :: e) R (HP.own el sz (.slice (some ⟨g, 0, none⟩) 0 c) 0 [] :: H)) :
    XK N w0 (wpList P ops Q (⟨some d, .makeSlice t x y, ty, pos, aft, none⟩ :: rest)) e R H :=
  xk_run rfl fun a w hr st => by
    have := run_make (P := P) w t el i z ht hi hz kd kd' 0 c (Int.le_refl _) (by omega) hb hn
    simp only [Int.toNat_zero, Int.toNat_natCast] at this
    refine ⟨.slice (some ⟨w.heap.size, 0, none⟩) 0 c, w.alloc (.cells (madeCells z.cells (c * i.size)) el), by simp only [execOp, hr.ev hx, hr.ev hy, Sem.run_bind, this, Result.andThen_ok, Sem.run_pure], k w.heap.size _ _ (hr.put hd _) (st.new (alloc_below w _) ⟨fun g hg => ?_, ?_⟩)⟩
    · simp [Value.ownBlock] at hg; subst hg; exact ⟨Nat.le_refl _, by simp⟩
    · exact World.ownsRow_made w _ c (Nat.zero_le _) (by unfold maxLen; omega) (by rw [size_madeCells, hs])

/-! stores -/
theorem xk_skip {o : Oper} (hg : o.guard = none) (hdst : o.dst = none) (h : ∀ a w, Rep N e a → St w0 R H w → ∃ w', (execOp a.eval o).run P w = .ok .skip w' ∧ wpList P ops Q rest a w') : XK N w0 (wpList P ops Q (o :: rest)) e R H := fun a w hr st => wpList_plain hg fun K hK => by
  obtain ⟨w', h1, h2⟩ := h a w hr st
  unfold Oper.wp
  rw [h1]
  simp only [Oper.upon, hdst]
  exact hK _ _ h2
/-- a store into a block of the call's own -/
theorem xk_storeN (i : Nat) {x y : Operand} {s t : TypeId} {g o : Nat} {cs : List Value} {v : Value} (hi : H[i]? = some (HP.blk g t cs)) (hx : e.ev x = some (.pointer (some ⟨g, o, none⟩))) (hy : e.ev y = some v)
    (hs : (P.info? s).any (·.size == v.cells.size) = true) (h1 : ∀ u ∈ v.cells.toList, u.oneCell' = true) (hl : o + v.cells.size ≤ cs.length) (k : XK N w0 (wpList P ops Q rest) e R (H.set i (HP.blk g t (putN cs o v.cells.toList)))) :
    XK N w0 (wpList P ops Q (⟨none, .store s x y, ty, pos, aft, none⟩ :: rest)) e R H :=
  xk_skip rfl rfl fun a w hr st => by
    have hb := st.blk hi
    have hrun := run_store_row (P := P) (ty := s) hb hs h1 hl
    refine ⟨w.setRow g (putN cs o v.cells.toList).toArray, by simp only [execOp, hr.ev hx, hr.ev hy, Sem.run_bind, hrun, Result.andThen_ok, Sem.run_pure], k _ _ hr ?_⟩
    refine st.turn hi (by rw [setRow_size]; exact Nat.le_refl _) rfl rfl rfl fun F hF hlt => ⟨F, ⟨hF.1, setRow_heap w g _ _ t _ hb⟩, fun b hb => ⟨.inl hb, by rw [setRow_size]; exact hlt b hb⟩, fun b _ hnb => setRow_other _ _ _ _ (fun h => hnb (h ▸ hF.1))⟩
theorem xk_store (i : Nat) {x y : Operand} {s t : TypeId} {g o : Nat} {cs : List Value} {v : Value} (hi : H[i]? = some (HP.blk g t cs)) (hs : oneB P s = true) (hx : e.ev x = some (.pointer (some ⟨g, o, none⟩))) (hy : e.ev y = some v)
    (h1 : v.oneCell' = true) (hl : o < cs.length) (k : XK N w0 (wpList P ops Q rest) e R (H.set i (HP.blk g t (cs.set o v)))) :
    XK N w0 (wpList P ops Q (⟨none, .store s x y, ty, pos, aft, none⟩ :: rest)) e R H := by
  have hc : v.cells = #[v] := by cases v <;> first | rfl | (simp [Value.oneCell'] at h1)
  have hz : (P.info? s).any (·.size == v.cells.size) = true := by
    unfold oneB at hs
    rw [hc]
    split at hs
    · cases hs
    · cases hs
    · simpa using hs
    · cases hs
  refine xk_storeN i hi hx hy hz (by rw [hc]; simpa using h1) (by rw [hc]; simp; omega) ?_
  rw [hc]
  show XK N w0 (wpList P ops Q rest) e R (H.set i (HP.blk g t (putN cs o [v])))
  rw [putN_one hl]
  exact k
/-- a store into an element of a row of the call's own is not needed so far; append: -/
theorem xk_append (i : Nat) {x y : Operand} {t el : TypeId} {sz bytes n m c' n' : Nat} {v : Value} {A : Option Addr} {xs news : List Value} (ti : TypeInfo) (z : Value) (ht : P.underlying t = some (.slice el)) (hti : P.info? el = some ti) (hz : ti.zero = some z) (hsz : ti.size = sz) (hby : ti.bytes = bytes) (hzs : z.cells.size = sz) (hpos : 0 < sz)
    (hi : H[i]? = some (HP.own el sz v n xs)) (hx : e.ev x = some v) (hy : e.ev y = some (.slice A m c')) (hs : ∀ w, St w0 R H w → ∃ B, Sl w B sz A m news) (h1 : ∀ u ∈ news, u.oneCell' = true) (hn : n + m = n') (h63 : (n' : Int) ≤ 9223372036854775807) (hbytes : n' * bytes ≤ 140737488355328) (hd : d < N)
    (k : ∀ A' k', XK N w0 (wpList P ops Q rest) ((d, .slice A' n' k') :: e) R (H.set i (HP.own el sz (.slice A' n' k') n' (xs ++ news)))) :
    XK N w0 (wpList P ops Q (⟨some d, .call { callee := .builtin .append, args := #[x, y], argTypes := #[t, t] }, ty, pos, aft, none⟩ :: rest)) e R H :=
  xk_run rfl fun a w hr st => by
    subst hn
    have hown := st.own hi
    obtain ⟨B, hsl⟩ := hs w st
    obtain ⟨v', w', hrun, h2, h3, h4⟩ := run_append_sl (P := P) w 0 t ty el ti z sz bytes ht hti hz hsz hby hzs hpos v n xs hown B A m c' news hsl h1 (by unfold maxLen; omega) hbytes (Nat.zero_le _)
    obtain ⟨A', k', rfl, _⟩ := own_slice h2
    refine ⟨_, w', by simp only [execOp, resolve, invoke, builtin, hr.ev hx, hr.ev hy, List.map_toArray, List.map_cons, List.map_nil, Sem.run_bind, Sem.run_pure, Result.andThen_ok, hrun], k A' k' _ _ (hr.put hd _) ?_⟩
    refine st.turn hi h3.size h3.os h3.tape h3.output fun F hF hlt => ⟨fun b => F b ∨ (w.heap.size ≤ b ∧ b < w'.heap.size), ⟨fun g hg => ?_, h2⟩, fun b hb => ?_, fun b hb hnb => h3.block b hb (fun he => hnb (hF.1 b he.symm))⟩
    · rcases h4 with h4 | h4
      · exact .inl (hF.1 g (h4 ▸ hg))
      · rw [h4] at hg
        cases hg
        refine .inr ⟨Nat.le_refl _, ?_⟩
        exact (h2.lt w.heap.size h4).2
    · rcases hb with hb | hb
      · exact ⟨.inl hb, Nat.lt_of_lt_of_le (hlt b hb) h3.size⟩
      · exact ⟨.inr hb.1, hb.2⟩
theorem sl_blk (i : Nat) {g t sz m : Nat} {cs : List Value} (hi : H[i]? = some (HP.blk g t cs)) (hl : cs.length = m * sz) : ∀ w, St w0 R H w → ∃ B, Sl w B sz (some ⟨g, 0, none⟩) m cs := fun w st => ⟨_, by
  have := Sl.of_blk (n := m) (sz := sz) (st.blk hi) (by simpa using hl)
  simpa using this⟩
theorem sl_ro {p : Piece} {sz m : Nat} {A : Option Addr} {cs : List Value} (hp : p ∈ R) (h : SlS p sz A m cs) : ∀ w, St w0 R H w → ∃ B, Sl w B sz A m cs := fun w st => ⟨_, h.sl (st.le hp)⟩

/-! the same, with what is known of the types in one closed fact each -/
theorem zeroB_of {t : TypeId} {cs : List Value} (h : ((P.info? t).bind (·.zero)).map (·.cells.toList) = some cs) : zeroB P t cs := by
  obtain ⟨z, hz, rfl⟩ := Option.map_eq_some_iff.1 h
  obtain ⟨i, hi, hz⟩ := Option.bind_eq_some_iff.1 hz
  exact ⟨i, z, hi, hz, rfl⟩
theorem xk_makeT (bytes : Nat) {x y : Operand} {t el : TypeId} {n : Nat} {z : Value} {kd kd' : IntKind} (ht : P.underlying t = some (.slice el)) (hT : (P.info? el).map (fun i => (i.zero, i.size, i.bytes)) = some (some z, 1, bytes)) (hzc : z.cells = #[z]) (hx : e.ev x = some (.int kd (n : Int))) (hy : e.ev y = some (.int kd' (n : Int)))
    (hb : bytes * n ≤ 281474976710656) (hn : (n : Int) ≤ 9223372036854775807) (hd : d < N) (k : ∀ g, XK N w0 (wpList P ops Q rest) ((d, .slice (some ⟨g, 0, none⟩) n n) :: e) R (HP.blk g el (List.replicate n z) :: H)) :
    XK N w0 (wpList P ops Q (⟨some d, .makeSlice t x y, ty, pos, aft, none⟩ :: rest)) e R H := by
  obtain ⟨i, hi, he⟩ := Option.map_eq_some_iff.1 hT
  simp only [Prod.mk.injEq] at he
  obtain ⟨h1, h2, rfl⟩ := he
  exact xk_make ht hi h1 h2 hzc hx hy (by rw [← Int.natCast_mul]; omega) hn hd k
theorem xk_makeCapT (sz bytes : Nat) {x y : Operand} {t el : TypeId} {c k0 : Nat} {kd kd' : IntKind} (ht : P.underlying t = some (.slice el)) (hT : (P.info? el).map (fun i => (i.zero.map (fun z => z.cells.size), i.size, i.bytes)) = some (some k0, sz, bytes)) (hx : e.ev x = some (.int kd 0)) (hy : e.ev y = some (.int kd' (c : Int)))
    (hb : bytes * c ≤ 281474976710656) (hn : (c : Int) ≤ 9223372036854775807) (hd : d < N) (k : ∀ g, XK N w0 (wpList P ops Q rest) ((d, .slice (some ⟨g, 0, none⟩) 0 c) :: e) R (HP.own el sz (.slice (some ⟨g, 0, none⟩) 0 c) 0 [] :: H)) :
    XK N w0 (wpList P ops Q (⟨some d, .makeSlice t x y, ty, pos, aft, none⟩ :: rest)) e R H := by
  obtain ⟨i, z, hi, hz, hs, hby, _⟩ := info_cells hT
  subst hby
  exact xk_makeCap ht hi hz hs hx hy (by rw [← Int.natCast_mul]; omega) hn hd k
theorem xk_appendT (i : Nat) (sz bytes m : Nat) {x y : Operand} {t el : TypeId} {n c' n' : Nat} {v : Value} {A : Option Addr} {xs news : List Value} (ht : P.underlying t = some (.slice el)) (hT : (P.info? el).map (fun i => (i.zero.map (fun z => z.cells.size), i.size, i.bytes)) = some (some sz, sz, bytes)) (hpos : 0 < sz)
    (hi : H[i]? = some (HP.own el sz v n xs)) (hx : e.ev x = some v) (hy : e.ev y = some (.slice A m c')) (hs : ∀ w, St w0 R H w → ∃ B, Sl w B sz A m news) (h1 : ∀ u ∈ news, u.oneCell' = true) (hn : n + m = n') (h63 : (n' : Int) ≤ 9223372036854775807) (hbytes : n' * bytes ≤ 140737488355328) (hd : d < N)
    (k : ∀ A' k', XK N w0 (wpList P ops Q rest) ((d, .slice A' n' k') :: e) R (H.set i (HP.own el sz (.slice A' n' k') n' (xs ++ news)))) :
    XK N w0 (wpList P ops Q (⟨some d, .call { callee := .builtin .append, args := #[x, y], argTypes := #[t, t] }, ty, pos, aft, none⟩ :: rest)) e R H := by
  obtain ⟨ti, z, hti, hz, hsz, hby, hzs⟩ := info_cells hT
  exact xk_append i ti z ht hti hz hsz hby hzs hpos hi hx hy hs h1 hn h63 hbytes hd k

/-! calls -/
theorem xk_call (ps : List Piece) {f : FuncId} {x : Operand} {args : List Operand} {fi ca vs : List Value} {tys : Array TypeId} (hf : callB P f = true) (hx : e.ev x = some (.func (.func f) fi.toArray ca.toArray)) (ha : e.evs args = some vs) (hd : d < N) (hps : ∀ p ∈ ps, p ∈ R)
    (R' : Value → World → World → Prop) (hc : ∀ w, St w0 R H w → Calls P f (fi ++ vs ++ ca).toArray w fun y w' => (∃ v, y = .returned v ∧ R' v w w') ∧ Below w.heap.size w w')
    (k : ∀ v w q, R' v w q.w → (fresh w q.w).Le q → (∀ p ∈ ps, p.Le q) → ((∀ p ∈ ps, Fresh w0 p) → Fresh w0 q) → XK N w0 (wpList P ops Q rest) ((d, v) :: e) (q :: R) H) :
    XK N w0 (wpList P ops Q (⟨some d, .call { callee := .value x, args := args.toArray, argTypes := tys }, ty, pos, aft, none⟩ :: rest)) e R H := fun a w hr st => wpList_plain rfl fun K hK => by
  unfold callB at hf
  cases hq : P.funcs[f]? with
  | none => simp [hq] at hf
  | some fn =>
    simp [hq] at hf
    obtain ⟨hf1, hf2⟩ := hf
    have hrun : (execOp a.eval (⟨some d, .call { callee := .value x, args := args.toArray, argTypes := tys }, ty, pos, aft, none⟩ : Oper)).run P w = .ok (.enter f (fi ++ vs ++ ca).toArray) w := by
      cases hb : fn.body with
      | none => simp [hb] at hf2
      | some c =>
        simp [execOp, resolve, hr.ev hx, Deferred.ofValue, invoke, callFunc, hq, hf1, hb, hr.evs ha]
    unfold Oper.wp
    rw [hrun]
    refine (hc w st).mono fun y w' ⟨⟨v, hy, hR⟩, hb⟩ => ?_
    subst hy
    refine hK _ _ (k v w ⟨w', fun b => (fresh w w').Z b ∨ ∃ p ∈ ps, p.Z b⟩ hR (fun b h => ⟨.inl h, rfl⟩) (fun p hp b h => ⟨.inr ⟨p, hp, h⟩, ?_⟩) (fun hfr b hb => ?_) _ _ (hr.put hd v) (st.seen hb (fun b h => h.imp id fun ⟨p, hp, hz⟩ => ⟨p, hps p hp, hz⟩)))
    · exact (hb.block b (st.ro_lt (hps p hp) h)).trans (st.ro (hps p hp) h)
    · rcases hb with hb | ⟨p, hp, hb⟩
      · exact Nat.le_trans st.size hb.1
      · exact hfr p hp b hb
/-- a call whose result is no slice, or is not looked at -/
theorem xk_callV {f : FuncId} {x : Operand} {args : List Operand} {fi ca vs : List Value} {tys : Array TypeId} (hf : callB P f = true) (hx : e.ev x = some (.func (.func f) fi.toArray ca.toArray)) (ha : e.evs args = some vs) (hd : d < N)
    (R' : Value → Prop) (hc : ∀ w, St w0 R H w → Calls P f (fi ++ vs ++ ca).toArray w fun y w' => (∃ v, y = .returned v ∧ R' v) ∧ Below w.heap.size w w')
    (k : ∀ v, R' v → XK N w0 (wpList P ops Q rest) ((d, v) :: e) R H) :
    XK N w0 (wpList P ops Q (⟨some d, .call { callee := .value x, args := args.toArray, argTypes := tys }, ty, pos, aft, none⟩ :: rest)) e R H :=
  xk_call [] hf hx ha hd (by simp) (fun v _ _ => R' v) hc fun v w q hv _ _ _ => fun a w hr st => k v hv a w hr (st.weak (fun p hp => List.mem_cons_of_mem _ hp) id (fun _ _ _ _ h => h) (fun _ _ h => h))

/-! beginnings and ends -/
def argEnv : Nat → List Value → Env
  | _, [] => []
  | i, v :: vs => (i, v) :: argEnv (i + 1) vs
theorem argEnv_get : ∀ (vs : List Value) (i t : Nat) (v : Value), Env.get (argEnv i vs) t = some v → i ≤ t ∧ vs[t - i]? = some v
  | [], i, t, v, h => by simp [argEnv, Env.get] at h
  | u :: vs, i, t, v, h => by
    unfold argEnv Env.get at h
    split at h
    · rename_i hk
      have := Nat.eq_of_beq_eq_true hk
      subst this
      cases h
      exact ⟨Nat.le_refl _, by simp⟩
    · obtain ⟨h1, h2⟩ := argEnv_get vs (i + 1) t v h
      refine ⟨by omega, ?_⟩
      rw [show t - i = (t - (i + 1)) + 1 by omega, List.getElem?_cons_succ]
      exact h2
theorem XK.enter {f : FuncId} {fn : Func} {c : Code} {vs : List Value} {w : World} {Post : Ending → World → Prop} (hf : P.funcs[f]? = some fn) (hb : fn.body = some c) (hN : fn.ntmps = N) (hl : vs.length ≤ N)
    (h : XK N w (c.wp P (bodyPost P fn Post)) (argEnv 0 vs) [all w] []) : Calls P f vs.toArray w Post := by
  refine calls_of_wp hf hb (h _ _ ⟨?_, rfl, fun t v hv => ?_⟩ (St.start w))
  · simp; omega
  · obtain ⟨_, h2⟩ := argEnv_get vs 0 t v hv
    rw [Nat.sub_zero] at h2
    have hlt : t < vs.length := by
      rcases Nat.lt_or_ge t vs.length with h | h
      · exact h
      · rw [List.getElem?_eq_none h] at h2; cases h2
    rw [Array.getElem?_append_left (by simpa using hlt)]
    simpa using h2
theorem XK.ret1 {fn : Func} {Post : Ending → World → Prop} {t : Nat} {v : Value} (hr : fn.results = #[.tmp t]) (ht : e.get t = some v) (h : ∀ w, St w0 R H w → Post (.returned v) w) : XK N w0 (bodyPost P fn Post .ret) e R H := fun a w hrp st =>
  bodyPost_ret (v := v) (by rw [results_tmp hr, Array.getD_eq_getD_getElem?, hrp.get t v ht]; rfl) hrp.defers (h w st)
theorem XK.ret2 {fn : Func} {Post : Ending → World → Prop} {t u : Nat} {v v' : Value} (hr : fn.results = #[.tmp t, .tmp u]) (ht : e.get t = some v) (hu : e.get u = some v') (h : ∀ w, St w0 R H w → Post (.returned (.tuple #[v, v'])) w) : XK N w0 (bodyPost P fn Post .ret) e R H := fun a w hrp st =>
  bodyPost_ret (v := .tuple #[v, v']) (by rw [results_tmp2 hr, Array.getD_eq_getD_getElem?, hrp.get t v ht, Array.getD_eq_getD_getElem?, hrp.get u v' hu]; rfl) hrp.defers (h w st)
theorem XK.ret0 {fn : Func} {Post : Ending → World → Prop} {x : Exit} (hx : x = .ret ∨ x = .normal) (hr : fn.results = #[]) (h : ∀ w, St w0 R H w → Post (.returned (.tuple #[])) w) : XK N w0 (bodyPost P fn Post x) e R H := fun a w hrp st => by
  rcases hx with rfl | rfl
  · exact bodyPost_ret (v := .tuple #[]) (results_none hr _ _ _) hrp.defers (h w st)
  · exact bodyPost_end (v := .tuple #[]) (results_none hr _ _ _) hrp.defers (h w st)
/-- a struct's result, in a variable -/
theorem XK.retC {fn : Func} {Post : Ending → World → Prop} {t n b : Nat} {s : TypeId} {vs : List Value} (hr : fn.results = #[.cell t s]) (hs : rowB P s n = true) (hn : vs.length = n) (ht : e.get t = some (.pointer (some ⟨b, 0, none⟩))) (hrd : RdN w0 R H b 0 vs) (h : ∀ w, St w0 R H w → Post (.returned (.agg vs.toArray)) w) : XK N w0 (bodyPost P fn Post .ret) e R H := fun a w hrp st => by
  have hl := run_load_row (P := P) hs hn (hrd w st)
  refine bodyPost_ret (v := .agg vs.toArray) ?_ hrp.defers (h w st)
  have ha := hrp.get t _ ht
  simp only [Instr.loadAt, Instr.sureAddr, Sem.run_bind, Sem.run_pure, Result.andThen_ok] at hl
  simp only [results, hr]
  simp [ha, asAddr, hl]
theorem XK.retCT {fn : Func} {Post : Ending → World → Prop} {t u n b : Nat} {s : TypeId} {vs : List Value} {v' : Value} (hr : fn.results = #[.cell t s, .tmp u]) (hs : rowB P s n = true) (hn : vs.length = n) (ht : e.get t = some (.pointer (some ⟨b, 0, none⟩))) (hrd : RdN w0 R H b 0 vs) (hu : e.get u = some v') (h : ∀ w, St w0 R H w → Post (.returned (.tuple #[.agg vs.toArray, v'])) w) : XK N w0 (bodyPost P fn Post .ret) e R H := fun a w hrp st => by
  have hl := run_load_row (P := P) hs hn (hrd w st)
  refine bodyPost_ret (v := .tuple #[.agg vs.toArray, v']) ?_ hrp.defers (h w st)
  have ha := hrp.get t _ ht
  have hb := hrp.get u _ hu
  simp only [Instr.loadAt, Instr.sureAddr, Sem.run_bind, Sem.run_pure, Result.andThen_ok] at hl
  simp only [results, hr]
  simp [ha, hb, asAddr, hl]
end
end Go.Proofs.Ytbgibbbggajgaaa
