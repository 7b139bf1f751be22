/- A small logic for walks: an environment of slots, pieces of memory that nobody writes, and blocks of the call's own, each known apart from the others. -/
import Derived.Test.YtbgibbbggajgaaaMem
namespace Go.Proofs.Ytbgibbbggajgaaa
set_option linter.all false
open Go.RowKit

/-! ### slots -/
abbrev Env := List (Nat × Value)
def Env.get : Env → Nat → Option Value
  | [], _ => none
  | (k, v) :: r, t => match Nat.beq k t with
    | true => some v
    | false => Env.get r t
def Env.ev (e : Env) : Operand → Option Value
  | .tmp t => e.get t
  | .const v => some v
  | .global g => some (.pointer (some ⟨g, 0, none⟩))
  | .func f => some (.func (.func f) #[] #[])
structure Rep (N : Nat) (e : Env) (a : Act) : Prop where
  size : a.tmps.size = N
  defers : a.defers = []
  get : ∀ t v, e.get t = some v → a.tmps[t]? = some v
/-- each slot of e' has the same value in e -/
def Env.Sub : Env → Env → Prop
  | [], _ => True
  | (t, v) :: r, e => e.get t = some v ∧ Env.Sub r e
section
variable {N : Nat} {e e' : Env} {a : Act} {x : Operand} {v : Value} {d : Nat}
theorem Rep.ev (h : Rep N e a) (hx : e.ev x = some v) : a.eval x = v := by
  cases x with
  | tmp t => simp only [Act.eval]; rw [Array.getD_eq_getD_getElem?, h.get t v hx]; rfl
  | const c => simpa [Env.ev, Act.eval] using hx
  | global g => simpa [Env.ev, Act.eval] using hx
  | func f => simpa [Env.ev, Act.eval] using hx
theorem Rep.put (h : Rep N e a) (hd : d < N) (v : Value) : Rep N ((d, v) :: e) (a.put (some d) v) := by
  refine ⟨by simpa [Act.put] using h.size, h.defers, fun t u hu => ?_⟩
  simp only [Act.put]
  unfold Env.get at hu
  rw [Array.getElem?_setIfInBounds]
  by_cases ht : d = t
  · subst ht
    rw [show Nat.beq d d = true from Nat.beq_refl d] at hu
    rw [if_pos rfl, if_pos (by rw [h.size]; exact hd)]
    exact hu
  · rw [show Nat.beq d t = false from (by cases hb : Nat.beq d t with | false => rfl | true => exact absurd (Nat.eq_of_beq_eq_true hb) ht)] at hu
    rw [if_neg ht]
    exact h.get t u hu
theorem Env.Sub.get : ∀ {e' e : Env}, e'.Sub e → ∀ t v, e'.get t = some v → e.get t = some v
  | [], _, _, t, v, h => by simp [Env.get] at h
  | (k, u) :: r, e, hs, t, v, h => by
    unfold Env.get at h
    split at h
    · rename_i hk
      have := Nat.eq_of_beq_eq_true hk
      subst this
      rw [← h]
      exact hs.1
    · exact Env.Sub.get hs.2 t v h
theorem Rep.sub (h : Rep N e a) (hs : e'.Sub e) : Rep N e' a := ⟨h.size, h.defers, fun t v hv => h.get t v (hs.get t v hv)⟩
end

/-! ### memory -/
/-- a picture of blocks that nobody writes any more -/
structure Piece where
  w : World
  Z : Nat → Prop
/-- what is seen in p is seen in q -/
def Piece.Le (p q : Piece) : Prop := ∀ b, p.Z b → q.Z b ∧ q.w.heap[b]? = p.w.heap[b]?
theorem Piece.Le.refl (p : Piece) : p.Le p := fun _ h => ⟨h, rfl⟩
theorem Piece.Le.trans {p q r : Piece} (h : p.Le q) (k : q.Le r) : p.Le r := fun b hb => ⟨(k b (h b hb).1).1, (k b (h b hb).1).2.trans (h b hb).2⟩
/-- what the call has of its own: a set of blocks, and what lies there -/
structure HP where
  sat : (Nat → Prop) → World → Prop
  loc : ∀ F w w', sat F w → (∀ b, F b → w'.heap[b]? = w.heap[b]?) → sat F w'
/-- block g is just the cells cs -/
def HP.blk (g : Nat) (t : TypeId) (cs : List Value) : HP := ⟨fun F w => F g ∧ Blk w g t cs.toArray, fun _ _ _ h hk => ⟨h.1, (hk g h.1).trans h.2⟩⟩
/-- v is a row of the call's own -/
def HP.own (e : TypeId) (sz : Nat) (v : Value) (n : Nat) (xs : List Value) : HP :=
  ⟨fun F w => (∀ g, v.ownBlock = some g → F g) ∧ w.ownsRow 0 e sz v n xs, fun F w w' h hk => ⟨h.1, h.2.1, h.2.2.imp id (by
    rintro ⟨g, cap, cur, rfl, hg, hc, hrest⟩
    exact ⟨g, cap, cur, rfl, hg, (hk g (h.1 g rfl)).trans hc, hrest⟩)⟩⟩
/-- the world as it stands: no block that was there has turned but those of the call's own -/
structure St (w0 : World) (R : List Piece) (H : List HP) (w : World) : Prop where
  os : w.os = w0.os
  tape : w.tape = w0.tape
  output : w.output = w0.output
  size : w0.heap.size ≤ w.heap.size
  ex : ∃ (Z : Nat → Prop) (F : Nat → Nat → Prop), (∀ b, Z b → b < w.heap.size) ∧ (∀ p ∈ R, ∀ b, p.Z b → Z b ∧ w.heap[b]? = p.w.heap[b]?) ∧
    (∀ (i : Nat) (p : HP), H[i]? = some p → p.sat (F i) w) ∧ (∀ i b, F i b → ¬ Z b ∧ b < w.heap.size) ∧ ∀ i j b, i ≠ j → F i b → ¬ F j b
/-- all that there was -/
def all (w : World) : Piece := ⟨w, fun b => b < w.heap.size⟩
/-- what is new in w' -/
def fresh (w w' : World) : Piece := ⟨w', fun b => w.heap.size ≤ b ∧ b < w'.heap.size⟩
section
variable {w0 w w' : World} {R R' : List Piece} {H H' : List HP} {p : Piece} {h : HP}
theorem St.start (w : World) : St w [all w] [] w :=
  ⟨rfl, rfl, rfl, Nat.le_refl _, fun b => b < w.heap.size, fun _ _ => False, fun _ h => h, fun p hp b hb => by
    simp at hp; subst hp; exact ⟨hb, rfl⟩, fun i p h => by simp at h, fun _ _ h => h.elim, fun _ _ _ _ h => h.elim⟩
theorem St.below (s : St w0 R H w) (h : all w0 ∈ R) : Below w0.heap.size w0 w := by
  obtain ⟨Z, F, hz, hr, _⟩ := s.ex
  exact ⟨s.os, s.tape, s.output, s.size, fun k hk => (hr _ h k hk).2⟩
/-- a call, or an operation, that leaves all that there was -/
theorem St.call (s : St w0 R H w) (hb : Below w.heap.size w w') : St w0 R H w' := by
  obtain ⟨Z, F, hz, hr, hs, hf, hd⟩ := s.ex
  refine ⟨hb.os.trans s.os, hb.tape.trans s.tape, hb.output.trans s.output, Nat.le_trans s.size hb.size, Z, F, fun b h => Nat.lt_of_lt_of_le (hz b h) hb.size, fun p hp b h => ?_, fun i p h => ?_, fun i b h => ⟨(hf i b h).1, Nat.lt_of_lt_of_le (hf i b h).2 hb.size⟩, hd⟩
  · exact ⟨(hr p hp b h).1, (hb.block b (hz b (hr p hp b h).1)).trans (hr p hp b h).2⟩
  · exact p.loc _ _ _ (hs i p h) (fun b hbb => hb.block b (hf i b hbb).2)
/-- .. and what is new is the call's own -/
theorem St.new (s : St w0 R H w) (hb : Below w.heap.size w w') (hp : h.sat (fresh w w').Z w') : St w0 R (h :: H) w' := by
  have s' := s.call hb
  obtain ⟨Z, F, hz, hr, hs, hf, hd⟩ := s.ex
  refine ⟨s'.os, s'.tape, s'.output, s'.size, Z, fun i => match i with | 0 => (fresh w w').Z | i + 1 => F i, fun b h => Nat.lt_of_lt_of_le (hz b h) hb.size, fun p hp b h => ?_, fun i p h => ?_, fun i b h => ?_, fun i j b hij h => ?_⟩
  · exact ⟨(hr p hp b h).1, (hb.block b (hz b (hr p hp b h).1)).trans (hr p hp b h).2⟩
  · cases i with
    | zero => simp at h; subst h; exact hp
    | succ i => exact p.loc _ _ _ (hs i p (by simpa using h)) (fun b hbb => hb.block b (hf i b hbb).2)
  · cases i with
    | zero => exact ⟨fun hzb => by have := hz b hzb; have := h.1; omega, h.2⟩
    | succ i => exact ⟨(hf i b h).1, Nat.lt_of_lt_of_le (hf i b h).2 hb.size⟩
  · cases i with
    | zero => cases j with
      | zero => exact absurd rfl hij
      | succ j => intro hj; have := (hf j b hj).2; have := h.1; omega
    | succ i => cases j with
      | zero => intro hj; have := (hf i b h).2; have := hj.1; omega
      | succ j => exact hd i j b (by omega) h
/-- .. or seen by all -/
theorem St.seen (s : St w0 R H w) (hb : Below w.heap.size w w') {Y : Nat → Prop} (hY : ∀ b, Y b → (fresh w w').Z b ∨ ∃ p ∈ R, p.Z b) : St w0 (⟨w', Y⟩ :: R) H w' := by
  have s' := s.call hb
  obtain ⟨Z, F, hz, hr, hs, hf, hd⟩ := s.ex
  refine ⟨s'.os, s'.tape, s'.output, s'.size, fun b => Z b ∨ (fresh w w').Z b, F, fun b h => ?_, fun p hp b h => ?_, fun i p h => ?_, fun i b h => ?_, hd⟩
  · rcases h with h | h
    · exact Nat.lt_of_lt_of_le (hz b h) hb.size
    · exact h.2
  · simp only [List.mem_cons] at hp
    rcases hp with rfl | hp
    · rcases hY b h with h | ⟨q, hq, hqb⟩
      · exact ⟨.inr h, rfl⟩
      · exact ⟨.inl (hr q hq b hqb).1, rfl⟩
    · exact ⟨.inl (hr p hp b h).1, (hb.block b (hz b (hr p hp b h).1)).trans (hr p hp b h).2⟩
  · exact p.loc _ _ _ (hs i p h) (fun b hbb => hb.block b (hf i b hbb).2)
  · refine ⟨?_, Nat.lt_of_lt_of_le (hf i b h).2 hb.size⟩
    rintro (hzb | hzb)
    · exact (hf i b h).1 hzb
    · have := hzb.1; have := (hf i b h).2; omega
/-- what lies in a block of the call's own turns -/
theorem St.turn (s : St w0 R H w) {i : Nat} {p q : HP} (hi : H[i]? = some p) (hsize : w.heap.size ≤ w'.heap.size) (hos : w'.os = w.os) (htape : w'.tape = w.tape) (hout : w'.output = w.output)
    (hpq : ∀ F, p.sat F w → (∀ b, F b → b < w.heap.size) → ∃ F', q.sat F' w' ∧ (∀ b, F' b → (F b ∨ w.heap.size ≤ b) ∧ b < w'.heap.size) ∧ ∀ b, b < w.heap.size → ¬ F b → w'.heap[b]? = w.heap[b]?) : St w0 R (H.set i q) w' := by
  obtain ⟨Z, F, hz, hr, hs, hf, hd⟩ := s.ex
  obtain ⟨F', h1, h2, h3⟩ := hpq (F i) (hs i p hi) (fun b hb => (hf i b hb).2)
  have hlt : i < H.length := by
    rcases Nat.lt_or_ge i H.length with h | h
    · exact h
    · rw [List.getElem?_eq_none h] at hi; cases hi
  refine ⟨hos.trans s.os, htape.trans s.tape, hout.trans s.output, Nat.le_trans s.size hsize, Z, fun j => if j = i then F' else F j, fun b h => Nat.lt_of_lt_of_le (hz b h) hsize, fun p hp b h => ?_, fun j r hj => ?_, fun j b h => ?_, fun j k b hjk h => ?_⟩
  · refine ⟨(hr p hp b h).1, (h3 b (hz b (hr p hp b h).1) (fun hfb => (hf i b hfb).1 (hr p hp b h).1)).trans (hr p hp b h).2⟩
  · rw [List.getElem?_set] at hj
    split at hj
    · rename_i e; subst e
      first | (rw [if_pos hlt] at hj; cases hj) | cases hj
      simpa using h1
    · rename_i e
      simp only [if_neg (Ne.symm e)]
      exact r.loc _ _ _ (hs j r hj) (fun b hb => h3 b (hf j b hb).2 (hd j i b (Ne.symm e) hb))
  · dsimp only at h
    split at h
    · refine ⟨fun hzb => ?_, (h2 b h).2⟩
      rcases (h2 b h).1 with h | h
      · exact (hf i b h).1 hzb
      · have := hz b hzb; omega
    · exact ⟨(hf j b h).1, Nat.lt_of_lt_of_le (hf j b h).2 hsize⟩
  · dsimp only at h ⊢
    split at h <;> split
    · rename_i h1 h2; omega
    · rename_i e1 e2
      intro hk
      rcases (h2 b h).1 with h | h
      · exact hd i k b (by omega) h hk
      · have := (hf k b hk).2; omega
    · rename_i e1 e2
      intro hk
      rcases (h2 b hk).1 with hk | hk
      · exact hd j i b (by omega) h hk
      · have := (hf j b h).2; omega
    · exact hd j k b hjk h
/-- nothing turns but draws -/
theorem St.drew (s : St w0 R H w) : St w0 R H w.drew := s.call ((Below.refl _ _).drew)
theorem St.sat (s : St w0 R H w) {i : Nat} {p : HP} (hi : H[i]? = some p) : ∃ F, p.sat F w := by
  obtain ⟨Z, F, hz, hr, hs, hf, hd⟩ := s.ex
  exact ⟨_, hs i p hi⟩
theorem St.blk (s : St w0 R H w) {i g : Nat} {t : TypeId} {cs : List Value} (hi : H[i]? = some (HP.blk g t cs)) : Blk w g t cs.toArray := (s.sat hi).choose_spec.2
theorem St.own (s : St w0 R H w) {i : Nat} {e : TypeId} {sz : Nat} {v : Value} {n : Nat} {xs : List Value} (hi : H[i]? = some (HP.own e sz v n xs)) : w.ownsRow 0 e sz v n xs := (s.sat hi).choose_spec.2
theorem St.ro (s : St w0 R H w) (hp : p ∈ R) {b : Nat} (hb : p.Z b) : w.heap[b]? = p.w.heap[b]? := by
  obtain ⟨Z, F, hz, hr, _⟩ := s.ex
  exact (hr p hp b hb).2
theorem St.ro_lt (s : St w0 R H w) (hp : p ∈ R) {b : Nat} (hb : p.Z b) : b < w.heap.size := by
  obtain ⟨Z, F, hz, hr, _⟩ := s.ex
  exact hz b (hr p hp b hb).1
/-- what is seen in p is seen now -/
theorem St.le (s : St w0 R H w) (hp : p ∈ R) : p.Le (all w) := fun b hb => ⟨s.ro_lt hp hb, s.ro hp hb⟩
theorem St.ro_cell (s : St w0 R H w) (hp : p ∈ R) {a : Addr} (hb : p.Z a.block) : w.cell? a = p.w.cell? a := World.cell?_of_block (w := p.w) (s.ro hp hb)
/-- fewer things are known -/
theorem St.weak (s : St w0 R H w) (hR : ∀ p ∈ R', p ∈ R) (f : Nat → Nat) (hinj : ∀ i j, i < H'.length → j < H'.length → f i = f j → i = j) (hH : ∀ (i : Nat) (p : HP), H'[i]? = some p → H[f i]? = some p) : St w0 R' H' w := by
  obtain ⟨Z, F, hz, hr, hs, hf, hd⟩ := s.ex
  refine ⟨s.os, s.tape, s.output, s.size, Z, fun i b => i < H'.length ∧ F (f i) b, hz, fun p hp => hr p (hR p hp), fun i p hi => ?_, fun i b h => hf _ b h.2, fun i j b hij h hj => hd (f i) (f j) b (fun e => hij (hinj i j h.1 hj.1 e)) h.2 hj.2⟩
  have hlt : i < H'.length := by
    rcases Nat.lt_or_ge i H'.length with h | h
    · exact h
    · rw [List.getElem?_eq_none h] at hi; cases hi
  have e : (fun b => i < H'.length ∧ F (f i) b) = F (f i) := by funext b; simp [hlt]
  show p.sat (fun b => i < H'.length ∧ F (f i) b) w
  rw [e]
  exact hs _ p (hH i p hi)
/-- all of it is new since w0 -/
def Fresh (w0 : World) (p : Piece) : Prop := ∀ b, p.Z b → w0.heap.size ≤ b
theorem Fresh.fresh {w0 w w' : World} (h : w0.heap.size ≤ w.heap.size) : Fresh w0 (fresh w w') := fun b hb => Nat.le_trans h hb.1
theorem St.fresh_le (s : St w0 R H w) (hp : p ∈ R) (hf : Fresh w0 p) : p.Le (Go.Proofs.Ytbgibbbggajgaaa.fresh w0 w) := fun b hb => ⟨⟨hf b hb, s.ro_lt hp hb⟩, s.ro hp hb⟩
/-- blocks of the call's own are written no more -/
theorem St.still (s : St w0 R H w) (ps : List Piece) (hps : ∀ p ∈ ps, p ∈ R) (X : Nat → Prop) (f : Nat → Nat) (hinj : ∀ i j, i < H'.length → j < H'.length → f i = f j → i = j) (hX : ∀ i, i < H'.length → ¬ X (f i)) (hH : ∀ (i : Nat) (p : HP), H'[i]? = some p → H[f i]? = some p) :
    ∃ Y, St w0 (⟨w, Y⟩ :: R) H' w ∧ (∀ (i : Nat) (p : HP), X i → H[i]? = some p → ∃ F, p.sat F w ∧ ∀ b, F b → Y b) ∧ (∀ p ∈ ps, p.Le ⟨w, Y⟩) ∧ (all w0 ∈ R → (∀ p ∈ ps, Fresh w0 p) → Fresh w0 ⟨w, Y⟩) := by
  obtain ⟨Z, F, hz, hr, hs, hf, hd⟩ := s.ex
  refine ⟨fun b => (∃ p ∈ ps, p.Z b) ∨ ∃ i, X i ∧ F i b, ⟨s.os, s.tape, s.output, s.size, fun b => Z b ∨ ∃ i, X i ∧ F i b, fun i b => i < H'.length ∧ F (f i) b, ?_, ?_, ?_, ?_, ?_⟩, fun i p hi hp => ⟨F i, hs i p hp, fun b hb => .inr ⟨i, hi, hb⟩⟩, fun p hp b hb => ⟨.inl ⟨p, hp, hb⟩, (hr p (hps p hp) b hb).2⟩, ?_⟩
  · rintro b (h | ⟨i, _, h⟩)
    · exact hz b h
    · exact (hf i b h).2
  · intro p hp b hb
    simp only [List.mem_cons] at hp
    rcases hp with rfl | hp
    · refine ⟨?_, rfl⟩
      rcases hb with ⟨p, hp, hb⟩ | hb
      · exact .inl (hr p (hps p hp) b hb).1
      · exact .inr hb
    · exact ⟨.inl (hr p hp b hb).1, (hr p hp b hb).2⟩
  · intro i p hi
    have hlt : i < H'.length := by
      rcases Nat.lt_or_ge i H'.length with h | h
      · exact h
      · rw [List.getElem?_eq_none h] at hi; cases hi
    have e : (fun b => i < H'.length ∧ F (f i) b) = F (f i) := by funext b; simp [hlt]
    show p.sat (fun b => i < H'.length ∧ F (f i) b) w
    rw [e]
    exact hs _ p (hH i p hi)
  · rintro i b ⟨hi, h⟩
    refine ⟨?_, (hf _ b h).2⟩
    rintro (hzb | ⟨j, hj, hjb⟩)
    · exact (hf _ b h).1 hzb
    · exact hd (f i) j b (fun e => hX i hi (e ▸ hj)) h hjb
  · exact fun i j b hij h hj => hd (f i) (f j) b (fun e => hij (hinj i j h.1 hj.1 e)) h.2 hj.2
  · intro hall hfr b hb
    rcases hb with ⟨p, hp, hb⟩ | ⟨i, _, hb⟩
    · exact hfr p hp b hb
    · rcases Nat.lt_or_ge b w0.heap.size with h | h
      · exact absurd (hr _ hall b h).1 (hf i b hb).1
      · exact h
end

/-- a loop, each of whose rounds lowers a number -/
theorem wp_loop_ix {P : Program} {Q : Exit → Act → World → Prop} {a : Act} {w : World} {c : Code} (I : Nat → Act → World → Prop) (n : Nat) (h₀ : I n a w)
    (round : ∀ n a w, I n a w → c.wp P (Exit.then (fun a' w' => ∃ m, m < n ∧ I m a' w') Q) a w) : (Code.loop c).wp P Q a w := by
  intro b k cs
  have key : ∀ n a w, I n a w → ∃ e a' w', Q e a' w' ∧ Arrives P (lone (b.at a (.code c :: .inLoop c :: k)) cs w) b k cs e a' w' := by
    intro n
    induction n using Nat.strongRecOn with
    | _ n ih =>
      intro a w hI
      obtain ⟨e, a₁, w₁, hq, harr⟩ := round n a w hI b (.inLoop c :: k) cs
      cases e with
      | normal =>
        obtain ⟨m, hlt, hI₁⟩ := hq
        obtain ⟨e₂, a₂, w₂, hq₂, harr₂⟩ := ih m hlt a₁ w₁ hI₁
        exact ⟨e₂, a₂, w₂, hq₂, .of_steps (Steps.trans harr (.one step_inLoop)) harr₂⟩
      | exit id => exact ⟨_, a₁, w₁, hq, .pass (x := .inLoop c) rfl (fun _ _ => .inl (by simp)) harr⟩
      | goto l => exact ⟨_, a₁, w₁, hq, .pass (x := .inLoop c) rfl (fun _ _ => .inl (by simp)) harr⟩
      | ret => exact ⟨_, a₁, w₁, hq, .pass (x := .inLoop c) rfl (fun _ _ => .inl (by simp)) harr⟩
      | panic ch => exact ⟨_, a₁, w₁, hq, .pass (x := .inLoop c) rfl (fun _ _ => .inl (by simp)) harr⟩
      | outgrown => exact ⟨_, a₁, w₁, hq, .pass (x := .inLoop c) rfl (fun _ _ => .inl (by simp)) harr⟩
  obtain ⟨e, a', w', hq, harr⟩ := key n a w h₀
  exact ⟨e, a', w', hq, .of_steps (.one step_loop) harr⟩

/-! ### the judgement -/
/-- K holds wherever the slots, and memory, are so -/
def XK (N : Nat) (w0 : World) (K : Act → World → Prop) (e : Env) (R : List Piece) (H : List HP) : Prop := ∀ a w, Rep N e a → St w0 R H w → K a w
section
variable {P : Program} {N : Nat} {w0 : World} {K K' : Act → World → Prop} {e e' : Env} {R R' : List Piece} {H H' : List HP} {Q : Exit → Act → World → Prop}
theorem XK.mono (h : XK N w0 K e R H) (hk : ∀ a w, K a w → K' a w) : XK N w0 K' e R H := fun a w hr hs => hk _ _ (h a w hr hs)
/-- fewer slots -/
theorem XK.env (e' : Env) (hs : e'.Sub e) (h : XK N w0 K e' R H) : XK N w0 K e R H := fun a w hr st => h a w (hr.sub hs) st
/-- fewer blocks: those of these numbers, in this order -/
def selB : List Nat → List HP → Option (List HP)
  | [], _ => some []
  | i :: is, H => match H[i]?, selB is H with
    | some p, some r => some (p :: r)
    | _, _ => none
theorem selB_len : ∀ {is : List Nat} {H H' : List HP}, selB is H = some H' → H'.length = is.length
  | [], H, H', h => by cases h; rfl
  | i :: is, H, H', h => by
    unfold selB at h
    split at h
    · rename_i p r h1 h2; cases h; simp [selB_len h2]
    · cases h
theorem selB_get : ∀ {is : List Nat} {H H' : List HP}, selB is H = some H' → ∀ (i : Nat) (p : HP), H'[i]? = some p → H[is.getD i 0]? = some p
  | [], H, H', h, i, p, hp => by cases h; simp at hp
  | k :: is, H, H', h, i, p, hp => by
    unfold selB at h
    split at h
    · rename_i p' r h1 h2
      cases h
      cases i with
      | zero => simp at hp; subst hp; simpa using h1
      | succ i => simpa using selB_get h2 i p (by simpa using hp)
    · cases h
theorem nodup_inj {is : List Nat} (h : is.Nodup) : ∀ i j, i < is.length → j < is.length → is.getD i 0 = is.getD j 0 → i = j := by
  intro i j hi hj he
  simp only [List.getD_eq_getElem?_getD, List.getElem?_eq_getElem hi, List.getElem?_eq_getElem hj, Option.getD_some] at he
  have hp := List.pairwise_iff_getElem.1 h
  rcases Nat.lt_trichotomy i j with hl | hl | hl
  · exact absurd he (hp i j hi hj hl)
  · exact hl
  · exact absurd he.symm (hp j i hj hi hl)
theorem XK.weak (is : List Nat) (hH : selB is H = some H') (hn : is.Nodup) (hR : ∀ p ∈ R', p ∈ R) (h : XK N w0 K e R' H') : XK N w0 K e R H :=
  fun a w hr st => h a w hr (st.weak hR (fun i => is.getD i 0) (fun i j hi hj he => nodup_inj hn i j (by rw [← selB_len hH]; exact hi) (by rw [← selB_len hH]; exact hj) he) (selB_get hH))
/-- the blocks of the numbers fs are written no more, those of the numbers is are the call's own further on -/
theorem XK.still (ps : List Piece) (fs is : List Nat) (hps : ∀ p ∈ ps, p ∈ R) (hH : selB is H = some H') (hn : is.Nodup) (hf : ∀ i ∈ fs, i ∉ is)
    (h : ∀ q : Piece, (∀ (i : Nat) (p : HP), i ∈ fs → H[i]? = some p → ∃ F, p.sat F q.w ∧ ∀ b, F b → q.Z b) → (∀ p ∈ ps, p.Le q) → (all w0 ∈ R → (∀ p ∈ ps, Fresh w0 p) → Fresh w0 q) → XK N w0 K e (q :: R) H') : XK N w0 K e R H := fun a w hr st => by
  have hlen := selB_len hH
  obtain ⟨Y, st', hY, hle, hfr⟩ := st.still (H' := H') ps hps (fun i => i ∈ fs) (fun i => is.getD i 0) (fun i j hi hj he => nodup_inj hn i j (by omega) (by omega) he) (fun i hi hx => hf _ hx (by
    have hi' : i < is.length := by omega
    simp [List.getD_eq_getElem?_getD, List.getElem?_eq_getElem hi'])) (selB_get hH)
  exact h ⟨w, Y⟩ hY hle hfr a w hr st'
/-! code -/
theorem XK.seq {x y : Code} (h : XK N w0 (x.wp P (Exit.then (y.wp P Q) Q)) e R H) : XK N w0 ((Code.seq x y).wp P Q) e R H := fun a w hr st => wp_seq (h a w hr st)
/-- behind x this much is known -/
theorem XK.cut {x y : Code} (M : Env → List Piece → List HP → Prop) (h : XK N w0 (x.wp P (Exit.then (fun a' w' => ∃ e' R' H', M e' R' H' ∧ Rep N e' a' ∧ St w0 R' H' w') Q)) e R H)
    (hy : ∀ e' R' H', M e' R' H' → XK N w0 (y.wp P Q) e' R' H') : XK N w0 ((Code.seq x y).wp P Q) e R H := fun a w hr st => by
  refine wp_seq (wp_mono (h a w hr st) fun x a' w' hq => ?_)
  cases x with
  | normal =>
    obtain ⟨e', R', H', hm, hr', st'⟩ := hq
    exact hy e' R' H' hm a' w' hr' st'
  | _ => exact hq
theorem XK.meet {M : Env → List Piece → List HP → Prop} (hm : M e R H) : XK N w0 (fun a' w' => ∃ e' R' H', M e' R' H' ∧ Rep N e' a' ∧ St w0 R' H' w') e R H := fun _ _ hr st => ⟨e, R, H, hm, hr, st⟩
theorem XK.skip (h : XK N w0 (Q .normal) e R H) : XK N w0 (Code.skip.wp P Q) e R H := fun a w hr st => wp_skip (h a w hr st)
theorem XK.exit {id : Nat} (h : XK N w0 (Q (.exit id)) e R H) : XK N w0 ((Code.exit id).wp P Q) e R H := fun a w hr st => wp_exit (h a w hr st)
theorem XK.ret (h : XK N w0 (Q .ret) e R H) : XK N w0 (Code.ret.wp P Q) e R H := fun a w hr st => wp_ret (h a w hr st)
theorem XK.block {id : Nat} {c : Code} (h : XK N w0 (c.wp P (Exit.inBlock id Q)) e R H) : XK N w0 ((Code.block id c).wp P Q) e R H := fun a w hr st => wp_block (h a w hr st)
theorem XK.cond {c : Operand} {x y : Code} {b : Bool} (hc : e.ev c = some (.bool b)) (ht : b = true → XK N w0 (x.wp P Q) e R H) (hf : b = false → XK N w0 (y.wp P Q) e R H) : XK N w0 ((Code.cond c x y).wp P Q) e R H :=
  fun a w hr st => wp_cond_split (hr.ev hc) (fun h => ht h a w hr st) (fun h => hf h a w hr st)
theorem XK.if_ {c : Operand} {x y : Code} {p : Prop} [Decidable p] (hc : e.ev c = some (.bool (decide p))) (ht : p → XK N w0 (x.wp P Q) e R H) (hf : ¬ p → XK N w0 (y.wp P Q) e R H) : XK N w0 ((Code.cond c x y).wp P Q) e R H :=
  XK.cond hc (fun h => ht (of_decide_eq_true h)) (fun h => hf (of_decide_eq_false h))
theorem XK.loop {c : Code} (I : Nat → Env → List Piece → List HP → Prop) (n : Nat) (h0 : I n e R H)
    (h : ∀ n e R H, I n e R H → XK N w0 (c.wp P (Exit.then (fun a' w' => ∃ m e' R' H', (m < n ∧ I m e' R' H') ∧ Rep N e' a' ∧ St w0 R' H' w') Q)) e R H) : XK N w0 ((Code.loop c).wp P Q) e R H := fun a w hr st => by
  refine wp_loop_ix (fun n a w => ∃ e R H, I n e R H ∧ Rep N e a ∧ St w0 R H w) n ⟨e, R, H, h0, hr, st⟩ fun n a w ⟨e, R, H, hI, hr, st⟩ => wp_mono (h n e R H hI a w hr st) fun x a' w' hq => ?_
  cases x with
  | normal =>
    obtain ⟨m, e2, R2, H2, ⟨hlt, hI2⟩, hr2, st2⟩ := hq
    exact ⟨m, hlt, e2, R2, H2, hI2, hr2, st2⟩
  | _ => exact hq
theorem XK.round {I : Nat → Env → List Piece → List HP → Prop} {n : Nat} (m : Nat) (hm : m < n) (hI : I m e R H) : XK N w0 (fun a' w' => ∃ m e' R' H', (m < n ∧ I m e' R' H') ∧ Rep N e' a' ∧ St w0 R' H' w') e R H := fun _ _ hr st => ⟨m, e, R, H, ⟨hm, hI⟩, hr, st⟩
theorem XK.region {id : Nat} {l : List Oper} (h : XK N w0 (wpList P l.toArray Q l) e R H) : XK N w0 ((Code.region id l.toArray false).wp P Q) e R H := fun a w hr st => wp_region_lit (h a w hr st)
theorem XK.nil {ops : Array Oper} (h : XK N w0 (Q .normal) e R H) : XK N w0 (wpList P ops Q []) e R H := fun a w hr st => wpList_nil (h a w hr st)
end
end Go.Proofs.Ytbgibbbggajgaaa
