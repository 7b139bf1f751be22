/- The small logic: many blocks as one; calls that hand back blocks of their own; graphs, as rows of rows. -/
import Derived.Test.YtbgibbbggajgaaaMap
import Derived.Test.YtbgibbbggajgaaaChipK
namespace Go.Proofs.Ytbgibbbggajgaaa
set_option linter.all false
open Go.RowKit

def HP.emp : HP := ⟨fun _ _ => True, fun _ _ _ _ _ => trivial⟩
/-- each of ps, apart from each other -/
def HP.many (ps : List HP) : HP := ⟨fun F w => ∃ G : Nat → Nat → Prop, (∀ (i : Nat) (p : HP), ps[i]? = some p → p.sat (G i) w) ∧ (∀ i b, G i b → F b) ∧ ∀ i j b, i ≠ j → G i b → ¬ G j b,
  fun F w w' h hk => by
    obtain ⟨G, h1, h2, h3⟩ := h
    exact ⟨G, fun i p hp => p.loc _ _ _ (h1 i p hp) (fun b hb => hk b (h2 i b hb)), h2, h3⟩⟩
/-- these blocks, and what q shows, are new since w -/
def New (w : World) (hs : List HP) (q : Piece) : Prop := ∃ F : Nat → Nat → Prop, (∀ (i : Nat) (p : HP), hs[i]? = some p → p.sat (F i) q.w) ∧ (∀ i b, F i b → w.heap.size ≤ b ∧ b < q.w.heap.size ∧ ¬ q.Z b) ∧ (∀ i j b, i ≠ j → F i b → ¬ F j b) ∧ ∀ b, q.Z b → w.heap.size ≤ b ∧ b < q.w.heap.size
section
variable {P : Program} {N : Nat} {w0 w w' : World} {e : Env} {R : List Piece} {H : List HP} {Q : Exit → Act → World → Prop} {ops : Array Oper} {rest : List Oper}
variable {d : Nat} {ty : TypeId} {pos : String} {aft : Array Edge} {K : Act → World → Prop}
theorem St.take (st : St w0 R H w) {i j : Nat} {ps : List HP} {p : HP} (hj : H[j]? = some (HP.many ps)) (hi : ps[i]? = some p) : St w0 R (p :: H.set j (HP.many (ps.set i HP.emp))) w := by
  obtain ⟨Z, F, hz, hr, hs, hf, hd⟩ := st.ex
  obtain ⟨G, g1, g2, g3⟩ := hs j _ hj
  have hlt : j < H.length := by
    rcases Nat.lt_or_ge j H.length with h | h
    · exact h
    · rw [List.getElem?_eq_none h] at hj; cases hj
  refine ⟨st.os, st.tape, st.output, st.size, Z, fun k => match k with | 0 => G i | k + 1 => if k = j then (fun b => F j b ∧ ¬ G i b) else F k, hz, hr, fun k q hk => ?_, fun k b h => ?_, fun k l b hkl h1 h2 => ?_⟩
  · cases k with
    | zero => simp at hk; subst hk; exact g1 i _ hi
    | succ k =>
      rw [List.getElem?_cons_succ, List.getElem?_set] at hk
      split at hk
      · rename_i e; subst e
        first | (rw [if_pos hlt] at hk; cases hk) | cases hk
        simp only [if_true]
        refine ⟨fun l b => l ≠ i ∧ G l b, fun l q hl => ?_, fun l b h => ⟨g2 l b h.2, g3 l i b h.1 h.2⟩, fun l l' b hll h h' => g3 l l' b hll h.2 h'.2⟩
        rw [List.getElem?_set] at hl
        split at hl
        · split at hl
          · cases hl; trivial
          · cases hl
        · rename_i hne
          show q.sat (fun b => l ≠ i ∧ G l b) w
          rw [show (fun b => l ≠ i ∧ G l b) = G l by funext b; simp [Ne.symm hne]]
          exact g1 l q hl
      · rename_i e
        simp only [if_neg (Ne.symm e)]
        exact hs k q hk
  · cases k with
    | zero => exact hf j b (g2 i b h)
    | succ k =>
      dsimp only at h
      split at h
      · exact hf j b h.1
      · exact hf k b h
  · cases k with
    | zero => cases l with
      | zero => exact absurd rfl hkl
      | succ l =>
        dsimp only at h1 h2
        split at h2
        · exact h2.2 h1
        · rename_i hne; exact hd j l b (Ne.symm hne) (g2 i b h1) h2
    | succ k => cases l with
      | zero =>
        dsimp only at h1 h2
        split at h1
        · exact h1.2 h2
        · rename_i hne; exact hd j k b (Ne.symm hne) (g2 i b h2) h1
      | succ l =>
        dsimp only at h1 h2
        split at h1 <;> split at h2
        · omega
        · rename_i e1 e2; exact hd j l b (by omega) h1.1 h2
        · rename_i e1 e2; exact hd k j b (by omega) h1 h2.1
        · exact hd k l b (by omega) h1 h2
theorem St.give {p : HP} (st : St w0 R (p :: H) w) {i j : Nat} {ps : List HP} (hj : H[j]? = some (HP.many ps)) (hi : ps[i]? = some HP.emp) : St w0 R (H.set j (HP.many (ps.set i p))) w := by
  obtain ⟨Z, F, hz, hr, hs, hf, hd⟩ := st.ex
  obtain ⟨G, g1, g2, g3⟩ := hs (j + 1) _ (by simpa using hj)
  have hlt : j < H.length := by
    rcases Nat.lt_or_ge j H.length with h | h
    · exact h
    · rw [List.getElem?_eq_none h] at hj; cases hj
  have hil : i < ps.length := by
    rcases Nat.lt_or_ge i ps.length with h | h
    · exact h
    · rw [List.getElem?_eq_none h] at hi; cases hi
  refine ⟨st.os, st.tape, st.output, st.size, Z, fun k => if k = j then (fun b => F (j + 1) b ∨ F 0 b) else F (k + 1), hz, hr, fun k q hk => ?_, fun k b h => ?_, fun k l b hkl h1 h2 => ?_⟩
  · rw [List.getElem?_set] at hk
    split at hk
    · rename_i e; subst e
      first | (rw [if_pos hlt] at hk; cases hk) | cases hk
      simp only [if_true]
      refine ⟨fun l => if l = i then F 0 else G l, fun l q hl => ?_, fun l b h => ?_, fun l l' b hll h h' => ?_⟩
      · rw [List.getElem?_set] at hl
        split at hl
        · rename_i e; subst e
          first | (rw [if_pos hil] at hl; cases hl) | cases hl
          simpa using hs 0 p rfl
        · rename_i hne
          simp only [if_neg (Ne.symm hne)]
          exact g1 l q hl
      · dsimp only at h
        split at h
        · exact .inr h
        · exact .inl (g2 l b h)
      · dsimp only at h h'
        split at h <;> split at h'
        · omega
        · exact hd 0 (j + 1) b (by omega) h (g2 l' b h')
        · exact hd (j + 1) 0 b (by omega) (g2 l b h) h'
        · exact g3 l l' b hll h h'
    · rename_i e
      simp only [if_neg (Ne.symm e)]
      exact hs (k + 1) q (by simpa using hk)
  · dsimp only at h
    split at h
    · rcases h with h | h
      · exact hf _ b h
      · exact hf _ b h
    · exact hf _ b h
  · dsimp only at h1 h2
    split at h1 <;> split at h2
    · omega
    · rename_i e1 e2
      rcases h1 with h1 | h1
      · exact hd (j + 1) (l + 1) b (by omega) h1 h2
      · exact hd 0 (l + 1) b (by omega) h1 h2
    · rename_i e1 e2
      rcases h2 with h2 | h2
      · exact hd (k + 1) (j + 1) b (by omega) h1 h2
      · exact hd (k + 1) 0 b (by omega) h1 h2
    · exact hd (k + 1) (l + 1) b (by omega) h1 h2
theorem XK.take (j i : Nat) {ps : List HP} {p : HP} (hj : H[j]? = some (HP.many ps)) (hi : ps[i]? = some p) (h : XK N w0 K e R (p :: H.set j (HP.many (ps.set i HP.emp)))) : XK N w0 K e R H := fun a w hr st => h a w hr (st.take hj hi)
theorem XK.give (j i : Nat) {ps : List HP} {p : HP} (hj : H[j]? = some (HP.many ps)) (hi : ps[i]? = some HP.emp) (h : XK N w0 K e R (H.set j (HP.many (ps.set i p)))) : XK N w0 K e R (p :: H) := fun a w hr st => h a w hr (st.give hj hi)
/-- nils, as rows of the call's own, as many as one likes -/
theorem XK.nils (n : Nat) (t : TypeId) (sz : Nat) (h : XK N w0 K e R (HP.many (List.replicate n (HP.own t sz (.slice none 0 0) 0 [])) :: H)) : XK N w0 K e R H := fun a w hr st =>
  h a w hr (st.new (w' := w) (Below.refl _ _) (by
    refine ⟨fun _ _ => False, fun i p hp => ?_, fun _ _ h => h.elim, fun _ _ _ _ h => h.elim⟩
    rw [List.getElem?_replicate] at hp
    split at hp
    · cases hp; exact ⟨fun g hg => by simp [Value.ownBlock] at hg, World.ownsRow_nil _ _ _ _⟩
    · cases hp))
/-- what a call hands back -/
theorem St.newR (st : St w0 R H w) (hall : all w0 ∈ R) {q : Piece} (hq : q ∈ R) (hf : Fresh w0 q) : New w0 H ⟨w, q.Z⟩ := by
  obtain ⟨Z, F, hz, hr, hs, hff, hd⟩ := st.ex
  refine ⟨F, hs, fun i b hb => ⟨?_, (hff i b hb).2, fun hqz => (hff i b hb).1 (hr q hq b hqz).1⟩, hd, fun b hb => ⟨hf b hb, hz b (hr q hq b hb).1⟩⟩
  rcases Nat.lt_or_ge b w0.heap.size with h | h
  · exact absurd (hr _ hall b h).1 (hff i b hb).1
  · exact h
theorem St.got (st : St w0 R H w) {hs : List HP} {q : Piece} (hb : Below w.heap.size w q.w) (hn : New w hs q) : St w0 (q :: R) (hs ++ H) q.w ∧ Fresh w0 q := by
  have s' := st.call hb
  obtain ⟨Z, F, hz, hr, hsat, hf, hd⟩ := st.ex
  obtain ⟨G, g1, g2, g3, g4⟩ := hn
  refine ⟨⟨s'.os, s'.tape, s'.output, s'.size, fun b => Z b ∨ q.Z b, fun i => if i < hs.length then G i else F (i - hs.length), fun b h => ?_, fun p hp b h => ?_, fun i p hi => ?_, fun i b h => ?_, fun i j b hij h1 h2 => ?_⟩, fun b hb => Nat.le_trans st.size (g4 b hb).1⟩
  · rcases h with h | h
    · exact Nat.lt_of_lt_of_le (hz b h) hb.size
    · exact (g4 b h).2
  · simp only [List.mem_cons] at hp
    rcases hp with rfl | hp
    · exact ⟨.inr h, rfl⟩
    · exact ⟨.inl (hr p hp b h).1, (hb.block b (hz b (hr p hp b h).1)).trans (hr p hp b h).2⟩
  · dsimp only
    split
    · rename_i hlt
      rw [List.getElem?_append_left hlt] at hi
      exact g1 i p hi
    · rename_i hge
      rw [List.getElem?_append_right (by omega)] at hi
      exact p.loc _ _ _ (hsat _ p hi) (fun b hbb => hb.block b (hf _ b hbb).2)
  · dsimp only at h
    split at h
    · refine ⟨?_, (g2 i b h).2.1⟩
      rintro (hzb | hzb)
      · have := hz b hzb; have := (g2 i b h).1; omega
      · exact (g2 i b h).2.2 hzb
    · refine ⟨?_, Nat.lt_of_lt_of_le (hf _ b h).2 hb.size⟩
      rintro (hzb | hzb)
      · exact (hf _ b h).1 hzb
      · have := (g4 b hzb).1; have := (hf _ b h).2; omega
  · dsimp only at h1 h2
    split at h1 <;> split at h2
    · exact g3 i j b hij h1 h2
    · have := (g2 i b h1).1; have := (hf _ b h2).2; omega
    · have := (g2 j b h2).1; have := (hf _ b h1).2; omega
    · exact hd _ _ b (by omega) h1 h2
/-- a call that hands back blocks of its own, and what is written no more -/
theorem xk_callN {f : FuncId} {x : Operand} {args : List Operand} {fi ca vs : List Value} {tys : Array TypeId} (hf : callB P f = true) (hx : e.ev x = some (.func (.func f) fi.toArray ca.toArray)) (ha : e.evs args = some vs) (hd : d < N)
    (Ok : Value → List HP → Piece → Prop) (hc : ∀ w, St w0 R H w → Calls P f (fi ++ vs ++ ca).toArray w fun y w' => (∃ v hs q, y = .returned v ∧ q.w = w' ∧ Ok v hs q ∧ New w hs q) ∧ Below w.heap.size w w')
    (k : ∀ v hs q, Ok v hs q → Fresh w0 q → XK N w0 (wpList P ops Q rest) ((d, v) :: e) (q :: R) (hs ++ H)) :
    XK N w0 (wpList P ops Q (⟨some d, .call { callee := .value x, args := args.toArray, argTypes := tys }, ty, pos, aft, none⟩ :: rest)) e R H := fun a w hr st => wpList_plain rfl fun K hK => by
  unfold callB at hf
  cases hq : P.funcs[f]? with
  | none => simp [hq] at hf
  | some fn =>
    simp [hq] at hf
    obtain ⟨hf1, hf2⟩ := hf
    have hrun : (execOp a.eval (⟨some d, .call { callee := .value x, args := args.toArray, argTypes := tys }, ty, pos, aft, none⟩ : Oper)).run P w = .ok (.enter f (fi ++ vs ++ ca).toArray) w := by
      cases hb : fn.body with
      | none => simp [hb] at hf2
      | some c => simp [execOp, resolve, hr.ev hx, Deferred.ofValue, invoke, callFunc, hq, hf1, hb, hr.evs ha]
    unfold Oper.wp
    rw [hrun]
    refine (hc w st).mono fun y w' ⟨⟨v, hs, q, hy, hqw, hok, hnew⟩, hb⟩ => ?_
    subst hy
    subst hqw
    obtain ⟨st', hfr⟩ := st.got hb hnew
    exact hK _ _ (k v hs q hok hfr _ _ (hr.put hd v) st')
end
/-! graphs -/
def LstR (S : SlP) (l : List Int) (row : List Value) : Prop := ∃ A n k, row = [.slice A n k] ∧ n = l.length ∧ S 3 1 A n (intCells l)
theorem LstR.mono {S S' : SlP} (h : ∀ t sz A n xs, S t sz A n xs → S' t sz A n xs) {l : List Int} {r : List Value} (k : LstR S l r) : LstR S' l r := by
  obtain ⟨A, n, q, h1, h2, h3⟩ := k
  exact ⟨A, n, q, h1, h2, h _ _ _ _ _ h3⟩
/-- a row of rows of integers -/
def GrS (p : Piece) (A : Option Addr) (n : Nat) (g : List (List Int)) : Prop := RsR (slq p) (LstR (slq p)) 41 1 A n g
theorem GrS.le {p q : Piece} {A : Option Addr} {n : Nat} {g : List (List Int)} (h : GrS p A n g) (hl : p.Le q) : GrS q A n g := RsR.mono (slq_le hl) (fun _ _ => LstR.mono (slq_le hl)) h
theorem Rows.at_ {α : Type} {R : α → List Value → Prop} {sz : Nat} : ∀ {es : List α} {rs : List (List Value)} {i : Nat} {r : List Value}, Rows R sz es rs → rs[i]? = some r → ∃ e, es[i]? = some e ∧ r.length = sz ∧ R e r
  | [], [], i, r, _, h => by simp at h
  | e :: es, x :: rs, 0, r, h, hr => by simp at hr; subst hr; exact ⟨e, rfl, h.1, h.2.1⟩
  | e :: es, x :: rs, i + 1, r, h, hr => by simpa using Rows.at_ h.2.2 (by simpa using hr)
theorem Rows.all_len {α : Type} {R : α → List Value → Prop} {sz : Nat} {es : List α} {rs : List (List Value)} (h : Rows R sz es rs) : ∀ r ∈ rs, r.length = sz := fun r hr => by
  obtain ⟨i, hi⟩ := List.getElem?_of_mem hr
  obtain ⟨e, _, h1, _⟩ := h.at_ hi
  exact h1
/-- row k: its slice, and what it reads -/
theorem GrS.row {w : World} {A : Option Addr} {n : Nat} {g : List (List Int)} (h : GrS (all w) A n g) {k : Nat} {l : List Int} (hk : g[k]? = some l) :
    ∃ b off B c, A = some ⟨b, off, none⟩ ∧ ROc w b (off + k) (.slice B l.length c) ∧ SlS (all w) 1 B l.length (intCells l) := by
  obtain ⟨rows, h1, h2, h3⟩ := h
  obtain ⟨r, hr, hR, hf⟩ := h1.get hk
  obtain ⟨B, m, c, rfl, hm, hs⟩ := hR
  have hlt : k < n := by
    rw [h2]
    rcases Nat.lt_or_ge k g.length with h | h
    · exact h
    · rw [List.getElem?_eq_none h] at hk; cases hk
  obtain ⟨b, off, hA, hz, hc⟩ := SlS.at_ h3 hlt
  subst hm
  refine ⟨b, off, B, c, hA, ⟨hz, ?_⟩, hs⟩
  have h4 := hc 0 (.slice B l.length c) (by rw [hf 0 (by omega)]; rfl)
  rw [Nat.mul_one, Nat.add_zero] at h4
  exact h4
end Go.Proofs.Ytbgibbbggajgaaa
