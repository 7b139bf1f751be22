/- The small logic: bools, and structs of plain cells, are the same. -/
import Derived.Test.YtbgibbbggajgaaaMore
import Derived.Laws.StructEq
namespace Go.Proofs.Ytbgibbbggajgaaa
set_option linter.all false
open Go.RowKit
def eqV : Value → Value → Bool
  | .int _ a, .int _ b => a == b
  | .bool a, .bool b => a == b
  | _, _ => false
def eqVs : List Value → List Value → Bool
  | [], [] => true
  | x :: xs, y :: ys => eqV x y && eqVs xs ys
  | _, _ => false
/-- the cells of a struct, each an int or a bool, one behind the other -/
def flatFs (P : Program) : List Field → Nat → List Value → List Value → Bool
  | [], _, [], [] => true
  | f :: fs, i, x :: xs, y :: ys => f.name != "_" && f.offset == i && (match P.underlying f.type, x, y with
      | some (.int _), .int kx _, .int ky _ => decide (kx = ky)
      | some .bool, .bool _, .bool _ => true
      | _, _, _ => false) && flatFs P fs (i + 1) xs ys
  | _, _, _, _ => false
section
variable {P : Program} {w : World}
theorem run_part_one {t : TypeId} {cs : Array Value} {i : Nat} {v : Value} {d : TypeDesc} (hu : P.underlying t = some d) (hd : (∃ k, d = .int k) ∨ d = .bool) (hx : cs[i]? = some v) : (part t cs i).run P w = .ok v w := by
  rcases hd with ⟨k, rfl⟩ | rfl <;> simp [part, isAgg, run_underlying hu, hx]
theorem run_eqFlat (d : Nat) (xs ys : Array Value) : ∀ (fs : List Field) (i : Nat), flatFs P fs i (xs.toList.drop i) (ys.toList.drop i) = true → (Op.eqFields (d + 1) xs ys fs).run P w = .ok (eqVs (xs.toList.drop i) (ys.toList.drop i)) w
  | [], i, h => by
    cases hx : xs.toList.drop i with
    | nil => cases hy : ys.toList.drop i with
      | nil => simp [Op.eqFields, eqVs]
      | cons y yr => rw [hx, hy] at h; simp [flatFs] at h
    | cons x xr => rw [hx] at h; simp [flatFs] at h
  | f :: fs, i, h => by
    cases hx : xs.toList.drop i with
    | nil => rw [hx] at h; simp [flatFs] at h
    | cons x xr =>
      cases hy : ys.toList.drop i with
      | nil => rw [hx, hy] at h; simp [flatFs] at h
      | cons y yr =>
        rw [hx, hy] at h
        simp only [flatFs, Bool.and_eq_true, bne_iff_ne, beq_iff_eq] at h
        obtain ⟨⟨⟨h1, h2⟩, h3⟩, h4⟩ := h
        have ex : xs[i]? = some x := by
          have : (xs.toList.drop i)[0]? = some x := by rw [hx]; rfl
          simpa using this
        have ey : ys[i]? = some y := by
          have : (ys.toList.drop i)[0]? = some y := by rw [hy]; rfl
          simpa using this
        have dx : xr = xs.toList.drop (i + 1) := by rw [← List.tail_drop, hx]; rfl
        have dy : yr = ys.toList.drop (i + 1) := by rw [← List.tail_drop, hy]; rfl
        subst dx
        subst dy
        have ih := run_eqFlat d xs ys fs (i + 1) h4
        have key : ∃ u, P.underlying f.type = some u ∧ ((∃ k, u = .int k) ∨ u = .bool) ∧ (Op.equalIn (d + 1) f.type x y).run P w = .ok (eqV x y) w := by
          split at h3
          · rename_i k kx a ky b hu
            have := of_decide_eq_true h3
            subst this
            exact ⟨_, hu, .inl ⟨_, rfl⟩, run_equalIn_int w d f.type kx _ a b hu⟩
          · rename_i a b hu
            exact ⟨_, hu, .inr rfl, run_equalIn_bool' w d f.type a b hu⟩
          · cases h3
        obtain ⟨u, hu, hk, he⟩ := key
        simp only [Op.eqFields, if_pos h1, Sem.run_bind, h2, run_part_one hu hk ex, run_part_one hu hk ey, Result.andThen_ok, he, Sem.run_ite, Sem.run_pure, ih, eqVs]
        cases eqV x y <;> simp
variable {N : Nat} {w0 : World} {e : Env} {R : List Piece} {H : List HP} {Q : Exit → Act → World → Prop} {ops : Array Oper} {rest : List Oper}
variable {d : Nat} {ty : TypeId} {pos : String} {aft : Array Edge}
def flatB (P : Program) (t : TypeId) (xs ys : List Value) : Bool := (match P.underlying t with
  | some (.struct fs) => flatFs P fs.toList 0 xs ys
  | _ => false) && !P.stoodInHeld t && !P.eqGuardType P.depth t
theorem run_eqS {t : TypeId} {xs ys : List Value} (h : flatB P t xs ys = true) : (Op.equal t (.agg xs.toArray) (.agg ys.toArray)).run P w = .ok (eqVs xs ys) w ∧ ∀ op x y, (eqGuard op t x y (.agg xs.toArray) (.agg ys.toArray)).run P w = .ok () w := by
  unfold flatB at h
  simp only [Bool.and_eq_true, Bool.not_eq_true'] at h
  obtain ⟨⟨h1, h2⟩, h3⟩ := h
  refine ⟨?_, fun op x y => run_eqGuard_agg w op t x y _ _ h3⟩
  split at h1
  · rename_i fs hu
    have hf : P.fieldsOf t = fs := by unfold Program.fieldsOf; rw [hu]
    have := run_equalIn_struct (P := P) w 9999 t xs.toArray ys.toArray (by rw [hf]; exact hu) h2
    unfold Op.equal Op.maxDepth
    rw [this, hf]
    have := run_eqFlat (P := P) (w := w) 9998 xs.toArray ys.toArray fs.toList 0 (by simpa using h1)
    simpa using this
  · cases h1
theorem does_eqlS {x y : Operand} {t u : TypeId} {xs ys : List Value} (hf : flatB P t xs ys = true) (hx : e.ev x = some (.agg xs.toArray)) (hy : e.ev y = some (.agg ys.toArray)) : Does P N w0 e R H ⟨some d, .binOp .eql t x y u, ty, pos, aft, none⟩ (.bool (eqVs xs ys)) := does_of (fun a w hr => by
  obtain ⟨h1, h2⟩ := run_eqS (w := w) hf
  simp [execOp, hr.ev hx, hr.ev hy, binOp, h1, h2])
theorem xk_eqlS {x y : Operand} {t u : TypeId} {xs ys : List Value} (hf : flatB P t xs ys = true) (hx : e.ev x = some (.agg xs.toArray)) (hy : e.ev y = some (.agg ys.toArray)) (hd : d < N) (k : XK N w0 (wpList P ops Q rest) ((d, .bool (eqVs xs ys)) :: e) R H) :
    XK N w0 (wpList P ops Q (⟨some d, .binOp .eql t x y u, ty, pos, aft, none⟩ :: rest)) e R H := xk_pure hd (fun a w hr => by
  obtain ⟨h1, h2⟩ := run_eqS (w := w) hf
  simp [execOp, hr.ev hx, hr.ev hy, binOp, h1, h2]) k
theorem xk_neqS {x y : Operand} {t u : TypeId} {xs ys : List Value} (hf : flatB P t xs ys = true) (hx : e.ev x = some (.agg xs.toArray)) (hy : e.ev y = some (.agg ys.toArray)) (hd : d < N) (k : XK N w0 (wpList P ops Q rest) ((d, .bool (!eqVs xs ys)) :: e) R H) :
    XK N w0 (wpList P ops Q (⟨some d, .binOp .neq t x y u, ty, pos, aft, none⟩ :: rest)) e R H := xk_pure hd (fun a w hr => by
  obtain ⟨h1, h2⟩ := run_eqS (w := w) hf
  simp [execOp, hr.ev hx, hr.ev hy, binOp, h1, h2]) k
theorem xk_eqlB {x y : Operand} {t u : TypeId} {b c : Bool} (ht : P.underlying t = some .bool) (hx : e.ev x = some (.bool b)) (hy : e.ev y = some (.bool c)) (hd : d < N) (k : XK N w0 (wpList P ops Q rest) ((d, .bool (b == c)) :: e) R H) :
    XK N w0 (wpList P ops Q (⟨some d, .binOp .eql t x y u, ty, pos, aft, none⟩ :: rest)) e R H := xk_pure hd (fun a w hr => by
  simp [execOp, hr.ev hx, hr.ev hy, eqGuard, binOp, run_equal_bool w t b c ht]) k
theorem xk_neqB {x y : Operand} {t u : TypeId} {b c : Bool} (ht : P.underlying t = some .bool) (hx : e.ev x = some (.bool b)) (hy : e.ev y = some (.bool c)) (hd : d < N) (k : XK N w0 (wpList P ops Q rest) ((d, .bool (decide (¬ b = c))) :: e) R H) :
    XK N w0 (wpList P ops Q (⟨some d, .binOp .neq t x y u, ty, pos, aft, none⟩ :: rest)) e R H := xk_pure hd (fun a w hr => by
  have he : (!(b == c)) = decide (¬ b = c) := by cases b <;> cases c <;> rfl
  simp [execOp, hr.ev hx, hr.ev hy, eqGuard, binOp, run_equal_bool w t b c ht, he]) k
end
end Go.Proofs.Ytbgibbbggajgaaa
