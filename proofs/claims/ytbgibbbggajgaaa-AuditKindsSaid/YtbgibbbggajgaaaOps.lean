/- The small logic's rules, one for each operation. -/
import Derived.Test.YtbgibbbggajgaaaCore
namespace Go.Proofs.Ytbgibbbggajgaaa
set_option linter.all false
open Go.RowKit

theorem wrap_in {a : Int} (h : -9223372036854775808 ≤ a ∧ a ≤ 9223372036854775807) : IntKind.i64.wrap a = a := by
  rw [IntKind.wrap_i64]
  omega
theorem wrap_u (kd : IntKind) {a : Int} (hs : kd.signed = false) (h : 0 ≤ a ∧ a < 2 ^ kd.bits) : kd.wrap a = a := by
  unfold IntKind.wrap
  simp only [hs, Bool.false_and, Bool.false_eq_true, if_false]
  exact Int.emod_eq_of_lt h.1 h.2
theorem wrap_u8 {a : Int} (h : 0 ≤ a ∧ a < 256) : IntKind.u8.wrap a = a := wrap_u .u8 rfl h
theorem wrap_u32 {a : Int} (h : 0 ≤ a ∧ a < 4294967296) : IntKind.u32.wrap a = a := wrap_u .u32 rfl h
theorem wrap_u64 {a : Int} (h : 0 ≤ a ∧ a < 18446744073709551616) : IntKind.u64.wrap a = a := wrap_u .u64 rfl h
theorem quo_in {a b : Int} (h0 : 0 ≤ a) (h1 : a ≤ 9223372036854775807) (hb : 0 < b) : IntKind.i64.wrap (a.tdiv b) = a / b := by
  rw [Int.tdiv_eq_ediv_of_nonneg h0]
  refine wrap_in ⟨?_, ?_⟩
  · have := Int.ediv_nonneg h0 (Int.le_of_lt hb); omega
  · exact Int.le_trans (Int.ediv_le_self _ h0) h1
theorem rem_in {a b : Int} (h0 : 0 ≤ a) : a.tmod b = a % b := Int.tmod_eq_emod_of_nonneg h0

/-- where a field lies -/
def fieldOff (P : Program) (s : TypeId) (f : Nat) : Option Nat :=
  match P.underlying s with
  | some (.struct fs) => match fs[f]? with
    | some fl => match P.info? fl.type with
      | some i => if i.size = 0 then none else some fl.offset
      | none => none
    | none => none
  | _ => none
section
variable {P : Program} {N : Nat} {w0 : World} {e : Env} {R : List Piece} {H : List HP} {Q : Exit → Act → World → Prop} {ops : Array Oper} {rest : List Oper}
variable {d : Nat} {ty : TypeId} {pos : String} {aft : Array Edge}

theorem xk_run {o : Oper} (hg : o.guard = none) (h : ∀ a w, Rep N e a → St w0 R H w → ∃ v w', (execOp a.eval o).run P w = .ok (.value v) w' ∧ wpList P ops Q rest (a.put o.dst v) w') : XK N w0 (wpList P ops Q (o :: rest)) e R H := fun a w hr st => wpList_plain hg fun K hK => by
  obtain ⟨v, w', h1, h2⟩ := h a w hr st
  unfold Oper.wp
  rw [h1]
  exact hK _ _ h2
theorem xk_pure {op : Op} {v : Value} (hd : d < N) (h : ∀ a w, Rep N e a → (execOp a.eval ⟨some d, op, ty, pos, aft, none⟩).run P w = .ok (.value v) w)
    (k : XK N w0 (wpList P ops Q rest) ((d, v) :: e) R H) : XK N w0 (wpList P ops Q (⟨some d, op, ty, pos, aft, none⟩ :: rest)) e R H :=
  xk_run rfl fun a w hr st => ⟨v, w, h a w hr, k _ _ (hr.put hd v) st⟩

/-- the operation yields v, and does nothing else -/
def Does (P : Program) (N : Nat) (w0 : World) (e : Env) (R : List Piece) (H : List HP) (o : Oper) (v : Value) : Prop := ∀ a w, Rep N e a → St w0 R H w → (execOp a.eval o).run P w = .ok (.value v) w
theorem does_of {o : Oper} {v : Value} (h : ∀ a w, Rep N e a → (execOp a.eval o).run P w = .ok (.value v) w) : Does P N w0 e R H o v := fun a w hr _ => h a w hr

/-! guards -/
theorem xk_guardT {dst : Option Nat} {op : Op} {j : Nat} {want : Bool} {t : Nat} (hj : (ops[j]?).bind (·.dst) = some t) (ht : e.get t = some (.bool want))
    (k : XK N w0 (wpList P ops Q (⟨dst, op, ty, pos, aft, none⟩ :: rest)) e R H) : XK N w0 (wpList P ops Q (⟨dst, op, ty, pos, aft, some (j, want)⟩ :: rest)) e R H := fun a w hr st => by
  have h := k a w hr st
  have hw : Region.wanted (⟨dst, op, ty, pos, aft, some (j, want)⟩ : Oper) (yielded ops a.tmps) = true := by
    simp only [Region.wanted, yielded, hj, Option.bind_some, hr.get t _ ht]
    simp
  unfold wpList at h ⊢
  rw [if_pos hw]
  rw [if_pos (by simp [Region.wanted])] at h
  exact h
theorem xk_guardF {op : Op} {j : Nat} {want b : Bool} {t : Nat} (hj : (ops[j]?).bind (·.dst) = some t) (ht : e.get t = some (.bool b)) (hb : b = !want) (hd : d < N)
    (k : XK N w0 (wpList P ops Q rest) ((d, undef) :: e) R H) : XK N w0 (wpList P ops Q (⟨some d, op, ty, pos, aft, some (j, want)⟩ :: rest)) e R H := fun a w hr st => by
  have hw : Region.wanted (⟨some d, op, ty, pos, aft, some (j, want)⟩ : Oper) (yielded ops a.tmps) = false := by
    simp only [Region.wanted, yielded, hj, Option.bind_some, hr.get t _ ht, hb]
    simp
  unfold wpList
  rw [if_neg (by rw [hw]; simp)]
  exact k _ _ (hr.put hd undef) st
/-- a slot's truth, decided -/
theorem xk_split {K : Act → World → Prop} {t : Nat} {p : Prop} [Decidable p] (ht : e.get t = some (.bool (decide p))) (h1 : p → XK N w0 K ((t, .bool true) :: e) R H) (h2 : ¬ p → XK N w0 K ((t, .bool false) :: e) R H) : XK N w0 K e R H := by
  by_cases hp : p
  · rw [decide_eq_true hp] at ht
    refine fun a w hr st => h1 hp a w ⟨hr.size, hr.defers, fun u v hu => ?_⟩ st
    unfold Env.get at hu
    split at hu
    · rename_i hk
      have := Nat.eq_of_beq_eq_true hk
      subst this
      cases hu
      exact hr.get _ _ ht
    · exact hr.get _ _ hu
  · rw [decide_eq_false hp] at ht
    refine fun a w hr st => h2 hp a w ⟨hr.size, hr.defers, fun u v hu => ?_⟩ st
    unfold Env.get at hu
    split at hu
    · rename_i hk
      have := Nat.eq_of_beq_eq_true hk
      subst this
      cases hu
      exact hr.get _ _ ht
    · exact hr.get _ _ hu

/-! pure ones -/
theorem does_move {x : Operand} {v : Value} (hx : e.ev x = some v) : Does P N w0 e R H ⟨some d, .move x, ty, pos, aft, none⟩ (v) := does_of (fun a w hr => by simp [execOp, hr.ev hx])
theorem xk_move {x : Operand} {v : Value} (hx : e.ev x = some v) (hd : d < N) (k : XK N w0 (wpList P ops Q rest) ((d, v) :: e) R H) : XK N w0 (wpList P ops Q (⟨some d, .move x, ty, pos, aft, none⟩ :: rest)) e R H :=
  xk_pure hd (fun a w hr => by simp [execOp, hr.ev hx]) k
theorem does_assign {x : Operand} {v : Value} (hx : e.ev x = some v) : Does P N w0 e R H ⟨some d, .assign x, ty, pos, aft, none⟩ (v) := does_of (fun a w hr => by simp [execOp, hr.ev hx])
theorem xk_assign {x : Operand} {v : Value} (hx : e.ev x = some v) (hd : d < N) (k : XK N w0 (wpList P ops Q rest) ((d, v) :: e) R H) : XK N w0 (wpList P ops Q (⟨some d, .assign x, ty, pos, aft, none⟩ :: rest)) e R H :=
  xk_pure hd (fun a w hr => by simp [execOp, hr.ev hx]) k
theorem does_pickT {c x y : Operand} {v : Value} (hc : e.ev c = some (.bool true)) (hx : e.ev x = some v) : Does P N w0 e R H ⟨some d, .pick c x y, ty, pos, aft, none⟩ (v) := does_of (fun a w hr => by simp [execOp, hr.ev hc, hr.ev hx, asBool])
theorem xk_pickT {c x y : Operand} {v : Value} (hc : e.ev c = some (.bool true)) (hx : e.ev x = some v) (hd : d < N) (k : XK N w0 (wpList P ops Q rest) ((d, v) :: e) R H) : XK N w0 (wpList P ops Q (⟨some d, .pick c x y, ty, pos, aft, none⟩ :: rest)) e R H :=
  xk_pure hd (fun a w hr => by simp [execOp, hr.ev hc, hr.ev hx, asBool]) k
theorem does_pickF {c x y : Operand} {v : Value} (hc : e.ev c = some (.bool false)) (hy : e.ev y = some v) : Does P N w0 e R H ⟨some d, .pick c x y, ty, pos, aft, none⟩ (v) := does_of (fun a w hr => by simp [execOp, hr.ev hc, hr.ev hy, asBool])
theorem xk_pickF {c x y : Operand} {v : Value} (hc : e.ev c = some (.bool false)) (hy : e.ev y = some v) (hd : d < N) (k : XK N w0 (wpList P ops Q rest) ((d, v) :: e) R H) : XK N w0 (wpList P ops Q (⟨some d, .pick c x y, ty, pos, aft, none⟩ :: rest)) e R H :=
  xk_pure hd (fun a w hr => by simp [execOp, hr.ev hc, hr.ev hy, asBool]) k
theorem does_not {x : Operand} {b : Bool} {t : TypeId} (hx : e.ev x = some (.bool b)) : Does P N w0 e R H ⟨some d, .unOp .not t x, ty, pos, aft, none⟩ (.bool (!b)) := does_of (fun a w hr => by simp [execOp, hr.ev hx, Op.unary])
theorem xk_not {x : Operand} {b : Bool} {t : TypeId} (hx : e.ev x = some (.bool b)) (hd : d < N) (k : XK N w0 (wpList P ops Q rest) ((d, .bool (!b)) :: e) R H) : XK N w0 (wpList P ops Q (⟨some d, .unOp .not t x, ty, pos, aft, none⟩ :: rest)) e R H :=
  xk_pure hd (fun a w hr => by simp [execOp, hr.ev hx, Op.unary]) k
theorem does_notD {x : Operand} {p : Prop} [Decidable p] {t : TypeId} (hx : e.ev x = some (.bool (decide p))) : Does P N w0 e R H ⟨some d, .unOp .not t x, ty, pos, aft, none⟩ (.bool (decide (¬ p))) := does_of (fun a w hr => by simp [execOp, hr.ev hx, Op.unary])
theorem xk_notD {x : Operand} {p : Prop} [Decidable p] {t : TypeId} (hx : e.ev x = some (.bool (decide p))) (hd : d < N) (k : XK N w0 (wpList P ops Q rest) ((d, .bool (decide (¬ p))) :: e) R H) : XK N w0 (wpList P ops Q (⟨some d, .unOp .not t x, ty, pos, aft, none⟩ :: rest)) e R H :=
  xk_pure hd (fun a w hr => by simp [execOp, hr.ev hx, Op.unary]) k
theorem does_neg {x : Operand} {kd : IntKind} {i c : Int} {t : TypeId} (hx : e.ev x = some (.int kd i)) (hw : kd.wrap (0 - i) = c) : Does P N w0 e R H ⟨some d, .unOp .neg t x, ty, pos, aft, none⟩ (.int kd c) := does_of (fun a w hr => by simp [execOp, hr.ev hx, Op.unary, Op.intArith, ← hw])
theorem xk_neg {x : Operand} {kd : IntKind} {i c : Int} {t : TypeId} (hx : e.ev x = some (.int kd i)) (hw : kd.wrap (0 - i) = c) (hd : d < N) (k : XK N w0 (wpList P ops Q rest) ((d, .int kd c) :: e) R H) : XK N w0 (wpList P ops Q (⟨some d, .unOp .neg t x, ty, pos, aft, none⟩ :: rest)) e R H :=
  xk_pure hd (fun a w hr => by simp [execOp, hr.ev hx, Op.unary, Op.intArith, ← hw]) k
section
variable {x y : Operand} {kd : IntKind} {i j c : Int} {t u : TypeId} (hx : e.ev x = some (.int kd i)) (hy : e.ev y = some (.int kd j))
include hx hy
theorem does_add (hw : kd.wrap (i + j) = c) : Does P N w0 e R H ⟨some d, .binOp .add t x y u, ty, pos, aft, none⟩ (.int kd c) := does_of (fun a w hr => by simp [execOp, hr.ev hx, hr.ev hy, eqGuard, binOp, Op.intArith, hw])
theorem xk_add (hw : kd.wrap (i + j) = c) (hd : d < N) (k : XK N w0 (wpList P ops Q rest) ((d, .int kd c) :: e) R H) : XK N w0 (wpList P ops Q (⟨some d, .binOp .add t x y u, ty, pos, aft, none⟩ :: rest)) e R H :=
  xk_pure hd (fun a w hr => by simp [execOp, hr.ev hx, hr.ev hy, eqGuard, binOp, Op.intArith, hw]) k
theorem does_sub (hw : kd.wrap (i - j) = c) : Does P N w0 e R H ⟨some d, .binOp .sub t x y u, ty, pos, aft, none⟩ (.int kd c) := does_of (fun a w hr => by simp [execOp, hr.ev hx, hr.ev hy, eqGuard, binOp, Op.intArith, hw])
theorem xk_sub (hw : kd.wrap (i - j) = c) (hd : d < N) (k : XK N w0 (wpList P ops Q rest) ((d, .int kd c) :: e) R H) : XK N w0 (wpList P ops Q (⟨some d, .binOp .sub t x y u, ty, pos, aft, none⟩ :: rest)) e R H :=
  xk_pure hd (fun a w hr => by simp [execOp, hr.ev hx, hr.ev hy, eqGuard, binOp, Op.intArith, hw]) k
theorem does_mul (hw : kd.wrap (i * j) = c) : Does P N w0 e R H ⟨some d, .binOp .mul t x y u, ty, pos, aft, none⟩ (.int kd c) := does_of (fun a w hr => by simp [execOp, hr.ev hx, hr.ev hy, eqGuard, binOp, Op.intArith, hw])
theorem xk_mul (hw : kd.wrap (i * j) = c) (hd : d < N) (k : XK N w0 (wpList P ops Q rest) ((d, .int kd c) :: e) R H) : XK N w0 (wpList P ops Q (⟨some d, .binOp .mul t x y u, ty, pos, aft, none⟩ :: rest)) e R H :=
  xk_pure hd (fun a w hr => by simp [execOp, hr.ev hx, hr.ev hy, eqGuard, binOp, Op.intArith, hw]) k
theorem does_quo (h0 : j ≠ 0) (hw : kd.wrap (i.tdiv j) = c) : Does P N w0 e R H ⟨some d, .binOp .quo t x y u, ty, pos, aft, none⟩ (.int kd c) := does_of (fun a w hr => by simp [execOp, hr.ev hx, hr.ev hy, eqGuard, binOp, Op.intDiv, h0, hw])
theorem xk_quo (h0 : j ≠ 0) (hw : kd.wrap (i.tdiv j) = c) (hd : d < N) (k : XK N w0 (wpList P ops Q rest) ((d, .int kd c) :: e) R H) : XK N w0 (wpList P ops Q (⟨some d, .binOp .quo t x y u, ty, pos, aft, none⟩ :: rest)) e R H :=
  xk_pure hd (fun a w hr => by simp [execOp, hr.ev hx, hr.ev hy, eqGuard, binOp, Op.intDiv, h0, hw]) k
theorem does_rem (h0 : j ≠ 0) (hw : i.tmod j = c) : Does P N w0 e R H ⟨some d, .binOp .rem t x y u, ty, pos, aft, none⟩ (.int kd c) := does_of (fun a w hr => by simp [execOp, hr.ev hx, hr.ev hy, eqGuard, binOp, Op.intDiv, h0, hw])
theorem xk_rem (h0 : j ≠ 0) (hw : i.tmod j = c) (hd : d < N) (k : XK N w0 (wpList P ops Q rest) ((d, .int kd c) :: e) R H) : XK N w0 (wpList P ops Q (⟨some d, .binOp .rem t x y u, ty, pos, aft, none⟩ :: rest)) e R H :=
  xk_pure hd (fun a w hr => by simp [execOp, hr.ev hx, hr.ev hy, eqGuard, binOp, Op.intDiv, h0, hw]) k
theorem does_bits {op : BinOp} (ho : ∀ w, (Op.intBits op kd i j).run P w = .ok (.int kd c) w) (hop : op = .and ∨ op = .or ∨ op = .xor ∨ op = .andNot) : Does P N w0 e R H ⟨some d, .binOp op t x y u, ty, pos, aft, none⟩ (.int kd c) := does_of (fun a w hr => by rcases hop with rfl | rfl | rfl | rfl <;> simp [execOp, hr.ev hx, hr.ev hy, eqGuard, binOp, ho])
theorem xk_bits {op : BinOp} (ho : ∀ w, (Op.intBits op kd i j).run P w = .ok (.int kd c) w) (hop : op = .and ∨ op = .or ∨ op = .xor ∨ op = .andNot) (hd : d < N) (k : XK N w0 (wpList P ops Q rest) ((d, .int kd c) :: e) R H) : XK N w0 (wpList P ops Q (⟨some d, .binOp op t x y u, ty, pos, aft, none⟩ :: rest)) e R H :=
  xk_pure hd (fun a w hr => by rcases hop with rfl | rfl | rfl | rfl <;> simp [execOp, hr.ev hx, hr.ev hy, eqGuard, binOp, ho]) k
theorem does_lss : Does P N w0 e R H ⟨some d, .binOp .lss t x y u, ty, pos, aft, none⟩ (.bool (decide (i < j))) := does_of (fun a w hr => by simp [execOp, hr.ev hx, hr.ev hy, eqGuard, binOp, Op.intCmp])
theorem xk_lss (hd : d < N) (k : XK N w0 (wpList P ops Q rest) ((d, .bool (decide (i < j))) :: e) R H) : XK N w0 (wpList P ops Q (⟨some d, .binOp .lss t x y u, ty, pos, aft, none⟩ :: rest)) e R H :=
  xk_pure hd (fun a w hr => by simp [execOp, hr.ev hx, hr.ev hy, eqGuard, binOp, Op.intCmp]) k
theorem does_leq : Does P N w0 e R H ⟨some d, .binOp .leq t x y u, ty, pos, aft, none⟩ (.bool (decide (i ≤ j))) := does_of (fun a w hr => by simp [execOp, hr.ev hx, hr.ev hy, eqGuard, binOp, Op.intCmp])
theorem xk_leq (hd : d < N) (k : XK N w0 (wpList P ops Q rest) ((d, .bool (decide (i ≤ j))) :: e) R H) : XK N w0 (wpList P ops Q (⟨some d, .binOp .leq t x y u, ty, pos, aft, none⟩ :: rest)) e R H :=
  xk_pure hd (fun a w hr => by simp [execOp, hr.ev hx, hr.ev hy, eqGuard, binOp, Op.intCmp]) k
theorem does_gtr : Does P N w0 e R H ⟨some d, .binOp .gtr t x y u, ty, pos, aft, none⟩ (.bool (decide (j < i))) := does_of (fun a w hr => by simp [execOp, hr.ev hx, hr.ev hy, eqGuard, binOp, Op.intCmp])
theorem xk_gtr (hd : d < N) (k : XK N w0 (wpList P ops Q rest) ((d, .bool (decide (j < i))) :: e) R H) : XK N w0 (wpList P ops Q (⟨some d, .binOp .gtr t x y u, ty, pos, aft, none⟩ :: rest)) e R H :=
  xk_pure hd (fun a w hr => by simp [execOp, hr.ev hx, hr.ev hy, eqGuard, binOp, Op.intCmp]) k
theorem does_geq : Does P N w0 e R H ⟨some d, .binOp .geq t x y u, ty, pos, aft, none⟩ (.bool (decide (j ≤ i))) := does_of (fun a w hr => by simp [execOp, hr.ev hx, hr.ev hy, eqGuard, binOp, Op.intCmp])
theorem xk_geq (hd : d < N) (k : XK N w0 (wpList P ops Q rest) ((d, .bool (decide (j ≤ i))) :: e) R H) : XK N w0 (wpList P ops Q (⟨some d, .binOp .geq t x y u, ty, pos, aft, none⟩ :: rest)) e R H :=
  xk_pure hd (fun a w hr => by simp [execOp, hr.ev hx, hr.ev hy, eqGuard, binOp, Op.intCmp]) k
theorem does_eql : Does P N w0 e R H ⟨some d, .binOp .eql t x y u, ty, pos, aft, none⟩ (.bool (decide (i = j))) := does_of (fun a w hr => by
    have he : (i == j) = decide (i = j) := by by_cases h : i = j <;> simp [h]
    simp [execOp, hr.ev hx, hr.ev hy, eqGuard, binOp, Op.intCmp, he])
theorem xk_eql (hd : d < N) (k : XK N w0 (wpList P ops Q rest) ((d, .bool (decide (i = j))) :: e) R H) : XK N w0 (wpList P ops Q (⟨some d, .binOp .eql t x y u, ty, pos, aft, none⟩ :: rest)) e R H :=
  xk_pure hd (fun a w hr => by
    have he : (i == j) = decide (i = j) := by by_cases h : i = j <;> simp [h]
    simp [execOp, hr.ev hx, hr.ev hy, eqGuard, binOp, Op.intCmp, he]) k
theorem does_neq : Does P N w0 e R H ⟨some d, .binOp .neq t x y u, ty, pos, aft, none⟩ (.bool (decide (¬ i = j))) := does_of (fun a w hr => by
    have he : (i != j) = decide (¬ i = j) := by by_cases h : i = j <;> simp [h]
    simp [execOp, hr.ev hx, hr.ev hy, eqGuard, binOp, Op.intCmp, he])
theorem xk_neq (hd : d < N) (k : XK N w0 (wpList P ops Q rest) ((d, .bool (decide (¬ i = j))) :: e) R H) : XK N w0 (wpList P ops Q (⟨some d, .binOp .neq t x y u, ty, pos, aft, none⟩ :: rest)) e R H :=
  xk_pure hd (fun a w hr => by
    have he : (i != j) = decide (¬ i = j) := by by_cases h : i = j <;> simp [h]
    simp [execOp, hr.ev hx, hr.ev hy, eqGuard, binOp, Op.intCmp, he]) k
end
section
variable {x y : Operand} {kd kd' : IntKind} {i j c : Int} {t u : TypeId} (hx : e.ev x = some (.int kd i)) (hy : e.ev y = some (.int kd' j))
include hx hy
theorem does_shl (h0 : 0 ≤ j) (hw : kd.wrap (i * 2 ^ min j.toNat kd.bits) = c) : Does P N w0 e R H ⟨some d, .binOp .shl t x y u, ty, pos, aft, none⟩ (.int kd c) := does_of (fun a w hr => by simp [execOp, hr.ev hx, hr.ev hy, eqGuard, binOp, Op.shift, show ¬ j < 0 by omega, hw])
theorem xk_shl (h0 : 0 ≤ j) (hw : kd.wrap (i * 2 ^ min j.toNat kd.bits) = c) (hd : d < N) (k : XK N w0 (wpList P ops Q rest) ((d, .int kd c) :: e) R H) : XK N w0 (wpList P ops Q (⟨some d, .binOp .shl t x y u, ty, pos, aft, none⟩ :: rest)) e R H :=
  xk_pure hd (fun a w hr => by simp [execOp, hr.ev hx, hr.ev hy, eqGuard, binOp, Op.shift, show ¬ j < 0 by omega, hw]) k
theorem does_shr (h0 : 0 ≤ j) (hw : i.fdiv (2 ^ min j.toNat kd.bits) = c) : Does P N w0 e R H ⟨some d, .binOp .shr t x y u, ty, pos, aft, none⟩ (.int kd c) := does_of (fun a w hr => by simp [execOp, hr.ev hx, hr.ev hy, eqGuard, binOp, Op.shift, show ¬ j < 0 by omega, hw])
theorem xk_shr (h0 : 0 ≤ j) (hw : i.fdiv (2 ^ min j.toNat kd.bits) = c) (hd : d < N) (k : XK N w0 (wpList P ops Q rest) ((d, .int kd c) :: e) R H) : XK N w0 (wpList P ops Q (⟨some d, .binOp .shr t x y u, ty, pos, aft, none⟩ :: rest)) e R H :=
  xk_pure hd (fun a w hr => by simp [execOp, hr.ev hx, hr.ev hy, eqGuard, binOp, Op.shift, show ¬ j < 0 by omega, hw]) k
end
theorem does_conv {x : Operand} {kd ks : IntKind} {i c : Int} {src dst : TypeId} {ds : TypeDesc} (hs : P.underlying src = some ds) (ht : P.underlying dst = some (.int kd)) (hx : e.ev x = some (.int ks i)) (hw : kd.wrap i = c) : Does P N w0 e R H ⟨some d, .convert src dst x, ty, pos, aft, none⟩ (.int kd c) := does_of (fun a w hr => by
    simp only [execOp, hr.ev hx, convert, Sem.run_bind, run_underlying hs, run_underlying ht, Result.andThen_ok]
    cases ds <;> simp [Conv.intToInt, hw])
theorem xk_conv {x : Operand} {kd ks : IntKind} {i c : Int} {src dst : TypeId} {ds : TypeDesc} (hs : P.underlying src = some ds) (ht : P.underlying dst = some (.int kd)) (hx : e.ev x = some (.int ks i)) (hw : kd.wrap i = c) (hd : d < N)
    (k : XK N w0 (wpList P ops Q rest) ((d, .int kd c) :: e) R H) : XK N w0 (wpList P ops Q (⟨some d, .convert src dst x, ty, pos, aft, none⟩ :: rest)) e R H :=
  xk_pure hd (fun a w hr => by
    simp only [execOp, hr.ev hx, convert, Sem.run_bind, run_underlying hs, run_underlying ht, Result.andThen_ok]
    cases ds <;> simp [Conv.intToInt, hw]) k
theorem does_extract {x : Operand} {vs : Array Value} {i : Nat} {v : Value} (hx : e.ev x = some (.tuple vs)) (hi : vs[i]? = some v) : Does P N w0 e R H ⟨some d, .extract x i, ty, pos, aft, none⟩ (v) := does_of (fun a w hr => by simp [execOp, hr.ev hx, Instr.extract, hi])
theorem xk_extract {x : Operand} {vs : Array Value} {i : Nat} {v : Value} (hx : e.ev x = some (.tuple vs)) (hi : vs[i]? = some v) (hd : d < N) (k : XK N w0 (wpList P ops Q rest) ((d, v) :: e) R H) : XK N w0 (wpList P ops Q (⟨some d, .extract x i, ty, pos, aft, none⟩ :: rest)) e R H :=
  xk_pure hd (fun a w hr => by simp [execOp, hr.ev hx, Instr.extract, hi]) k
def Env.evs (e : Env) : List Operand → Option (List Value)
  | [] => some []
  | x :: xs => match e.ev x, e.evs xs with
    | some v, some vs => some (v :: vs)
    | _, _ => none
theorem Rep.evs {a : Act} (h : Rep N e a) : ∀ {xs : List Operand} {vs : List Value}, e.evs xs = some vs → xs.map a.eval = vs
  | [], vs, hx => by cases hx; rfl
  | x :: xs, vs, hx => by
    unfold Env.evs at hx
    split at hx
    · rename_i v r h1 h2
      cases hx
      rw [List.map_cons, h.ev h1, h.evs h2]
    · cases hx
theorem does_func {fn : Fn} {first captured : List Operand} {vf vc : List Value} (h1 : e.evs first = some vf) (h2 : e.evs captured = some vc) : Does P N w0 e R H ⟨some d, .makeFunc fn first.toArray captured.toArray, ty, pos, aft, none⟩ (.func fn vf.toArray vc.toArray) := does_of (fun a w hr => by simp [execOp, Instr.makeFunc, hr.evs h1, hr.evs h2])
theorem xk_func {fn : Fn} {first captured : List Operand} {vf vc : List Value} (h1 : e.evs first = some vf) (h2 : e.evs captured = some vc) (hd : d < N) (k : XK N w0 (wpList P ops Q rest) ((d, .func fn vf.toArray vc.toArray) :: e) R H) :
    XK N w0 (wpList P ops Q (⟨some d, .makeFunc fn first.toArray captured.toArray, ty, pos, aft, none⟩ :: rest)) e R H :=
  xk_pure hd (fun a w hr => by simp [execOp, Instr.makeFunc, hr.evs h1, hr.evs h2]) k
theorem does_len {x : Operand} {t el : TypeId} {A : Option Addr} {n c : Nat} (ht : P.underlying t = some (.slice el)) (hx : e.ev x = some (.slice A n c)) : Does P N w0 e R H ⟨some d, .call { callee := .builtin .len, args := #[x], argTypes := #[t] }, ty, pos, aft, none⟩ (.int .i64 n) := does_of (fun a w hr => by simp [execOp, resolve, invoke, builtin, hr.ev hx, Builtin.len_, run_underlying ht, goInt])
theorem xk_len {x : Operand} {t el : TypeId} {A : Option Addr} {n c : Nat} (ht : P.underlying t = some (.slice el)) (hx : e.ev x = some (.slice A n c)) (hd : d < N) (k : XK N w0 (wpList P ops Q rest) ((d, .int .i64 n) :: e) R H) :
    XK N w0 (wpList P ops Q (⟨some d, .call { callee := .builtin .len, args := #[x], argTypes := #[t] }, ty, pos, aft, none⟩ :: rest)) e R H :=
  xk_pure hd (fun a w hr => by simp [execOp, resolve, invoke, builtin, hr.ev hx, Builtin.len_, run_underlying ht, goInt]) k
theorem does_lenS {x : Operand} {t : TypeId} {s : ByteArray} (ht : P.underlying t = some .string) (hx : e.ev x = some (.string s)) : Does P N w0 e R H ⟨some d, .call { callee := .builtin .len, args := #[x], argTypes := #[t] }, ty, pos, aft, none⟩ (.int .i64 s.size) := does_of (fun a w hr => by simp [execOp, resolve, invoke, builtin, hr.ev hx, Builtin.len_, run_underlying ht, goInt])
theorem xk_lenS {x : Operand} {t : TypeId} {s : ByteArray} (ht : P.underlying t = some .string) (hx : e.ev x = some (.string s)) (hd : d < N) (k : XK N w0 (wpList P ops Q rest) ((d, .int .i64 s.size) :: e) R H) :
    XK N w0 (wpList P ops Q (⟨some d, .call { callee := .builtin .len, args := #[x], argTypes := #[t] }, ty, pos, aft, none⟩ :: rest)) e R H :=
  xk_pure hd (fun a w hr => by simp [execOp, resolve, invoke, builtin, hr.ev hx, Builtin.len_, run_underlying ht, goInt]) k
/-- an element's address -/
theorem does_at (i o : Nat) {x ix : Operand} {t el : TypeId} {b off n c sz : Nat} {kd : IntKind} {j : Int} (ht : P.underlying t = some (.slice el)) (hs : (P.info? el).map (·.size) = some sz) (hx : e.ev x = some (.slice (some ⟨b, off, none⟩) n c)) (hi : e.ev ix = some (.int kd j)) (hj : j = (i : Int)) (hlt : i < n) (ho : off + i * sz = o) : Does P N w0 e R H ⟨some d, .indexAddr t x ix, ty, pos, aft, none⟩ (.pointer (some ⟨b, o, none⟩)) := does_of (fun a w hr => by
    subst hj
    subst ho
    obtain ⟨i0, hi0, hz⟩ := Option.map_eq_some_iff.1 hs
    have hadd : (⟨b, off, none⟩ : Addr).add (i * sz) = ⟨b, off + i * sz, none⟩ := by unfold Addr.add; split <;> simp_all
    simp [execOp, hr.ev hx, hr.ev hi, Instr.indexAt, asIntOf, run_underlying ht, sizeOf, typeInfo, hi0, hz, hlt, hadd])
theorem xk_at (i o : Nat) {x ix : Operand} {t el : TypeId} {b off n c sz : Nat} {kd : IntKind} {j : Int} (ht : P.underlying t = some (.slice el)) (hs : (P.info? el).map (·.size) = some sz) (hx : e.ev x = some (.slice (some ⟨b, off, none⟩) n c)) (hi : e.ev ix = some (.int kd j)) (hj : j = (i : Int)) (hlt : i < n) (ho : off + i * sz = o) (hd : d < N)
    (k : XK N w0 (wpList P ops Q rest) ((d, .pointer (some ⟨b, o, none⟩)) :: e) R H) : XK N w0 (wpList P ops Q (⟨some d, .indexAddr t x ix, ty, pos, aft, none⟩ :: rest)) e R H :=
  xk_pure hd (fun a w hr => by
    subst hj
    subst ho
    obtain ⟨i0, hi0, hz⟩ := Option.map_eq_some_iff.1 hs
    have hadd : (⟨b, off, none⟩ : Addr).add (i * sz) = ⟨b, off + i * sz, none⟩ := by unfold Addr.add; split <;> simp_all
    simp [execOp, hr.ev hx, hr.ev hi, Instr.indexAt, asIntOf, run_underlying ht, sizeOf, typeInfo, hi0, hz, hlt, hadd]) k
/-- an element's address in an array that is pointed to -/
theorem does_atA (i o : Nat) {x ix : Operand} {t el : TypeId} {b off n sz : Nat} {kd : IntKind} {j : Int} (ht : P.underlying t = some (.array n el)) (hs : (P.info? el).map (·.size) = some sz) (hx : e.ev x = some (.pointer (some ⟨b, off, none⟩))) (hi : e.ev ix = some (.int kd j)) (hj : j = (i : Int)) (hlt : i < n) (ho : off + i * sz = o) : Does P N w0 e R H ⟨some d, .indexAddr t x ix, ty, pos, aft, none⟩ (.pointer (some ⟨b, o, none⟩)) := does_of (fun a w hr => by
    subst hj
    subst ho
    obtain ⟨i0, hi0, hz⟩ := Option.map_eq_some_iff.1 hs
    have hadd : (⟨b, off, none⟩ : Addr).add (i * sz) = ⟨b, off + i * sz, none⟩ := by unfold Addr.add; split <;> simp_all
    simp [execOp, hr.ev hx, hr.ev hi, Instr.indexAt, asIntOf, run_underlying ht, sizeOf, typeInfo, hi0, hz, hlt, hadd, Instr.sureAddr])
theorem xk_atA (i o : Nat) {x ix : Operand} {t el : TypeId} {b off n sz : Nat} {kd : IntKind} {j : Int} (ht : P.underlying t = some (.array n el)) (hs : (P.info? el).map (·.size) = some sz) (hx : e.ev x = some (.pointer (some ⟨b, off, none⟩))) (hi : e.ev ix = some (.int kd j)) (hj : j = (i : Int)) (hlt : i < n) (ho : off + i * sz = o) (hd : d < N)
    (k : XK N w0 (wpList P ops Q rest) ((d, .pointer (some ⟨b, o, none⟩)) :: e) R H) : XK N w0 (wpList P ops Q (⟨some d, .indexAddr t x ix, ty, pos, aft, none⟩ :: rest)) e R H :=
  xk_pure hd (fun a w hr => by
    subst hj
    subst ho
    obtain ⟨i0, hi0, hz⟩ := Option.map_eq_some_iff.1 hs
    have hadd : (⟨b, off, none⟩ : Addr).add (i * sz) = ⟨b, off + i * sz, none⟩ := by unfold Addr.add; split <;> simp_all
    simp [execOp, hr.ev hx, hr.ev hi, Instr.indexAt, asIntOf, run_underlying ht, sizeOf, typeInfo, hi0, hz, hlt, hadd, Instr.sureAddr]) k
/-- a byte of a string -/
theorem does_byte (i : Nat) {x ix : Operand} {t : TypeId} {s : ByteArray} {kd : IntKind} {j : Int} {b : UInt8} (ht : P.underlying t = some .string) (hx : e.ev x = some (.string s)) (hi : e.ev ix = some (.int kd j)) (hj : j = (i : Int)) (hb : s[i]? = some b) : Does P N w0 e R H ⟨some d, .index t x ix, ty, pos, aft, none⟩ (.int .u8 b.toNat) := does_of (fun a w hr => by
    subst hj
    simp [execOp, hr.ev hx, hr.ev hi, Instr.index, asIntOf, run_underlying ht, hb])
theorem xk_byte (i : Nat) {x ix : Operand} {t : TypeId} {s : ByteArray} {kd : IntKind} {j : Int} {b : UInt8} (ht : P.underlying t = some .string) (hx : e.ev x = some (.string s)) (hi : e.ev ix = some (.int kd j)) (hj : j = (i : Int)) (hb : s[i]? = some b) (hd : d < N)
    (k : XK N w0 (wpList P ops Q rest) ((d, .int .u8 b.toNat) :: e) R H) : XK N w0 (wpList P ops Q (⟨some d, .index t x ix, ty, pos, aft, none⟩ :: rest)) e R H :=
  xk_pure hd (fun a w hr => by
    subst hj
    simp [execOp, hr.ev hx, hr.ev hi, Instr.index, asIntOf, run_underlying ht, hb]) k
theorem does_field {x : Operand} {s : TypeId} {f off b o : Nat} (ho : fieldOff P s f = some off) (hx : e.ev x = some (.pointer (some ⟨b, o, none⟩))) : Does P N w0 e R H ⟨some d, .fieldAddr s x f, ty, pos, aft, none⟩ (.pointer (some ⟨b, o + off, none⟩)) := does_of (fun a w hr => by
    have hadd : (⟨b, o, none⟩ : Addr).add off = ⟨b, o + off, none⟩ := by unfold Addr.add; split <;> simp_all
    unfold fieldOff at ho
    split at ho
    · rename_i fs hu
      split at ho
      · rename_i fl hf
        split at ho
        · rename_i i hi
          split at ho
          · cases ho
          · rename_i hz
            cases ho
            simp [execOp, hr.ev hx, Instr.fieldAt, run_underlying hu, hf, Instr.sureAddr, fieldPlace, sizeOf, typeInfo, hi, hz, hadd]
        · cases ho
      · cases ho
    · cases ho)
theorem xk_field {x : Operand} {s : TypeId} {f off b o : Nat} (ho : fieldOff P s f = some off) (hx : e.ev x = some (.pointer (some ⟨b, o, none⟩))) (hd : d < N)
    (k : XK N w0 (wpList P ops Q rest) ((d, .pointer (some ⟨b, o + off, none⟩)) :: e) R H) : XK N w0 (wpList P ops Q (⟨some d, .fieldAddr s x f, ty, pos, aft, none⟩ :: rest)) e R H :=
  xk_pure hd (fun a w hr => by
    have hadd : (⟨b, o, none⟩ : Addr).add off = ⟨b, o + off, none⟩ := by unfold Addr.add; split <;> simp_all
    unfold fieldOff at ho
    split at ho
    · rename_i fs hu
      split at ho
      · rename_i fl hf
        split at ho
        · rename_i i hi
          split at ho
          · cases ho
          · rename_i hz
            cases ho
            simp [execOp, hr.ev hx, Instr.fieldAt, run_underlying hu, hf, Instr.sureAddr, fieldPlace, sizeOf, typeInfo, hi, hz, hadd]
        · cases ho
      · cases ho
    · cases ho) k
/-! control -/
section
variable {K : Act → World → Prop} {id id' : Nat}
theorem XK.thenN (h : XK N w0 K e R H) : XK N w0 (Exit.then K Q .normal) e R H := h
theorem XK.thenE (h : XK N w0 (Q (.exit id)) e R H) : XK N w0 (Exit.then K Q (.exit id)) e R H := h
theorem XK.thenR (h : XK N w0 (Q .ret) e R H) : XK N w0 (Exit.then K Q .ret) e R H := h
theorem XK.inN (h : XK N w0 (Q .normal) e R H) : XK N w0 (Exit.inBlock id Q .normal) e R H := h
theorem XK.inR (h : XK N w0 (Q .ret) e R H) : XK N w0 (Exit.inBlock id Q .ret) e R H := h
theorem XK.inE (h : XK N w0 (Q .normal) e R H) : XK N w0 (Exit.inBlock id Q (.exit id)) e R H := fun a w hr st => by
  show if id = id then Q .normal a w else _
  rw [if_pos rfl]
  exact h a w hr st
theorem XK.inF (hne : Nat.beq id' id = false) (h : XK N w0 (Q (.exit id')) e R H) : XK N w0 (Exit.inBlock id Q (.exit id')) e R H := fun a w hr st => by
  show if id' = id then _ else Q (.exit id') a w
  rw [if_neg (fun he => by rw [he, Nat.beq_refl] at hne; cases hne)]
  exact h a w hr st
end
end
end Go.Proofs.Ytbgibbbggajgaaa
