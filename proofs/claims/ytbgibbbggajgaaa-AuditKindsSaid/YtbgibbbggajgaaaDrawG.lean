/- The small logic: guarded operations in a region that draws its order. -/
import Derived.Test.YtbgibbbggajgaaaMore
namespace Go.Proofs.Ytbgibbbggajgaaa
set_option linter.all false
open Go.RowKit
section
variable {P : Program} {N : Nat} {w0 : World} {e e' : Env} {R R' R0 : List Piece} {H H' H0 : List HP} {Q : Exit → Act → World → Prop} {ops : Array Oper} {m fuel : Nat} {listed : Array Bool}
variable {d t j : Nat} {want : Bool} {op : Op} {ty : TypeId} {pos : String} {aft : Array Edge}
theorem XA.doT (i : Nat) {v : Value} (hi : ops[i]? = some ⟨some d, op, ty, pos, aft, some (j, want)⟩) (hj : (ops[j]?).bind (·.dst) = some t) (ht : e.get t = some (.bool want)) (hd : d < N) (hdo : Does P N w0 e R0 H0 ⟨some d, op, ty, pos, aft, none⟩ v)
    (hc : (Region.free .any ops listed i && (Region.ready .any ops listed).contains i && decide (i < m)) = true) (hQ : ∀ c a w, Q (.panic c) (a.put (some d) v) w → Q (.panic c) a w)
    (hsub : ∀ w, St w0 R H w → St w0 R0 H0 w)
    (k : XA P N w0 ops Q R0 H0 m fuel (listed.setIfInBounds i true) ((d, v) :: e) R H) : XA P N w0 ops Q R0 H0 m (fuel + 1) listed e R H := by
  simp only [Bool.and_eq_true, decide_eq_true_eq] at hc
  obtain ⟨⟨h2, h3⟩, h5⟩ := hc
  intro up a w hr st
  have hp := k (up.set_ (by simpa using h3)) (a.put (some d) v) w (hr.put hd v) st
  refine wpAnyX_first hi (Region.noSelect_spec up.sel) hQ up.tl h5 fuel listed a w up.down (Region.free_spec hi h2) (by simpa using h3) (.inl ⟨?_, fun w' hw' => ?_⟩) (hsub w st) hp
  · simp only [Region.wanted, yielded, hj, Option.bind_some, hr.get t _ ht]
    simp
  · exact hdo a w' hr hw'
theorem XA.doF (i : Nat) {b : Bool} (hi : ops[i]? = some ⟨some d, op, ty, pos, aft, some (j, want)⟩) (hj : (ops[j]?).bind (·.dst) = some t) (ht : e.get t = some (.bool b)) (hb : b = !want) (hd : d < N)
    (hc : (Region.free .any ops listed i && (Region.ready .any ops listed).contains i && decide (i < m)) = true) (hQ : ∀ c a w, Q (.panic c) (a.put (some d) undef) w → Q (.panic c) a w)
    (hsub : ∀ w, St w0 R H w → St w0 R0 H0 w)
    (k : XA P N w0 ops Q R0 H0 m fuel (listed.setIfInBounds i true) ((d, undef) :: e) R H) : XA P N w0 ops Q R0 H0 m (fuel + 1) listed e R H := by
  simp only [Bool.and_eq_true, decide_eq_true_eq] at hc
  obtain ⟨⟨h2, h3⟩, h5⟩ := hc
  intro up a w hr st
  have hp := k (up.set_ (by simpa using h3)) (a.put (some d) undef) w (hr.put hd undef) st
  refine wpAnyX_first hi (Region.noSelect_spec up.sel) hQ up.tl h5 fuel listed a w up.down (Region.free_spec hi h2) (by simpa using h3) (.inr ⟨?_, rfl⟩) (hsub w st) hp
  simp only [Region.wanted, yielded, hj, Option.bind_some, hr.get t _ ht, hb]
  simp
theorem XA.doU (i : Nat) (hi : ops[i]? = some ⟨some d, op, ty, pos, aft, some (j, want)⟩) (hj : (ops[j]?).bind (·.dst) = some t) (ht : e.get t = some undef) (hd : d < N)
    (hc : (Region.free .any ops listed i && (Region.ready .any ops listed).contains i && decide (i < m)) = true) (hQ : ∀ c a w, Q (.panic c) (a.put (some d) undef) w → Q (.panic c) a w)
    (hsub : ∀ w, St w0 R H w → St w0 R0 H0 w)
    (k : XA P N w0 ops Q R0 H0 m fuel (listed.setIfInBounds i true) ((d, undef) :: e) R H) : XA P N w0 ops Q R0 H0 m (fuel + 1) listed e R H := by
  simp only [Bool.and_eq_true, decide_eq_true_eq] at hc
  obtain ⟨⟨h2, h3⟩, h5⟩ := hc
  intro up a w hr st
  have hp := k (up.set_ (by simpa using h3)) (a.put (some d) undef) w (hr.put hd undef) st
  refine wpAnyX_first hi (Region.noSelect_spec up.sel) hQ up.tl h5 fuel listed a w up.down (Region.free_spec hi h2) (by simpa using h3) (.inr ⟨?_, rfl⟩) (hsub w st) hp
  simp only [Region.wanted, yielded, hj, Option.bind_some, hr.get t _ ht]
  simp [undef]
theorem XA.split {t : Nat} {p : Prop} [Decidable p] (ht : e.get t = some (.bool (decide p))) (h1 : p → XA P N w0 ops Q R0 H0 m fuel listed ((t, .bool true) :: e) R H) (h2 : ¬ p → XA P N w0 ops Q R0 H0 m fuel listed ((t, .bool false) :: e) R H) : XA P N w0 ops Q R0 H0 m fuel listed e R H :=
  fun up => xk_split ht (fun h => h1 h up) (fun h => h2 h up)
theorem XA.splitB {t : Nat} {b : Bool} (ht : e.get t = some (.bool b)) (h1 : b = true → XA P N w0 ops Q R0 H0 m fuel listed ((t, .bool true) :: e) R H) (h2 : b = false → XA P N w0 ops Q R0 H0 m fuel listed ((t, .bool false) :: e) R H) : XA P N w0 ops Q R0 H0 m fuel listed e R H :=
  fun up => xk_splitB ht (fun h => h1 h up) (fun h => h2 h up)
theorem does_neqB {x y : Operand} {t u : TypeId} {b c : Bool} (ht : P.underlying t = some .bool) (hx : e.ev x = some (.bool b)) (hy : e.ev y = some (.bool c)) : Does P N w0 e R H ⟨some d, .binOp .neq t x y u, ty, pos, aft, none⟩ (.bool (decide (¬ b = c))) := does_of (fun a w hr => by
  have he : (!(b == c)) = decide (¬ b = c) := by cases b <;> cases c <;> rfl
  simp [execOp, hr.ev hx, hr.ev hy, eqGuard, binOp, run_equal_bool w t b c ht, he])
theorem does_eqlB {x y : Operand} {t u : TypeId} {b c : Bool} (ht : P.underlying t = some .bool) (hx : e.ev x = some (.bool b)) (hy : e.ev y = some (.bool c)) : Does P N w0 e R H ⟨some d, .binOp .eql t x y u, ty, pos, aft, none⟩ (.bool (b == c)) := does_of (fun a w hr => by
  simp [execOp, hr.ev hx, hr.ev hy, eqGuard, binOp, run_equal_bool w t b c ht])
end
end Go.Proofs.Ytbgibbbggajgaaa
