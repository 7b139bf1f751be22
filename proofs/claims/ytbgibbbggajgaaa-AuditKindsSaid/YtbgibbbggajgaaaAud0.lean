/- The small logic: pointers that are not nil, parts of slices, maps of counts; events that a piece shows. -/
import Derived.Test.YtbgibbbggajgaaaEv
import Derived.Test.YtbgibbbggajgaaaPlan2
import Derived.Test.YtbgibbbggajgaaaDrawG
import Derived.Test.YtbgibbbggajgaaaMaybe
import Derived.Test.YtbgibbbggajgaaaEx
namespace Go.Proofs.Ytbgibbbggajgaaa
set_option linter.all false
open Go.RowKit
section
variable {P : Program} {N : Nat} {w0 : World} {e : Env} {R : List Piece} {H : List HP} {Q : Exit → Act → World → Prop} {ops : Array Oper} {rest : List Oper}
variable {d : Nat} {ty : TypeId} {pos : String} {aft : Array Edge}
theorem does_nilC {x : Operand} {a : Addr} (hx : e.ev x = some (.pointer (some a))) : Does P N w0 e R H ⟨some d, .nilCheck x, ty, pos, aft, none⟩ (.pointer (some a)) := does_of (fun b w hr => by simp [execOp, hr.ev hx])
theorem xk_nilC {x : Operand} {a : Addr} (hx : e.ev x = some (.pointer (some a))) (hd : d < N) (k : XK N w0 (wpList P ops Q rest) ((d, .pointer (some a)) :: e) R H) : XK N w0 (wpList P ops Q (⟨some d, .nilCheck x, ty, pos, aft, none⟩ :: rest)) e R H :=
  xk_pure hd (fun b w hr => by simp [execOp, hr.ev hx]) k
theorem sl_elem {t el : TypeId} (ht : P.underlying t = some (.slice el)) : P.underlying t = some (.slice (P.elem t)) := by
  unfold Program.elem
  rw [ht]
theorem elem_eq {t el : TypeId} (ht : P.underlying t = some (.slice el)) : P.elem t = el := by unfold Program.elem; rw [ht]
/-- the first k of a row -/
theorem run_sliceH {t el : TypeId} {sz n c k : Nat} {A : Option Addr} {kd : IntKind} (ht : P.underlying t = some (.slice el)) (hsz : (P.info? el).map (·.size) = some sz) (hk : k ≤ c) (w : World) :
    ∃ A', (0 < k → (∃ b off, A = some ⟨b, off, none⟩) → A' = A) ∧ (Instr.sliceAt t (.slice A n c) none (some (.int kd (k : Int))) none).run P w = .ok (.slice A' k c) w := by
  obtain ⟨i, hi, hs⟩ := Option.map_eq_some_iff.1 hsz
  have hel := elem_eq ht
  refine ⟨_, ?_, by rw [run_sliceAt_slice w t _ _ _ _ (sl_elem ht), run_slice_h w t A n c (sl_elem ht) kd k (by omega) (by omega), hel]; simp [sizeOf, typeInfo, hi, sliced]; rfl⟩
  rintro h0 ⟨b, off, rfl⟩
  split
  · rfl
  · simp [Addr.add]
/-- all but the first k -/
theorem run_sliceL {t el : TypeId} {sz n c k : Nat} {A : Option Addr} {kd : IntKind} (ht : P.underlying t = some (.slice el)) (hsz : (P.info? el).map (·.size) = some sz) (hk : k ≤ n) (hc : n ≤ c) (w : World) :
    ∃ A', (k < n → ∀ b off, A = some ⟨b, off, none⟩ → A' = some ⟨b, off + k * sz, none⟩) ∧ (Instr.sliceAt t (.slice A n c) (some (.int kd (k : Int))) none none).run P w = .ok (.slice A' (n - k) (c - k)) w := by
  obtain ⟨i, hi, hs⟩ := Option.map_eq_some_iff.1 hsz
  have hel := elem_eq ht
  refine ⟨_, ?_, by rw [run_sliceAt_slice w t _ _ _ _ (sl_elem ht), run_slice_l w t A n c (sl_elem ht) kd k (by omega) (by omega), hel]; simp [sizeOf, typeInfo, hi, sliced]; rfl⟩
  rintro h0 b off rfl
  rw [if_neg (by omega)]
  simp [Addr.add, hs]
theorem xk_sliceH (k : Nat) {x hi : Operand} {t el : TypeId} {sz n c : Nat} {A : Option Addr} {kd : IntKind} {j : Int} (ht : P.underlying t = some (.slice el)) (hsz : (P.info? el).map (·.size) = some sz) (hx : e.ev x = some (.slice A n c)) (hh : e.ev hi = some (.int kd j)) (hj : j = (k : Int)) (hk : k ≤ c) (hd : d < N)
    (kk : ∀ A', (0 < k → (∃ b off, A = some ⟨b, off, none⟩) → A' = A) → XK N w0 (wpList P ops Q rest) ((d, .slice A' k c) :: e) R H) : XK N w0 (wpList P ops Q (⟨some d, .slice t x none (some hi) none, ty, pos, aft, none⟩ :: rest)) e R H :=
  xk_run rfl fun a w hr st => by
    subst hj
    obtain ⟨A', h1, h2⟩ := run_sliceH (P := P) (kd := kd) ht hsz hk w (n := n) (A := A)
    exact ⟨_, w, by simp only [execOp, hr.ev hx, Option.map_some, Option.map_none, hr.ev hh, Sem.run_bind, h2, Result.andThen_ok, Sem.run_pure], kk A' h1 _ _ (hr.put hd _) st⟩
theorem xk_sliceL (k : Nat) {x lo : Operand} {t el : TypeId} {sz n c : Nat} {A : Option Addr} {kd : IntKind} {j : Int} (ht : P.underlying t = some (.slice el)) (hsz : (P.info? el).map (·.size) = some sz) (hx : e.ev x = some (.slice A n c)) (hh : e.ev lo = some (.int kd j)) (hj : j = (k : Int)) (hk : k ≤ n) (hc : n ≤ c) (hd : d < N)
    (kk : ∀ A', (k < n → ∀ b off, A = some ⟨b, off, none⟩ → A' = some ⟨b, off + k * sz, none⟩) → XK N w0 (wpList P ops Q rest) ((d, .slice A' (n - k) (c - k)) :: e) R H) : XK N w0 (wpList P ops Q (⟨some d, .slice t x (some lo) none none, ty, pos, aft, none⟩ :: rest)) e R H :=
  xk_run rfl fun a w hr st => by
    subst hj
    obtain ⟨A', h1, h2⟩ := run_sliceL (P := P) (kd := kd) ht hsz hk hc w (A := A)
    exact ⟨_, w, by simp only [execOp, hr.ev hx, Option.map_some, Option.map_none, hr.ev hh, Sem.run_bind, h2, Result.andThen_ok, Sem.run_pure], kk A' h1 _ _ (hr.put hd _) st⟩
end
/-- events that a piece shows -/
def EvS (p : Piece) (A : Option Addr) (evs : List Ev) : Prop := SlS p 14 A evs.length (evs.flatMap Ev.cells)
theorem EvS.le {p q : Piece} {A : Option Addr} {evs : List Ev} (h : EvS p A evs) (hl : p.Le q) : EvS q A evs := SlS.le h hl
theorem EvS.ev {p : Piece} {b off : Nat} {evs : List Ev} (h : EvS p (some ⟨b, off, none⟩) evs) {k : Nat} {x : Ev} (hk : evs[k]? = some x) : p.Z b ∧ ∀ f u, x.cells[f]? = some u → p.w.cell? ⟨b, off + k * 14 + f, none⟩ = some u := by
  have hlt := (List.getElem?_eq_some_iff.1 hk).1
  obtain ⟨b', off', hA, hb, hc⟩ := SlS.at_ h hlt
  cases hA
  refine ⟨hb, fun f u hu => hc f u ?_⟩
  have hf : f < 14 := by
    rw [← Ev.cells_len x]
    rcases Nat.lt_or_ge f x.cells.length with h | h
    · exact h
    · rw [List.getElem?_eq_none h] at hu; cases hu
  rw [flat_get Ev.cells 14 evs (fun _ _ => Ev.cells_len _) k f x hk hf, hu]
/-! counts, as a map -/
def getC (l : List (Int × Int)) (k : Int) : Int := ((l.find? fun p => decide (p.1 = k)).map (·.2)).getD 0
def setC : List (Int × Int) → Int → Int → List (Int × Int)
  | [], k, v => [(k, v)]
  | (a, b) :: r, k, v => if a = k then (k, v) :: r else (a, b) :: setC r k v
def cntL (l : List (Int × Int)) : List (Int × Value) := l.map fun p => (p.1, .int .i64 p.2)
theorem mget_cnt : ∀ (l : List (Int × Int)) (k : Int), (mget (cntL l) k).getD (.int .i64 0) = .int .i64 (getC l k)
  | [], k => rfl
  | (a, b) :: l, k => by
    have ih := mget_cnt l k
    show (mget ((a, .int .i64 b) :: cntL l) k).getD _ = _
    rw [mget_cons]
    unfold getC
    rw [List.find?_cons]
    by_cases h : a = k
    · simp [h]
    · simp only [h, if_false, decide_false, Bool.false_eq_true]
      exact ih
theorem mset_cnt : ∀ (l : List (Int × Int)) (k v : Int), mset (cntL l) k (.int .i64 v) = cntL (setC l k v)
  | [], k, v => rfl
  | (a, b) :: l, k, v => by
    show mset ((a, .int .i64 b) :: cntL l) k _ = cntL (if a = k then _ else _)
    unfold mset
    by_cases h : a = k
    · rw [if_pos h, if_pos h]; rfl
    · rw [if_neg h, if_neg h, mset_cnt l k v]; rfl
end Go.Proofs.Ytbgibbbggajgaaa
