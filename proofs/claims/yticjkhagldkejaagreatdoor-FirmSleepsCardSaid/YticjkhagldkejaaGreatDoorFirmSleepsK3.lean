/- slices: Clone, Reverse. -/
import Derived.Laws.Cover3
import Derived.Laws.StructEq
import Derived.Test.YticjkhagldkejaaGreatDoorFirmSleepsK2
namespace Go.Proofs.YticjkhagldkejaaGreatDoor
set_option linter.all false
open Go.RowKit
section
set_option maxHeartbeats 4000000
set_option maxRecDepth 20000
section
variable {P : Program} {N : cN} {w0 : World} {e : Env} {R : List Piece} {H : List HP} {Q : Exit → Act → World → Prop} {ops : Array Oper} {rest : List Oper}
variable {d : Nat} {ty : TypeId} {pos : String} {aJ : Array Edge}
theorem Qr {x : Operand} {t el u : TypeId} {A : Option Addr} {n c : Nat} (ht : P.underlying t = some (.slice el)) (hx : e.ev x = some (.slice A n c)) (hd : d < N.n)
  (k : XK N w0 (wpList P ops Q rest) ((d, .bool A.isNone) :: e) R H) : XK N w0 (wpList P ops Q (⟨some d, .binOp .eql t x (.const (.slice none 0 0)) u, ty, pos, aJ, none⟩ :: rest)) e R H :=
 fW hd (fun a w hr => by
  have h1 := hr.ev hx
  have h2 := hr.ev (show e.ev (.const (.slice none 0 0)) = some (.slice none 0 0) from rfl)
  simp [execOp, h1, h2, eqGuard, binOp, run_equal_slice_nil _ t el A n c ht]) k
theorem Qm {t el : TypeId} {sz : Nat} (ht : P.underlying t = some (.slice el)) (hsz : (P.info? el).map (·.size) = some sz) (hd : d < N.n)
  (k : ∀ g, XK N w0 (wpList P ops Q rest) ((d, .slice (some ⟨g, 0, none⟩) 0 0) :: e) R (HP.aF g el [] :: H)) : XK N w0 (wpList P ops Q (⟨some d, .buildSlice t 0 #[], ty, pos, aJ, none⟩ :: rest)) e R H :=
 Yj (ps := []) (vs := []) rfl (fun w => by
  obtain ⟨i, hi, hs⟩ := Option.map_eq_some_iff.1 hsz
  simp [Instr.buildSlice, Sem.run_bind, run_underlying ht, Result.andThen_ok, sizeOf, typeInfo, hi, newRow, Instr.fill]
  congr 2
  exact Array.eq_empty_of_size_eq_zero (by simp)) hd k
theorem St.bare {w : World} (h : St w0 R H w) : St w0 [] [] w := h.weak (fun _ hp => by cases hp) id (fun _ _ _ _ h => h) (fun i p hi => by simp at hi)
theorem XK.vY (i : Nat) {K : Act → World → Prop} {g n c sz : Nat} {el : TypeId} {xs : List Value} (hi : H[i]? = some (HP.own el sz (.slice (some ⟨g, 0, none⟩) n c) n xs))
  (h : ∀ cs : List Value, cs.length = c * sz → cs.take (n * sz) = xs → n ≤ c → c ≤ maxLen → XK N w0 K e R (H.set i (HP.aF g el cs))) : XK N w0 K e R H := fun a w hr st => by
 obtain ⟨_, h2⟩ := st.own hi
 rcases h2 with ⟨h2, _⟩ | ⟨g', cap, cur, hv, _, hg, hn, hm, hsz, kG⟩
 ·cases h2
 ·cases hv
  refine h cur.toList (by simpa using hsz) kG hn hm a w hr (st.sL hi (Nat.le_refl _) rfl rfl rfl fun F hF hlt => ⟨F, ⟨hF.1 g rfl, by simpa [dQ] using hg⟩, fun b hb => ⟨.inl hb, hlt b hb⟩, fun _ _ _ => rfl⟩)
theorem XK.vJ (i : Nat) {K : Act → World → Prop} {g n c sz : Nat} {el : TypeId} {cs xs : List Value} (hi : H[i]? = some (HP.aF g el cs)) (h1 : cs.length = c * sz) (h2 : cs.take (n * sz) = xs) (hn : n ≤ c) (hm : c ≤ maxLen)
  (h : XK N w0 K e R (H.set i (HP.own el sz (.slice (some ⟨g, 0, none⟩) n c) n xs))) : XK N w0 K e R H := fun a w hr st =>
 h a w hr (st.sL hi (Nat.le_refl _) rfl rfl rfl fun F hF hlt => ⟨F, ⟨fun g' hg' => by simp [Value.ownBlock] at hg'; exact hg' ▸ hF.1, by rw [← h2, List.length_take, h1]; exact Nat.min_eq_left (Nat.mul_le_mul_right _ hn), .inr ⟨g, c, cs.toArray, rfl, Nat.zero_le _, hF.2, hn, hm, by simpa using h1, by simpa using h2⟩⟩, fun b hb => ⟨.inl hb, hlt b hb⟩, fun _ _ _ => rfl⟩)
end
def De (xs : List Value) (k : Nat) (l : List Value) : Prop := l.length = xs.length ∧ ∀ t, t < xs.length → l[t]? = if t < k ∨ xs.length - k ≤ t then xs[xs.length - 1 - t]? else xs[t]?
theorem De.zero (xs : List Value) : De xs 0 xs := ⟨rfl, fun t ht => by rw [if_neg (by omega)]⟩
theorem De.all {xs l : List Value} {k : Nat} (h : De xs k l) (hk : xs.length ≤ 2 * k + 1) : l = xs.reverse := by
 apply List.ext_getElem?
 intro t
 rcases Nat.lt_or_ge t xs.length with ht | ht
 ·rw [h.2 t ht, List.getElem?_reverse ht]
  split
  ·rfl
  ·congr 1; omega
 ·rw [List.getElem?_eq_none (by rw [h.1]; exact ht), List.getElem?_eq_none (by simpa using ht)]
theorem De.next {xs l : List Value} {k : Nat} {u v : Value} (h : De xs k l) (hk : 2 * k + 1 < xs.length) (hu : l[xs.length - 1 - k]? = some u) (hv : l[k]? = some v) : De xs (k + 1) ((l.set k u).set (xs.length - 1 - k) v) := by
 have h1 := h.2 k (by omega)
 have h2 := h.2 (xs.length - 1 - k) (by omega)
 rw [if_neg (by omega), hv] at h1
 rw [if_neg (by omega), hu] at h2
 refine ⟨by simpa using h.1, fun t ht => ?_⟩
 have hl := h.1
 rw [List.getElem?_set, List.getElem?_set]
 by_cases e1 : xs.length - 1 - k = t
 ·rw [if_pos e1, if_pos (by simp; omega), if_pos (by omega), show xs.length - 1 - t = k by omega]
  exact h1
 ·rw [if_neg e1]
  by_cases e2 : k = t
  ·rw [if_pos e2, if_pos (by omega), if_pos (by omega), ← e2]
   exact h2
  ·rw [if_neg e2, h.2 t ht]
   by_cases e3 : t < k ∨ xs.length - k ≤ t
   ·rw [if_pos e3, if_pos (by omega)]
   ·rw [if_neg e3, if_neg (by omega)]
theorem take_set {cs l : List Value} {n k : Nat} {u : Value} (h : cs.take n = l) : (cs.set k u).take n = l.set k u := by rw [← h, List.take_set]
def sH (n : Nat) (xs : List Value) (v : Value) (hs : List HP) (_ : Piece) : Prop := ∃ A c, v = .slice A n c ∧ hs = [HP.own 4 1 (.slice A n c) n xs]
theorem tI (A : Option Addr) (n c : Nat) (xs : List Value) (w : World) (hs : aH (all w) 1 A n xs) (h1 : ∀ u ∈ xs, u.oneCell' = true) (hn : n ≤ 1000000) :
  Calls Tryz.prog 100 #[.slice A n c] w (fun y w' => (∃ v hs q, y = .returned v ∧ q.w = w' ∧ sH n xs v hs q ∧ kA w hs q) ∧ Below w.heap.size w w') := by
 refine XK.enter (vs := [.slice A n c]) Tryz.func100 rfl Tryz.ntmps100 (by simp) ?_
 refine XK.go ?_
 refine Qr (el := 4) (by kernel_rfl) rfl (by decide) ?_
 refine XK.go ?_
 refine XK.cond rfl (fun hA => ?_) (fun hA => ?_)
 ·
  refine XK.go ?_
  have hn0 : n = 0 := by
   rcases Nat.eq_zero_or_pos n with h | h
   ·exact h
   ·obtain ⟨b, off, rfl, _⟩ := hs.2 h
    cases hA
  subst hn0
  have hx : xs = [] := List.eq_nil_of_length_eq_zero (by simpa using hs.1)
  subst hx
  refine XK.kN 4 1 ?_
  refine XK.still [] [] [0] (by simp) rfl (by decide) (by decide) fun q _ _ hfr => ?_
  exact XK.aI rfl rfl fun w1 st => ⟨⟨_, _, ⟨w1, q.Z⟩, rfl, rfl, ⟨_, _, rfl, rfl⟩, st.newR (by simp) (by simp) (hfr (by simp) (by simp))⟩, st.below (by simp)⟩
 ·
  refine XK.go ?_
  refine Qm (el := 4) (sz := 1) (by kernel_rfl) (by kernel_rfl) (by decide) fun g => ?_
  refine XK.Ls 0 1 0 rfl rfl (by omega) ?_
  dsimp only [List.set]
  refine XK.go ?_
  refine fI 0 1 1 n (n' := n) (el := 4) (by kernel_rfl) (by kernel_rfl) (by decide) rfl rfl rfl (qI (by simp) hs) h1 (by omega) (by omega) (by omega) (by decide) fun A' k' => ?_
  dsimp only [List.set, List.nil_append]
  refine XK.go ?_
  refine XK.still [] [] [0] (by simp) rfl (by decide) (by decide) fun q _ _ hfr => ?_
  exact XK.aI rfl rfl fun w1 st => ⟨⟨_, _, ⟨w1, q.Z⟩, rfl, rfl, ⟨_, _, rfl, rfl⟩, st.newR (by simp) (by simp) (hfr (by simp) (by simp))⟩, st.below (by simp)⟩
end
section
section
variable {P : Program} {N : cN} {w0 w : World} {e : Env} {R : List Piece} {H H' : List HP} {Q : Exit → Act → World → Prop} {ops : Array Oper} {rest : List Oper} {K : Act → World → Prop}
variable {d : Nat} {ty : TypeId} {pos : String} {aJ : Array Edge}
theorem St.piece {p : Piece} (st : St w0 R H w) (hR : all w0 ∈ R) (hp : p.Le (all w0)) : St w0 (p :: R) H w := by
 obtain ⟨Z, F, hz, hr, hs, hf, hd⟩ := st.ex
 refine ⟨st.os, st.tape, st.output, st.size, Z, F, hz, fun q hq b hb => ?_, hs, hf, hd⟩
 simp only [List.mem_cons] at hq
 rcases hq with rfl | hq
 ·have h1 := hr _ hR b (hp b hb).1
  exact ⟨h1.1, h1.2.trans (hp b hb).2⟩
 ·exact hr q hq b hb
theorem XK.piece (p : Piece) (hR : all w0 ∈ R) (hp : p.Le (all w0)) (h : XK N w0 K e (p :: R) H) : XK N w0 K e R H := fun a w hr st => h a w hr (st.piece hR hp)
end
end
section
def tF (M : Option Nat) (d : Nat) (e : Env) : Env := match M with
 | none => e
 | some g => (d, .pointer (some ⟨g, 0, none⟩)) :: e
def wF (M : Option Nat) (t : TypeId) (cs : List Value) (H : List HP) : List HP := match M with
 | none => H
 | some g => HP.aF g t cs :: H
def xI (M : Option Nat) (j : Nat) (l : Array Bool) : Array Bool := match M with
 | none => l
 | some _ => l.setIfInBounds j true
def Cn (M : Option Nat) (f : Nat) : Nat := match M with
 | none => f + 1
 | some _ => f
def Sj (d : Nat) : Operand → Bool
 | .tmp t => !(Nat.beq d t)
 | _ => true
theorem aGp (M : Option Nat) {d t : Nat} {e : Env} {v : Value} (h : e.get t = some v) (hn : Nat.beq d t = false) : (tF M d e).get t = some v := by
 cases M with
 | none => exact h
 | some g =>
  show Env.get ((d, _) :: e) t = some v
  unfold Env.get
  rw [hn]
  exact h
theorem Kr (M : Option Nat) {d : Nat} {e : Env} {x : Operand} {v : Value} (h : e.ev x = some v) (hn : Sj d x = true) : (tF M d e).ev x = some v := by
 cases x with
 | tmp t => exact aGp M h (by simpa [Sj] using hn)
 | _ => exact h
theorem Kq (M : Option Nat) {d : Nat} {e : Env} : ∀ {xs : List Operand} {vs : List Value}, e.cV xs = some vs → xs.all (Sj d) = true → (tF M d e).cV xs = some vs
 | [], vs, h, _ => by cases h; rfl
 | x :: xs, vs, h, hn => by
  simp only [List.all_cons, Bool.and_eq_true] at hn
  unfold Env.cV at h ⊢
  split at h
  ·rename_i v r h1 h2
   cases h
   rw [Kr M h1 hn.1, Kq M h2 hn.2]
  ·cases h
section
variable {P : Program} {N : cN} {w0 w : World} {e : Env} {R R' R0 : List Piece} {H H0 : List HP} {Q : Exit → Act → World → Prop} {ops : Array Oper} {m fuel : Nat} {listed : Array Bool} {K : Act → World → Prop}
variable {d dA : Nat} {t ty : TypeId} {pos : String} {aJ : Array Edge} {cs : List Value} {v : Value}
theorem XK.Dl (hR : ∀ p ∈ R', p ∈ R) (h : XK N w0 K e R' H) : XK N w0 K e R H := fun a w hr st => h a w hr (st.weak hR id (fun _ _ _ _ h => h) (fun _ _ h => h))
theorem St.unM {M : Option Nat} (h : St w0 R (wF M t cs H) w) : St w0 R H w := by
 cases M with
 | none => exact h
 | some g => exact h.tail
theorem cY.aDU {M : Option Nat} {a : Act} (h : cY N ((d, v) :: tF M dA e) a) (hd : Nat.beq d dA = false) : cY N (tF M dA ((d, v) :: e)) a := by
 cases M with
 | none => exact h
 | some g =>
  refine ⟨h.size, h.defers, fun u x hu => h.get u x ?_⟩
  show Env.get ((d, v) :: (dA, _) :: e) u = some x
  have hu : Env.get ((dA, .pointer (some ⟨g, 0, none⟩)) :: (d, v) :: e) u = some x := hu
  unfold Env.get at hu ⊢
  cases h1 : Nat.beq d u with
  | true =>
   have := Nat.eq_of_beq_eq_true h1
   subst this
   rw [show Nat.beq dA d = false from (by rw [← hd]; cases h2 : Nat.beq dA d with
    | true => have := Nat.eq_of_beq_eq_true h2; subst this; rw [Nat.beq_refl] at hd; cases hd
    | false => exact hd.symm)] at hu
   unfold Env.get at hu
   rw [h1] at hu
   exact hu
  | false =>
   dsimp only
   unfold Env.get
   cases h2 : Nat.beq dA u with
   | true => rw [h2] at hu; exact hu
   | false =>
    rw [h2] at hu
    unfold Env.get at hu
    rw [h1] at hu
    exact hu
theorem XA.maybe (i j : Nat) {oi : Oper} {M : Option Nat} (hi : ops[i]? = some oi) (hj : ops[j]? = some ⟨some dA, .alloc t, ty, pos, aJ, none⟩) (ht : yS P t cs) (hd : dA < N.n)
  (Oq : Region.ready .any ops listed = [i, j]) (dJ : Region.ready .any ops (listed.setIfInBounds j true) = [i]) (hS : ∀ w, St w0 R H w → St w0 R0 H0 w)
  (step : ∀ M, XK N w0 (wpList P ops (Exit.then (rB P w0 ops Q R0 H0 m (Cn M fuel) (xI M j listed) i) Q) [oi]) (tF M dA e) R (wF M t cs H)) :
  XA P N w0 ops Q R0 H0 m (Cn M (fuel + 1)) (xI M j listed) (tF M dA e) R (wF M t cs H) := by
 cases M with
 | some g => exact XA.next i hi dJ (step (some g))
 | none => exact XA.either i j hi hj Oq (step none) (bZ ht hd fun g => XK.nil (XK.iU (XA.back (fun w h => hS w h.tail) (XA.next i hi dJ (step (some g))))))
theorem XA.aER {j : Nat} (dA : Nat) (t : TypeId) (cs : List Value) (h : ∀ M : Option Nat, XA P N w0 ops Q R0 H0 m (Cn M fuel) (xI M j listed) (tF M dA e) R (wF M t cs H)) : XA P N w0 ops Q R0 H0 m (fuel + 1) listed e R H := h none
theorem XA.Qf {i j : Nat} {M : Option Nat} (hij : i ≠ j) (hd : Nat.beq d dA = false) (hS : ∀ w, St w0 R H w → St w0 R0 H0 w)
  (h : XA P N w0 ops Q R0 H0 m (Cn M fuel) (xI M j (listed.setIfInBounds i true)) (tF M dA ((d, v) :: e)) R (wF M t cs H)) : XK N w0 (rB P w0 ops Q R0 H0 m (Cn M fuel) (xI M j listed) i) ((d, v) :: tF M dA e) R (wF M t cs H) := by
 refine XA.back (fun w h => hS w h.unM) ?_
 have hl : (xI M j listed).setIfInBounds i true = xI M j (listed.setIfInBounds i true) := by
  cases M with
  | none => rfl
  | some g => exact Array.setIfInBounds_comm _ _ (Ne.symm hij)
 rw [hl]
 exact fun up a w hr st => h up a w (hr.aDU hd) st
theorem XK.Mr {M : Option Nat} {p : HP} (h : XK N w0 K e R (wF M t cs (p :: H))) : XK N w0 K e R (p :: wF M t cs H) := by
 cases M with
 | none => exact h
 | some g => exact fun a w hr st => h a w hr (st.weak (fun _ hp => hp) (fun i => match i with | 0 => 1 | 1 => 0 | i + 2 => i + 2) (fun i j _ _ he => by
   match i, j with
   | 0, 0 => rfl
   | 0, 1 => cases he
   | 0, j + 2 => simp at he
   | 1, 0 => cases he
   | 1, 1 => rfl
   | 1, j + 2 => simp at he
   | i + 2, 0 => simp at he
   | i + 2, 1 => simp at he
   | i + 2, j + 2 => simpa using he) (fun i q hq => by
   match i, hq with
   | 0, hq => exact hq
   | 1, hq => exact hq
   | i + 2, hq => exact hq))
theorem vD {p q : Prop} [Decidable p] [Decidable q] {u : Nat} (h : e.get u = some (.bool (decide p))) (hpq : p ↔ q) : e.get u = some (.bool (decide q)) := by
 rw [h, decide_eq_decide.2 hpq]
theorem wL {q : Prop} [Decidable q] {u : Nat} (h : e.get u = some (.bool false)) (hq : ¬ q) : e.get u = some (.bool (decide q)) := by rw [h, decide_eq_false hq]
theorem zQ {q : Prop} [Decidable q] {u : Nat} (h : e.get u = some (.bool true)) (hq : q) : e.get u = some (.bool (decide q)) := by rw [h, decide_eq_true hq]
theorem aGn {q : Prop} [Decidable q] {u : Nat} {b : Bool} (h : e.get u = some (.bool b)) (hb : b = true ↔ q) : e.get u = some (.bool (decide q)) := by
 rw [h]
 congr 2
 by_cases hq : q
 ·rw [decide_eq_true hq, hb.2 hq]
 ·rw [decide_eq_false hq]
  cases b
  ·rfl
  ·exact absurd (hb.1 rfl) hq
theorem cY.Zc {e0 : Env} {a : Act} {u : Nat} {x : Value} (h : cY N e a) (hs : e0.Sub e) (hu : e.get u = some x) : cY N ((u, x) :: e0) a := h.sub (e' := (u, x) :: e0) ⟨hu, hs⟩
theorem XK.sB {x y : Code} {Q : Exit → Act → World → Prop} (u : Nat) (p : Prop) [Decidable p] (h : XK N w0 (x.wp P (Exit.then (fun a' w' => cY N ((u, .bool (decide p)) :: e) a' ∧ St w0 R H w') Q)) e R H)
  (hy : XK N w0 (y.wp P Q) ((u, .bool (decide p)) :: e) R H) : XK N w0 ((Code.seq x y).wp P Q) e R H := fun a w hr st => by
 refine wp_seq (wp_mono (h a w hr st) fun x a' w' hq => ?_)
 cases x with
 | normal => exact hy a' w' hq.1 hq.2
 | _ => exact hq
theorem XK.sQ {e0 : Env} {u : Nat} {p : Prop} [Decidable p] (hs : e0.Sub e) (hu : e.get u = some (.bool (decide p))) : XK N w0 (fun a' w' => cY N ((u, .bool (decide p)) :: e0) a' ∧ St w0 R H w') e R H := fun _ _ hr st => ⟨hr.Zc hs hu, st⟩
theorem XK.lE {e0 : Env} {u : Nat} {p : Prop} [Decidable p] (hs : e0.Sub e := by repeat (first | exact trivial | refine ⟨rfl, ?_⟩)) (hu : e.get u = some (.bool (decide p)) := by first | (refine vD rfl ?_; omega) | (refine vD rfl ?_; simp_all; done) | (refine wL rfl ?_; first | omega | (simp_all; done)) | (refine zQ rfl ?_; first | omega | (simp_all; done)) | (refine aGn rfl ?_; simp_all; done) | (refine vD rfl ⟨fun hh => ?_, fun hh => ?_⟩ <;> first | omega | (simp_all; done) | (simp_all; omega)) | (exfalso; omega)) : XK N w0 (fun a' w' => cY N ((u, .bool (decide p)) :: e0) a' ∧ St w0 R H w') e R H := XK.sQ hs hu
theorem XK.Nj (i : Nat) {el : TypeId} {sz n c : Nat} {A : Option Addr} {xs : List Value} (hi : H[i]? = some (HP.own el sz (.slice A n c) n xs)) (hn : 0 < n) (h : ∀ g, A = some ⟨g, 0, none⟩ → XK N w0 K e R H) : XK N w0 K e R H := fun a w hr st => by
 have ho := st.own hi
 rcases ho.2 with ⟨_, h0⟩ | ⟨g, cap, cur, hv, _⟩
 ·omega
 ·injection hv with hA
  exact h g hA a w hr st
end
end
section
def HP.ex {α : Type} (f : α → HP) : HP := ⟨fun F w => ∃ a, (f a).sat F w, fun F w w' ⟨a, h⟩ hk => ⟨a, (f a).loc F w w' h hk⟩⟩
section
variable {N : cN} {w0 : World} {e : Env} {R : List Piece} {H : List HP} {K : Act → World → Prop}
theorem XK.lY (i : Nat) {α : Type} {f : α → HP} (hi : H[i]? = some (HP.ex f)) (h : ∀ a, XK N w0 K e R (H.set i (f a))) : XK N w0 K e R H := fun a w hr st => by
 obtain ⟨Z, F, hz, cJ, hs, cQ, cW⟩ := st.ex
 obtain ⟨x, hx⟩ := hs i _ hi
 have hlt : i < H.length := by
  rcases Nat.lt_or_ge i H.length with h | h
  ·exact h
  ·rw [List.getElem?_eq_none h] at hi; cases hi
 refine h x a w hr ⟨st.os, st.tape, st.output, st.size, Z, F, hz, cJ, fun j p hj => ?_, cQ, cW⟩
 rw [List.getElem?_set] at hj
 split at hj
 ·rename_i e; subst e
  first | (rw [if_pos hlt] at hj; cases hj) | cases hj
  exact hx
 ·exact hs j p hj
theorem XK.jJ (i : Nat) {α : Type} {f : α → HP} (x : α) (hi : H[i]? = some (f x)) (h : XK N w0 K e R (H.set i (HP.ex f))) : XK N w0 K e R H := fun a w hr st =>
 h a w hr (st.sL hi (Nat.le_refl _) rfl rfl rfl fun F hF hlt => ⟨F, ⟨x, hF⟩, fun b hb => ⟨.inl hb, hlt b hb⟩, fun _ _ _ => rfl⟩)
theorem XK.pair {p q : HP} (h : XK N w0 K e R (HP.many [p, q] :: H)) : XK N w0 K e R (p :: q :: H) := fun a w hr st => by
  obtain ⟨Z, F, hz, cJ, hs, cQ, cW⟩ := st.ex
  refine h a w hr ⟨st.os, st.tape, st.output, st.size, Z, fun j => match j with | 0 => fun b => F 0 b ∨ F 1 b | j + 1 => F (j + 2), hz, cJ, fun j r hj => ?_, fun j b hb => ?_, fun j k b jC hj hk => ?_⟩
  · cases j with
    | zero =>
      simp at hj
      subst hj
      refine ⟨fun i b => i < 2 ∧ F i b, fun i r hi => ?_, fun i b hb => ?_, fun i k b hik h1 h2 => cW i k b hik h1.2 h2.2⟩
      · have key : ∀ k, k < 2 → (fun b => k < 2 ∧ F k b) = F k := fun k hk => by funext b; simp [hk]
        match i, hi with
        | 0, hi => simp at hi; subst hi; show p.sat (fun b => 0 < 2 ∧ F 0 b) w; rw [key 0 (by omega)]; exact hs 0 _ rfl
        | 1, hi => simp at hi; subst hi; show q.sat (fun b => 1 < 2 ∧ F 1 b) w; rw [key 1 (by omega)]; exact hs 1 _ rfl
        | i + 2, hi => simp at hi
      · obtain ⟨hlt, hb⟩ := hb
        match i, hlt, hb with
        | 0, _, hb => exact .inl hb
        | 1, _, hb => exact .inr hb
    | succ j => exact hs (j + 2) r (by simpa using hj)
  · cases j with
    | zero => rcases hb with hb | hb <;> exact cQ _ b hb
    | succ j => exact cQ _ b hb
  · cases j with
    | zero => cases k with
      | zero => exact jC rfl
      | succ k => rcases hj with hj | hj
                  · exact cW 0 (k + 2) b (by omega) hj hk
                  · exact cW 1 (k + 2) b (by omega) hj hk
    | succ j => cases k with
      | zero => rcases hk with hk | hk
                · exact cW 0 (j + 2) b (by omega) hk hj
                · exact cW 1 (j + 2) b (by omega) hk hj
      | succ k => exact cW (j + 2) (k + 2) b (by omega) hj hk
end
end
section
section
variable {P : Program} {w : World} {t kt et : TypeId} {r : Nat} {l : List (Int × Value)}
variable {P : Program} {N : cN} {w0 w : World} {e : Env} {R : List Piece} {H : List HP} {Q : Exit → Act → World → Prop} {ops : Array Oper} {rest : List Oper}
variable {d : Nat} {ty : TypeId} {pos : String} {aJ : Array Edge}
theorem Yi (i : Nat) {dst : Option Nat} {e' : Env} {f : FuncId} {x : Operand} {args : List Operand} {fi ca vs : List Value} {tys : Array TypeId} {p : HP} {v : Value} (q : HP) (hf : fK P f = true) (hx : e.ev x = some (.func (.func f) fi.toArray ca.toArray)) (ha : e.cV args = some vs) (hi : H[i]? = some p)
  (hd : match dst with | some d => d < N.n ∧ e' = (d, v) :: e | none => e' = e)
  (hc : ∀ w F, St w0 R H w → p.sat F w → (∀ b, F b → b < w.heap.size) → (∀ q ∈ R, q.Le ⟨w, fun b => b < w.heap.size ∧ ¬ F b⟩) → Calls P f (fi ++ vs ++ ca).toArray w fun y w' => y = .returned v ∧ ∃ F', q.sat F' w' ∧ bI w w' F F')
  (k : XK N w0 (wpList P ops Q rest) e' R (H.set i q)) : XK N w0 (wpList P ops Q (⟨dst, .call { callee := .value x, args := args.toArray, argTypes := tys }, ty, pos, aJ, none⟩ :: rest)) e R H := fun a w hr st => wpList_plain rfl fun K hK => by
 unfold fK at hf
 cases hq : P.funcs[f]? with
 | none => simp [hq] at hf
 | some fn =>
  simp [hq] at hf
  obtain ⟨fG, fZ⟩ := hf
  have hrun : (execOp a.eval (⟨dst, .call { callee := .value x, args := args.toArray, argTypes := tys }, ty, pos, aJ, none⟩ : Oper)).run P w = .ok (.enter f (fi ++ vs ++ ca).toArray) w := by
   cases hb : fn.body with
   | none => simp [hb] at fZ
   | some c => simp [execOp, resolve, hr.ev hx, Deferred.ofValue, invoke, callFunc, hq, fG, hb, hr.cV ha]
  obtain ⟨Z, F, hz, cJ, hs, cQ, cW⟩ := st.ex
  unfold Oper.wp
  rw [hrun]
  refine (hc w (F i) st (hs i p hi) (fun b hb => (cQ i b hb).2) (fun q Bt b hb => ⟨⟨hz b (cJ q Bt b hb).1, fun mS => (cQ i b mS).1 (cJ q Bt b hb).1⟩, (cJ q Bt b hb).2⟩)).mono fun y w' ⟨hy, F', mE, ht⟩ => ?_
  subst hy
  have st' : St w0 R (H.set i q) w' := by
   have hlt : i < H.length := by
    rcases Nat.lt_or_ge i H.length with h | h
    ·exact h
    ·rw [List.getElem?_eq_none h] at hi; cases hi
   refine ⟨ht.os.trans st.os, ht.tape.trans st.tape, ht.output.trans st.output, Nat.le_trans st.size ht.size, Z, fun j => if j = i then F' else F j, fun b h => Nat.lt_of_lt_of_le (hz b h) ht.size, fun p hp b h => ?_, fun j r hj => ?_, fun j b h => ?_, fun j k b jC h => ?_⟩
   ·exact ⟨(cJ p hp b h).1, (ht.old b (hz b (cJ p hp b h).1) (fun mS => (cQ i b mS).1 (cJ p hp b h).1)).trans (cJ p hp b h).2⟩
   ·rw [List.getElem?_set] at hj
    split at hj
    ·rename_i e; subst e
     first | (rw [if_pos hlt] at hj; cases hj) | cases hj
     simpa using mE
    ·rename_i e
     simp only [if_neg (Ne.symm e)]
     exact r.loc _ _ _ (hs j r hj) (fun b hb => ht.old b (cQ j b hb).2 (cW j i b (Ne.symm e) hb))
   ·dsimp only at h
    split at h
    ·refine ⟨fun fS => ?_, (ht.new b h).2⟩
     rcases (ht.new b h).1 with h | h
     ·exact (cQ i b h).1 fS
     ·have := hz b fS; omega
    ·exact ⟨(cQ j b h).1, Nat.lt_of_lt_of_le (cQ j b h).2 ht.size⟩
   ·dsimp only at h ⊢
    split at h <;> split
    ·rename_i h1 h2; omega
    ·rename_i e1 e2
     intro hk
     rcases (ht.new b h).1 with h | h
     ·exact cW i k b (by omega) h hk
     ·have := (cQ k b hk).2; omega
    ·rename_i e1 e2
     intro hk
     rcases (ht.new b hk).1 with hk | hk
     ·exact cW j i b (by omega) h hk
     ·have := (cQ j b h).2; omega
    ·exact cW j k b jC h
  cases dst with
  | none => dsimp only at hd; subst hd; exact hK _ _ (k _ _ hr st')
  | some d => dsimp only at hd; obtain ⟨hd, rfl⟩ := hd; exact hK _ _ (k _ _ (hr.put hd v) st')
end
def HP.pure (p : Prop) : HP := ⟨fun _ _ => p, fun _ _ _ h _ => h⟩
section
variable {P : Program} {nn : Nat} {w0 : World} {e e0 : Env} {R R0 : List Piece} {H H0 : List HP} {Q : Exit → Act → World → Prop} {r : Option Nat} {L : List Nat} {K : Act → World → Prop}
theorem XC.sB {x y : Code} (u : Nat) (p : Prop) [Decidable p] (h : XK ⟨nn, []⟩ w0 (KC r L P x (Exit.then (fun a' w' => ∃ b, a' = mk L b ∧ cY ⟨nn, []⟩ ((u, .bool (decide p)) :: e) b ∧ St w0 R H w') Q)) e R H)
  (hy : XK ⟨nn, []⟩ w0 (KC r L P y Q) ((u, .bool (decide p)) :: e) R H) : XK ⟨nn, []⟩ w0 (KC r L P (Code.seq x y) Q) e R H := fun a w hr st => by
 refine wpIn_seq (wpIn_mono (h a w hr st) fun x a' w' hq => ?_)
 cases x with
 | normal =>
  obtain ⟨b, rfl, h1, h2⟩ := hq
  exact hy b w' h1 h2
 | _ => exact hq
theorem XC.sQ {u : Nat} {p : Prop} [Decidable p] (hs : e0.Sub e) (hu : e.get u = some (.bool (decide p))) : XK ⟨nn, []⟩ w0 (KQ L (Exit.then (fun a' w' => ∃ b, a' = mk L b ∧ cY ⟨nn, []⟩ ((u, .bool (decide p)) :: e0) b ∧ St w0 R H w') Q) .normal) e R H := fun a _ hr st => ⟨a, rfl, hr.Zc hs hu, st⟩
end
end
section
section
variable {P : Program} {N : cN} {w0 : World} {K : Act → World → Prop} {e : Env} {R : List Piece} {H H' : List HP} {Q : Exit → Act → World → Prop} {ops : Array Oper} {rest : List Oper}
variable {d : Nat} {ty : TypeId} {pos : String} {aJ : Array Edge}
def zY (f : FuncId) (fi ca : List Value) : Deferred := { target := .fn (.func f) ca.toArray, args := fi.toArray }
theorem Qs {x : Operand} {tys : Array TypeId} {f : FuncId} {fi ca : List Value} (hx : e.ev x = some (.func (.func f) fi.toArray ca.toArray)) (k : XK ⟨N.n, zY f fi ca :: N.D⟩ w0 (wpList P ops Q rest) e R H) :
  XK N w0 (wpList P ops Q (⟨none, .defer { callee := .value x, args := #[], argTypes := tys }, ty, pos, aJ, none⟩ :: rest)) e R H := fun a w hr st => wpList_plain rfl fun K hK => by
 have hrun : (execOp a.eval (⟨none, .defer { callee := .value x, args := #[], argTypes := tys }, ty, pos, aJ, none⟩ : Oper)).run P w = .ok (.defer (zY f fi ca)) w := by
  simp [execOp, resolve, hr.ev hx, Deferred.ofValue, zY]
 unfold Oper.wp
 rw [hrun]
 exact hK _ _ (k { a with defers := zY f fi ca :: a.defers } w ⟨hr.size, by show _ :: _ = _ :: _; rw [hr.defers], hr.get⟩ st)
theorem aFk {f : FuncId} {fi ca : List Value} (hf : fK P f = true) (w : World) : (invoke (.fn (.func f) ca.toArray) fi.toArray).run P w = .ok (.enter f (fi ++ ca).toArray) w := by
 unfold fK at hf
 cases hq : P.funcs[f]? with
 | none => simp [hq] at hf
 | some fn =>
  simp [hq] at hf
  obtain ⟨fG, fZ⟩ := hf
  cases hb : fn.body with
  | none => simp [hb] at fZ
  | some c => simp [invoke, callFunc, hq, fG, hb]
theorem XK.aFf {nn : Nat} {f : FuncId} {fi ca : List Value} {fn : Func} {Post : Ending → World → Prop} (hf : fK P f = true)
  (eN : ∀ w, St w0 R H w → CallsD P f (fi ++ ca).toArray .returning w fun y u' w' => (∃ v, y = .returned v) ∧ u' = .returning ∧ St w0 R H' w')
  (hres : ∀ a w, cY ⟨nn, [zY f fi ca]⟩ e a → St w0 R H' w → ∃ v, (results fn a.tmps).run P w = .ok v w ∧ Post (.returned v) w) :
  XK ⟨nn, [zY f fi ca]⟩ w0 (bodyPostD P fn Post .ret) e R H := fun a w hr st => by
 show Leaves P fn a.tmps Post a.defers .returning w
 rw [hr.defers]
 refine leaves_cons (by simp) (aFk hf w) ((eN w st).mono ?_)
 rintro y u' w' ⟨⟨v, rfl⟩, rfl, st'⟩
 obtain ⟨v', h1, h2⟩ := hres a w' hr st'
 exact ⟨v', h1, h2⟩
end
end
section
set_option maxHeartbeats 4000000
set_option maxRecDepth 20000
def Qh (a b : Int) : Int := IntKind.u32.wrap (BitVec.ofInt 32 a &&& BitVec.ofInt 32 b).toNat
def Lu (a b : Int) : Int := IntKind.u32.wrap (BitVec.ofInt 32 a &&& ~~~ BitVec.ofInt 32 b).toNat
def Nl (a b : Int) : Int := IntKind.u32.wrap (BitVec.ofInt 32 a ||| BitVec.ofInt 32 b).toNat
theorem Yt (a : Int) : 0 ≤ IntKind.u32.wrap a ∧ IntKind.u32.wrap a < 4294967296 := by
 unfold IntKind.wrap
 simp only [IntKind.signed, IntKind.bits, Bool.false_and, Bool.false_eq_true, if_false]
 exact ⟨Int.emod_nonneg _ (by decide), Int.emod_lt_of_pos _ (by decide)⟩
def zG (many at' : Int) : Int := IntKind.u32.wrap (IntKind.u64.wrap (IntKind.u64.wrap (IntKind.u64.wrap (1 * 2 ^ min many.toNat 64) - 1) * 2 ^ min at'.toNat 64))
def bX (w low many : Int) : Int := Qh (w.fdiv (2 ^ min low.toNat 32)) (zG many 0)
def Bh (w low many v : Int) : Int × Int := if Lu v (zG many 0) ≠ 0 then (0, 1) else (Nl (Lu w (zG many low)) (IntKind.u32.wrap (v * 2 ^ min low.toNat 32)), 0)
def eU (w low many v : Int) : Int × Int := if v < 0 ∨ IntKind.i64.wrap (1 * 2 ^ min many.toNat 64) ≤ v then (0, 1) else if (Bh w low many (IntKind.u32.wrap v)).2 ≠ 0 then (0, 1) else ((Bh w low many (IntKind.u32.wrap v)).1, 0)
def okF (low many : Int) : Prop := 1 ≤ many ∧ many ≤ 32 ∧ 0 ≤ low ∧ low ≤ 32 - many
def Xo (many : Int) (v : Value) (w w' : World) : Prop := ∃ g, v = .tuple #[.func (.func 258) #[] #[.pointer (some ⟨g, 0, none⟩)], .bool true] ∧ RP (fresh w w') g 0 (.int .i64 many)
theorem Vy (a many : Int) (g : Nat) (w : World) (h : eW w g 0 (.int .i64 many)) (ha : 0 ≤ a) (hm : 0 ≤ many) :
  Calls Tryz.prog 258 #[.int .i64 a, .pointer (some ⟨g, 0, none⟩)] w (Rt (.int .u32 (zG many a)) w) := by
 refine XK.enter (vs := [.int .i64 a, .pointer (some ⟨g, 0, none⟩)]) Tryz.func258 rfl Tryz.ntmps258 (by simp) ?_
 refine XK.seq ?_
 refine XK.region ?_
 refine aL rfl (by decide) ?_
 refine XK.aE ?_
 refine XK.seq ?_
 refine XK.region ?_
 refine gA (by kernel_rfl) rfl (Rd.fD (by simp) h) (by decide) ?_
 refine Dj rfl rfl (by omega) rfl (by decide) ?_
 refine Mk rfl rfl rfl (by decide) ?_
 refine aG rfl (by decide) ?_
 refine Dj rfl rfl (by omega) rfl (by decide) ?_
 refine rH (kd := .u32) (ds := .int .u64) (by kernel_rfl) (by kernel_rfl) rfl rfl (by decide) ?_
 refine aL rfl (by decide) ?_
 refine XK.aE ?_
 refine XK.ret ?_
 refine XK.norm ?_
 exact XK.aI rfl rfl fun w1 st => ⟨rfl, st.below (by simp)⟩
theorem aBx (low many : Int) (w : World) (hok : okF low many) : Calls Tryz.prog 244 #[.int .i64 low, .int .i64 many] w (fun y w' => (∃ x, y = .returned x ∧ Xo many x w w') ∧ Below w.heap.size w w') := by
 refine XK.enter (vs := [.int .i64 low, .int .i64 many]) Tryz.func244 rfl Tryz.ntmps244 (by simp) ?_
 refine XK.go ?_
 refine bY rfl (by decide) fun g1 => ?_
 refine XK.go ?_
 (first | refine bT (t := 8) rfl (fun hg => ?_) (fun hg => ?_) | refine jH (t := 8) rfl (fun hg => ?_) (fun hg => ?_))
 ·
  refine XK.go ?_
  exact absurd hok (by unfold okF; omega)
 ·
  refine XK.go ?_
  (first | refine bT (t := 12) rfl (fun hg => ?_) (fun hg => ?_) | refine jH (t := 12) rfl (fun hg => ?_) (fun hg => ?_))
  ·
   refine XK.go ?_
   exact absurd hok (by unfold okF; omega)
  ·
   refine XK.go ?_
   (first | refine bT (t := 16) rfl (fun hg => ?_) (fun hg => ?_) | refine jH (t := 16) rfl (fun hg => ?_) (fun hg => ?_))
   ·
    refine XK.go ?_
    exact absurd hok (by unfold okF; omega)
   ·
    refine XK.go ?_
    refine XK.if_ rfl (fun h => ?_) (fun h => ?_)
    ·
     refine XK.go ?_
     exact absurd hok (by unfold okF; omega)
    ·
     refine XK.go ?_
     refine iL (vf := []) (vc := [.pointer (some ⟨g1, 0, none⟩)]) rfl rfl (by decide) ?_
     refine XK.go ?_
     refine XK.still [] [0] [] (by simp) rfl (by decide) (by decide) fun q hq _ hfr => ?_
     refine XK.fQ rfl rfl rfl fun w1 st => ⟨⟨_, rfl, g1, rfl, (RP.pE (o := 0) (v := .int .i64 many) (hq 0 _ (by simp) rfl) rfl).le (st.lK (by simp) (hfr (by simp) (by simp)))⟩, st.below (by simp)⟩
theorem aGo (w0 low many : Int) (w : World) (hok : okF low many) :
  Calls Tryz.prog 250 #[.int .u32 w0, .int .i64 low, .int .i64 many] w (Rt (.tuple #[.int .u32 (bX w0 low many), .int .i64 0]) w) := by
 refine XK.enter (vs := [.int .u32 w0, .int .i64 low, .int .i64 many]) Tryz.func250 rfl Tryz.ntmps250 (by simp) ?_
 refine XK.seq ?_
 refine XK.region ?_
 refine aL rfl (by decide) ?_
 refine aL rfl (by decide) ?_
 refine XK.aE ?_
 refine XK.seq ?_
 refine XK.region ?_
 refine aG rfl (by decide) ?_
 refine aG rfl (by decide) ?_
 refine iY [] (f := 244) (fi := []) (ca := []) (by kernel_rfl) rfl rfl (by decide) (by simp) (Xo many) (fun w1 st => aBx low many w1 hok) ?_
 rintro _ w1 q1 ⟨g, rfl, bM⟩ hf _ _
 have bM := bM.le hf
 clear hf
 refine aG rfl (by decide) ?_
 refine sJ rfl rfl (by decide) ?_
 refine sJ rfl rfl (by decide) ?_
 refine aL rfl (by decide) ?_
 refine aL rfl (by decide) ?_
 refine XK.aE ?_
 refine XK.seq ?_
 refine XK.seq ?_
 refine XK.region ?_
 refine aG rfl (by decide) ?_
 (first | refine yU rfl (by decide) ?_ | refine yV rfl (by decide) ?_)
 refine XK.aE ?_
 refine XK.cond rfl (fun h => ?_) (fun h => ?_)
 ·
  refine XK.seq ?_
  refine XK.region ?_
  refine aL rfl (by decide) ?_
  refine aL rfl (by decide) ?_
  refine XK.aE ?_
  refine XK.ret ?_
  refine XK.norm ?_
  exact absurd h (by simp)
 ·
  refine XK.skip ?_
  refine XK.norm ?_
  refine XK.seq ?_
  refine XK.draw 5 (by kernel_rfl) (by kernel_rfl) ?_
  refine XA.dA 0 rfl rfl rfl (cI rfl) ?_
  refine XA.dA 1 rfl rfl rfl (cI rfl) ?_
  refine XA.dA 2 rfl rfl rfl (aB8 rfl rfl (by unfold okF at hok; omega) rfl) ?_
  refine XA.dA 3 rfl rfl rfl (cI rfl) ?_
  refine XA.next 4 rfl (by kernel_rfl) ?_
  refine aY (f := 258) (fi := []) (ca := [.pointer (some ⟨g, 0, none⟩)]) (by kernel_rfl) rfl rfl (by decide) (fun w1 st => Vy 0 many g w1 (bM.le (st.le (by simp))) (by unfold okF at hok; omega) (by unfold okF at hok; omega)) ?_
  refine XA.bk ?_
  refine XA.next 5 rfl (by kernel_rfl) ?_
  refine Qu (c := bX w0 low many) rfl rfl (fun _ => rfl) (by simp) (by decide) ?_
  refine XA.bt ?_
  refine XA.next 6 rfl (by kernel_rfl) ?_
  refine aL rfl (by decide) ?_
  refine XA.bt ?_
  refine XA.next 7 rfl (by kernel_rfl) ?_
  refine aL rfl (by decide) ?_
  refine XA.bt ?_
  refine XA.done (by kernel_rfl) ?_
  refine XK.norm ?_
  refine XK.ret ?_
  refine XK.norm ?_
  exact XK.fQ rfl rfl rfl fun w1 st => ⟨rfl, st.below (by simp)⟩
theorem aDR (w0 low many v : Int) (w : World) (hok : okF low many) :
  Calls Tryz.prog 218 #[.int .u32 w0, .int .i64 low, .int .i64 many, .int .u32 v] w (Rt (.tuple #[.int .u32 (Bh w0 low many v).1, .int .i64 (Bh w0 low many v).2]) w) := by
 refine XK.enter (vs := [.int .u32 w0, .int .i64 low, .int .i64 many, .int .u32 v]) Tryz.func218 rfl Tryz.ntmps218 (by simp) ?_
 refine XK.seq ?_
 refine XK.region ?_
 refine aL rfl (by decide) ?_
 refine aL rfl (by decide) ?_
 refine XK.aE ?_
 refine XK.seq ?_
 refine XK.region ?_
 refine aG rfl (by decide) ?_
 refine aG rfl (by decide) ?_
 refine iY [] (f := 244) (fi := []) (ca := []) (by kernel_rfl) rfl rfl (by decide) (by simp) (Xo many) (fun w1 st => aBx low many w1 hok) ?_
 rintro _ w1 q1 ⟨g, rfl, bM⟩ hf _ _
 have bM := bM.le hf
 clear hf
 refine aG rfl (by decide) ?_
 refine sJ rfl rfl (by decide) ?_
 refine sJ rfl rfl (by decide) ?_
 refine aL rfl (by decide) ?_
 refine aL rfl (by decide) ?_
 refine XK.aE ?_
 refine XK.seq ?_
 refine XK.seq ?_
 refine XK.region ?_
 refine aG rfl (by decide) ?_
 (first | refine yU rfl (by decide) ?_ | refine yV rfl (by decide) ?_)
 refine XK.aE ?_
 refine XK.cond rfl (fun h => ?_) (fun h => ?_)
 ·
  refine XK.seq ?_
  refine XK.region ?_
  refine aL rfl (by decide) ?_
  refine aL rfl (by decide) ?_
  refine XK.aE ?_
  refine XK.ret ?_
  refine XK.norm ?_
  exact absurd h (by simp)
 ·
  refine XK.skip ?_
  refine XK.norm ?_
  refine XK.seq ?_
  refine XK.seq ?_
  refine XK.region ?_
  refine aG rfl (by decide) ?_
  refine aG rfl (by decide) ?_
  refine aY (f := 258) (fi := []) (ca := [.pointer (some ⟨g, 0, none⟩)]) (by kernel_rfl) rfl rfl (by decide) (fun w1 st => Vy 0 many g w1 (bM.le (st.le (by simp))) (by unfold okF at hok; omega) (by unfold okF at hok; omega)) ?_
  refine Qu (c := Lu v (zG many 0)) rfl rfl (fun _ => rfl) (by simp) (by decide) ?_
  refine oP rfl rfl (by decide) ?_
  refine XK.aE ?_
  refine XK.if_ rfl (fun h => ?_) (fun h => ?_)
  ·
   refine XK.seq ?_
   refine XK.region ?_
   refine aL rfl (by decide) ?_
   refine aL rfl (by decide) ?_
   refine XK.aE ?_
   refine XK.ret ?_
   refine XK.norm ?_
   refine XK.fQ rfl rfl rfl fun w1 st => ⟨by rw [Bh, if_pos h], st.below (by simp)⟩
  ·
   refine XK.skip ?_
   refine XK.norm ?_
   refine XK.seq ?_
   refine XK.draw 8 (by kernel_rfl) (by kernel_rfl) ?_
   refine XA.dA 0 rfl rfl rfl (cI rfl) ?_
   refine XA.dA 1 rfl rfl rfl (cI rfl) ?_
   refine XA.dA 2 rfl rfl rfl (cI rfl) ?_
   refine XA.dA 5 rfl rfl rfl (cI rfl) ?_
   refine XA.dA 6 rfl rfl rfl (cI rfl) ?_
   refine XA.dA 7 rfl rfl rfl (aHj rfl rfl (by unfold okF at hok; omega) rfl) ?_
   refine XA.next 3 rfl (by kernel_rfl) ?_
   refine aY (f := 258) (fi := []) (ca := [.pointer (some ⟨g, 0, none⟩)]) (by kernel_rfl) rfl rfl (by decide) (fun w1 st => Vy low many g w1 (bM.le (st.le (by simp))) (by unfold okF at hok; omega) (by unfold okF at hok; omega)) ?_
   refine XA.bk ?_
   refine XA.dA 4 rfl rfl rfl (aBB (c := Lu w0 (zG many low)) rfl rfl (fun _ => rfl) (by simp)) ?_
   refine XA.next 8 rfl (by kernel_rfl) ?_
   refine Qu (c := Nl (Lu w0 (zG many low)) (IntKind.u32.wrap (v * 2 ^ min low.toNat 32))) rfl rfl (fun _ => rfl) (by simp) (by decide) ?_
   refine XA.bt ?_
   refine XA.next 9 rfl (by kernel_rfl) ?_
   refine aL rfl (by decide) ?_
   refine XA.bt ?_
   refine XA.next 10 rfl (by kernel_rfl) ?_
   refine aL rfl (by decide) ?_
   refine XA.bt ?_
   refine XA.done (by kernel_rfl) ?_
   refine XK.norm ?_
   refine XK.ret ?_
   refine XK.norm ?_
   refine XK.fQ rfl rfl rfl fun w1 st => ⟨by rw [Bh, if_neg h], st.below (by simp)⟩
theorem Ia (w0 low many : Int) (w : World) (hok : okF low many) :
  Calls Tryz.prog 230 #[.int .u32 w0, .int .i64 low, .int .i64 many] w (Rt (.int .i64 (bX w0 low many)) w) := by
 refine XK.enter (vs := [.int .u32 w0, .int .i64 low, .int .i64 many]) Tryz.func230 rfl Tryz.ntmps230 (by simp) ?_
 refine XK.go ?_
 refine aY (f := 250) (fi := []) (ca := []) (by kernel_rfl) rfl rfl (by decide) (fun w1 st => aGo w0 low many w1 hok) ?_
 refine XK.go ?_
 refine rH (ds := .int .u32) (by kernel_rfl) (by kernel_rfl) rfl (bA (by have := Yt (BitVec.ofInt 32 (w0.fdiv (2 ^ min low.toNat 32)) &&& BitVec.ofInt 32 (zG many 0)).toNat; unfold bX Qh; omega)) (by decide) ?_
 refine XK.go ?_
 exact XK.aI rfl rfl fun w1 st => ⟨rfl, st.below (by simp)⟩
theorem Ng (w0 low many v : Int) (w : World) (hok : okF low many) :
  Calls Tryz.prog 149 #[.int .u32 w0, .int .i64 low, .int .i64 many, .int .i64 v] w (Rt (.tuple #[.int .u32 (eU w0 low many v).1, .int .i64 (eU w0 low many v).2]) w) := by
 refine XK.enter (vs := [.int .u32 w0, .int .i64 low, .int .i64 many, .int .i64 v]) Tryz.func149 rfl Tryz.ntmps149 (by simp) ?_
 refine XK.seq ?_
 refine XK.region ?_
 refine aL rfl (by decide) ?_
 refine aL rfl (by decide) ?_
 refine XK.aE ?_
 refine XK.seq ?_
 refine XK.seq ?_
 refine XK.region ?_
 refine aG rfl (by decide) ?_
 refine hJ rfl rfl (by decide) ?_
 refine aG rfl (by decide) ?_
 (first | refine bT (t := 13) rfl (fun hg => ?_) (fun hg => ?_) | refine jH (t := 13) rfl (fun hg => ?_) (fun hg => ?_))
 ·
  refine aP rfl rfl rfl (by decide) ?_
  refine aP rfl rfl rfl (by decide) ?_
  refine aP rfl rfl rfl (by decide) ?_
  refine aP rfl rfl rfl (by decide) ?_
  (first | refine cL rfl rfl (by decide) ?_ | refine cM rfl rfl (by decide) ?_)
  refine XK.aE ?_
  refine XK.cond rfl (fun _ => ?_) (fun h => by cases h)
  refine XK.seq ?_
  refine XK.region ?_
  refine aL rfl (by decide) ?_
  refine aL rfl (by decide) ?_
  refine XK.aE ?_
  refine XK.ret ?_
  refine XK.norm ?_
  refine XK.fQ rfl rfl rfl fun w1 st => ⟨by rw [eU, if_pos (.inl hg)], st.below (by simp)⟩
 ·
  refine aS rfl rfl ?_; refine aG rfl (by decide) ?_
  refine aS rfl rfl ?_; refine aG rfl (by decide) ?_
  refine aS rfl rfl ?_; refine Dj rfl rfl (by unfold okF at hok; omega) rfl (by decide) ?_
  refine aS rfl rfl ?_; refine yW rfl rfl (by decide) ?_
  (first | refine cL rfl rfl (by decide) ?_ | refine cM rfl rfl (by decide) ?_)
  refine XK.aE ?_
  refine XK.if_ rfl (fun h => ?_) (fun h => ?_)
  ·
   refine XK.seq ?_
   refine XK.region ?_
   refine aL rfl (by decide) ?_
   refine aL rfl (by decide) ?_
   refine XK.aE ?_
   refine XK.ret ?_
   refine XK.norm ?_
   refine XK.fQ rfl rfl rfl fun w1 st => ⟨by rw [eU, if_pos (.inr h)], st.below (by simp)⟩
  ·
   refine XK.skip ?_
   have hno : ¬ (v < 0 ∨ IntKind.i64.wrap (1 * 2 ^ min many.toNat 64) ≤ v) := fun h2 => h2.elim hg h
   refine XK.norm ?_
   refine XK.seq ?_
   refine XK.region ?_
   refine aG rfl (by decide) ?_
   refine aG rfl (by decide) ?_
   refine aG rfl (by decide) ?_
   refine aG rfl (by decide) ?_
   refine rH (kd := .u32) (ds := .int .i64) (by kernel_rfl) (by kernel_rfl) rfl rfl (by decide) ?_
   refine aY (f := 218) (fi := []) (ca := []) (by kernel_rfl) rfl rfl (by decide) (fun w1 st => aDR w0 low many (IntKind.u32.wrap v) w1 hok) ?_
   refine aG rfl (by decide) ?_
   refine sJ rfl rfl (by decide) ?_
   refine sJ rfl rfl (by decide) ?_
   refine aL rfl (by decide) ?_
   refine aL rfl (by decide) ?_
   refine XK.aE ?_
   refine XK.seq ?_
   refine XK.seq ?_
   refine XK.region ?_
   refine aG rfl (by decide) ?_
   refine oP rfl rfl (by decide) ?_
   refine XK.aE ?_
   refine XK.if_ rfl (fun h2 => ?_) (fun h2 => ?_)
   ·
    refine XK.seq ?_
    refine XK.region ?_
    refine aL rfl (by decide) ?_
    refine aL rfl (by decide) ?_
    refine XK.aE ?_
    refine XK.ret ?_
    refine XK.norm ?_
    refine XK.fQ rfl rfl rfl fun w1 st => ⟨by rw [eU, if_neg hno, if_pos h2], st.below (by simp)⟩
   ·
    refine XK.skip ?_
    refine XK.norm ?_
    refine XK.seq ?_
    refine XK.region ?_
    refine aG rfl (by decide) ?_
    refine aL rfl (by decide) ?_
    refine aL rfl (by decide) ?_
    refine XK.aE ?_
    refine XK.ret ?_
    refine XK.norm ?_
    refine XK.fQ rfl rfl rfl fun w1 st => ⟨by rw [eU, if_neg hno, if_neg h2]; rfl, st.below (by simp)⟩
end
section
open Go.RowKit Go.Shelf
attribute [local go_sem] Oper.semAt_some
structure Ev where
 kind : Int
 task : Int
 ck : Int
 dev : Int
 Sb : Int
 cv : Int
 err : Int
 rv : Int
 aid : Int
 aIj : Int
 aIk : Bool
 av : Int
 alive : Bool
 wA : Option Addr
 wc : Nat
 ws : List Int
def Ev.cells (e : Ev) : List Value :=
 [.int .u8 e.kind, .int .i64 e.task, .int .u8 e.ck, .int .i64 e.dev, .int .i64 e.Sb, .int .u32 e.cv, .int .i64 e.err, .int .u32 e.rv, .int .i64 e.aid, .int .i64 e.aIj, .bool e.aIk, .int .u32 e.av, .bool e.alive, .slice e.wA e.ws.length e.wc]
theorem Ev.Lr (e : Ev) : e.cells.length = 14 := rfl
def aIp (w : World) (b o : Nat) (e : Ev) : Prop := ∀ f u, e.cells[f]? = some u → w.cell? ⟨b, o + f, none⟩ = some u
def kK (zs : List Int) : List Value := zs.map (Value.int .u32)
def aIo (w : World) (B : Nat) (e : Ev) : Prop := Sl w B 1 e.wA e.ws.length (kK e.ws)
def Ap (w : World) (B : Nat) (A : Option Addr) (cV : List Ev) : Prop := Sl w B 14 A cV.length (cV.flatMap Ev.cells) ∧ ∀ e ∈ cV, aIo w B e
theorem Ap.at_ {w : World} {B : Nat} {A : Option Addr} {cV : List Ev} (h : Ap w B A cV) {k : Nat} {e : Ev} (hk : cV[k]? = some e) :
  ∃ b off, A = some ⟨b, off, none⟩ ∧ b < B ∧ aIp w b (off + k * 14) e := by
 have hlt : k < cV.length := by
  rcases Nat.lt_or_ge k cV.length with h | h
  ·exact h
  ·rw [List.getElem?_eq_none h] at hk; cases hk
 obtain ⟨b, off, hA, hb, hc⟩ := Sl.at_ h.1 hlt
 refine ⟨b, off, hA, hb, fun f u hu => ?_⟩
 have hf : f < 14 := by
  rcases Nat.lt_or_ge f 14 with h | h
  ·exact h
  ·rw [List.getElem?_eq_none (by rw [Ev.Lr]; exact h)] at hu; cases hu
 exact hc f u (by rw [Co Ev.cells 14 cV (fun _ _ => rfl) k f e hk hf]; exact hu)
theorem Ap.below {w w' : World} {B : Nat} {A : Option Addr} {cV : List Ev} (h : Ap w B A cV) (hb : Below B w w') : Ap w' B A cV := ⟨h.1.below hb, fun e he => (h.2 e he).below hb⟩
theorem Ap.thn {w w' : World} {A : Option Addr} {cV : List Ev} (h : Ap w w.heap.size A cV) (hb : Below w.heap.size w w') : Ap w' w'.heap.size A cV := ⟨h.1.thn hb, fun e he => (h.2 e he).thn hb⟩
end
section
set_option maxHeartbeats 4000000
set_option maxRecDepth 20000
def eF (m t p k : Int) : Int × Int :=
 if (eU 0 0 8 m).2 ≠ 0 then (0, (eU 0 0 8 m).2)
 else if (eU (eU 0 0 8 m).1 8 2 t).2 ≠ 0 then (0, (eU (eU 0 0 8 m).1 8 2 t).2)
 else if (eU (eU (eU 0 0 8 m).1 8 2 t).1 10 8 p).2 ≠ 0 then (0, (eU (eU (eU 0 0 8 m).1 8 2 t).1 10 8 p).2)
 else if (eU (eU (eU (eU 0 0 8 m).1 8 2 t).1 10 8 p).1 18 10 k).2 ≠ 0 then (0, (eU (eU (eU (eU 0 0 8 m).1 8 2 t).1 10 8 p).1 18 10 k).2)
 else ((eU (eU (eU (eU 0 0 8 m).1 8 2 t).1 10 8 p).1 18 10 k).1, 0)
def Cc (m t p k : Int) : List Value := [.int .i64 m, .int .i64 t, .int .i64 p, .int .i64 k]
def Bb (w : Int) : List Value := if bX w 28 4 ≠ 0 then Cc 0 0 0 0 else Cc (bX w 0 8) (bX w 8 2) (bX w 10 8) (bX w 18 10)
def rJ (w : Int) : Int := if bX w 28 4 ≠ 0 then 2 else 0
theorem Gp (l : List Int) : ∀ u ∈ kK l, u.oneCell' = true := by
 intro u hu
 simp only [kK, List.mem_map] at hu
 obtain ⟨_, _, rfl⟩ := hu
 rfl
def Mb (l : List Int) (v : Value) (w w' : World) : Prop := ∃ A c, v = .slice A l.length c ∧ aH (fresh w w') 1 A l.length (kK l)
theorem aEd (m t p k : Int) (w : World) :
  Calls Tryz.prog 69 #[.agg #[.int .i64 m, .int .i64 t, .int .i64 p, .int .i64 k]] w (Rt (.tuple #[.int .u32 (eF m t p k).1, .int .i64 (eF m t p k).2]) w) := by
 refine XK.enter (vs := [.agg #[.int .i64 m, .int .i64 t, .int .i64 p, .int .i64 k]]) Tryz.func69 rfl Tryz.ntmps69 (by simp) ?_
 refine XK.go ?_
 refine bY rfl (by decide) fun g1 => ?_
 refine XK.go ?_
 refine aY (f := 149) (fi := []) (ca := []) (by kernel_rfl) rfl rfl (by decide) (fun w1 st => Ng 0 0 8 m w1 (by unfold okF; omega)) ?_
 refine XK.go ?_
 refine XK.if_ rfl (fun h1 => ?_) (fun h1 => ?_)
 ·
  refine XK.go ?_
  refine XK.fQ rfl rfl rfl fun w1 st => ⟨by rw [eF, if_pos h1]; rfl, st.below (by simp)⟩
 ·
  refine XK.go ?_
  refine aY (f := 149) (fi := []) (ca := []) (by kernel_rfl) rfl rfl (by decide) (fun w1 st => Ng (eU 0 0 8 m).1 8 2 t w1 (by unfold okF; omega)) ?_
  refine XK.go ?_
  refine XK.if_ rfl (fun h2 => ?_) (fun h2 => ?_)
  ·
   refine XK.go ?_
   refine XK.fQ rfl rfl rfl fun w1 st => ⟨by rw [eF, if_neg h1, if_pos h2]; rfl, st.below (by simp)⟩
  ·
   refine XK.go ?_
   refine aY (f := 149) (fi := []) (ca := []) (by kernel_rfl) rfl rfl (by decide) (fun w1 st => Ng (eU (eU 0 0 8 m).1 8 2 t).1 10 8 p w1 (by unfold okF; omega)) ?_
   refine XK.go ?_
   refine XK.if_ rfl (fun h3 => ?_) (fun h3 => ?_)
   ·
    refine XK.go ?_
    refine XK.fQ rfl rfl rfl fun w1 st => ⟨by rw [eF, if_neg h1, if_neg h2, if_pos h3]; rfl, st.below (by simp)⟩
   ·
    refine XK.go ?_
    refine aY (f := 149) (fi := []) (ca := []) (by kernel_rfl) rfl rfl (by decide) (fun w1 st => Ng (eU (eU (eU 0 0 8 m).1 8 2 t).1 10 8 p).1 18 10 k w1 (by unfold okF; omega)) ?_
    refine XK.go ?_
    refine XK.if_ rfl (fun h4 => ?_) (fun h4 => ?_)
    ·
     refine XK.go ?_
     refine XK.fQ rfl rfl rfl fun w1 st => ⟨by rw [eF, if_neg h1, if_neg h2, if_neg h3, if_pos h4]; rfl, st.below (by simp)⟩
    ·
     refine XK.go ?_
     refine XK.fQ rfl rfl rfl fun w1 st => ⟨by rw [eF, if_neg h1, if_neg h2, if_neg h3, if_neg h4]; rfl, st.below (by simp)⟩
theorem Ys (w0 : Int) (w : World) :
  Calls Tryz.prog 175 #[.int .u32 w0] w (Rt (.tuple #[.agg (Bb w0).toArray, .int .i64 (rJ w0)]) w) := by
 refine XK.enter (vs := [.int .u32 w0]) Tryz.func175 rfl Tryz.ntmps175 (by simp) ?_
 refine XK.go ?_
 refine bZ (cs := [.int .i64 0, .int .i64 0, .int .i64 0, .int .i64 0]) (aM (by kernel_rfl)) (by decide) fun g1 => ?_
 refine XK.go ?_
 refine aY (f := 230) (fi := []) (ca := []) (by kernel_rfl) rfl rfl (by decide) (fun w1 st => Ia w0 28 4 w1 (by unfold okF; omega)) ?_
 refine XK.go ?_
 refine XK.if_ rfl (fun h => ?_) (fun h => ?_)
 ·
  refine XK.go ?_
  refine dB (zs := [.int .i64 0, .int .i64 0, .int .i64 0, .int .i64 0]) (L := [(0, 1), (1, 1), (2, 1), (3, 1)]) (aM (by kernel_rfl)) (by kernel_rfl) rfl (by simp [aR, aU, Value.cells]; rfl) (by decide) ?_
  refine eJ rfl rfl ?_; simp only [cC, Value.cells, List.set, List.take, List.drop, List.nil_append, List.append_nil, List.length_cons, List.length_nil, List.cons_append, Nat.reduceAdd]
  refine XK.go ?_
  refine XK.Hw rfl (n := 4) (vs := Cc 0 0 0 0) (by kernel_rfl) rfl rfl (aD.whole 0 rfl) rfl fun w1 st => ⟨by rw [Bb, rJ, if_pos h, if_pos h], st.below (by simp)⟩
 ·
  refine XK.go ?_
  refine aY (f := 230) (fi := []) (ca := []) (by kernel_rfl) rfl rfl (by decide) (fun w1 st => Ia w0 0 8 w1 (by unfold okF; omega)) ?_
  refine XK.go ?_
  refine aY (f := 230) (fi := []) (ca := []) (by kernel_rfl) rfl rfl (by decide) (fun w1 st => Ia w0 8 2 w1 (by unfold okF; omega)) ?_
  refine XK.go ?_
  refine aY (f := 230) (fi := []) (ca := []) (by kernel_rfl) rfl rfl (by decide) (fun w1 st => Ia w0 10 8 w1 (by unfold okF; omega)) ?_
  refine XK.go ?_
  refine aY (f := 230) (fi := []) (ca := []) (by kernel_rfl) rfl rfl (by decide) (fun w1 st => Ia w0 18 10 w1 (by unfold okF; omega)) ?_
  refine dB (zs := [.int .i64 0, .int .i64 0, .int .i64 0, .int .i64 0]) (L := [(0, 1), (1, 1), (2, 1), (3, 1)]) (aM (by kernel_rfl)) (by kernel_rfl) rfl (by simp [aR, aU, Value.cells]; rfl) (by decide) ?_
  refine eJ rfl rfl ?_; simp only [cC, Value.cells, List.set, List.take, List.drop, List.nil_append, List.append_nil, List.length_cons, List.length_nil, List.cons_append, Nat.reduceAdd]
  refine XK.go ?_
  refine XK.Hw rfl (n := 4) (vs := Cc (bX w0 0 8) (bX w0 8 2) (bX w0 10 8) (bX w0 18 10)) (by kernel_rfl) rfl rfl (aD.whole 0 rfl) rfl fun w1 st => ⟨by rw [Bb, rJ, if_neg h, if_neg h], st.below (by simp)⟩
theorem aD3 (w0 : Int) (A : Option Addr) (n c : Nat) (zs : List Int) (w : World) (hs : aH (all w) 1 A n (kK zs)) (hn : n = zs.length) (hn2 : n ≤ 1000000) : Calls Tryz.prog 70 #[.int .u32 w0, .slice A n c] w (fun y w' => (∃ x, y = .returned x ∧ Mb (w0 :: zs) x w w') ∧ Below w.heap.size w w') := by
 refine XK.enter (vs := [.int .u32 w0, .slice A n c]) Tryz.func70 rfl Tryz.ntmps70 (by simp) ?_
 refine XK.go ?_
 refine Yf 1 4 (el := 44) (c := n + 1) (k0 := 1) (oB := .i64) (by kernel_rfl) (by kernel_rfl) rfl (by rw [Int.natCast_add]; rfl) (by omega) (by omega) (by decide) fun g1 => ?_
 refine XK.go ?_
 refine eP (el := 44) (sz := 1) (zs := [.int .u32 0]) (by kernel_rfl) (aM (by kernel_rfl)) (by kernel_rfl) rfl (by decide) (by decide) rfl (by simp [aR, aU, Value.cells, List.range_succ, List.set]; rfl) (by decide) fun g2 => ?_
 refine fI 1 1 4 1 (n' := 1) (el := 44) (by kernel_rfl) (by kernel_rfl) (by decide) rfl rfl rfl (kL 0 rfl rfl) (by simp [Value.oneCell']) rfl (by omega) (by omega) (by decide) fun A1 c1 => ?_
 dsimp only [List.set]
 refine XK.go ?_
 refine fI 1 1 4 n (n' := n + 1) (el := 44) (by kernel_rfl) (by kernel_rfl) (by decide) rfl rfl rfl (qI (by simp) hs) (Gp _) (by omega) (by omega) (by omega) (by decide) fun A2 c2 => ?_
 dsimp only [List.set]
 refine XK.go ?_
 refine XK.still [] [1] [] (by simp) rfl (by decide) (by decide) fun q hq _ hfr => ?_
 obtain ⟨F2, kF, kB⟩ := hq 1 _ (by simp) rfl
 obtain ⟨Am, cm, hBm, cU⟩ := aH.rN (Y := q.Z) kF kB
 cases hBm
 subst hn
 refine XK.aI rfl rfl fun w1 st => ⟨⟨_, rfl, A2, c2, rfl, ?_⟩, st.below (by simp)⟩
 exact aH.le cU (st.lK (by simp) (hfr (by simp) (by simp)))
def Gc (l : List Int) (v : Value) (w w' : World) : Prop := ∃ A c, v = .tuple #[.slice A l.length c, .int .i64 0] ∧ aH (fresh w w') 1 A l.length (kK l)
theorem Ll (m t p k : Int) (A : Option Addr) (n c : Nat) (zs : List Int) (w : World) (hs : aH (all w) 1 A n (kK zs)) (hn : n = zs.length) (hn2 : n ≤ 1000000) (hok : (eF m t p k).2 = 0) : Calls Tryz.prog 18 #[.agg #[.int .i64 m, .int .i64 t, .int .i64 p, .int .i64 k], .slice A n c] w (fun y w' => (∃ x, y = .returned x ∧ Gc ((eF m t p k).1 :: zs) x w w') ∧ Below w.heap.size w w') := by
 refine XK.enter (vs := [.agg #[.int .i64 m, .int .i64 t, .int .i64 p, .int .i64 k], .slice A n c]) Tryz.func18 rfl Tryz.ntmps18 (by simp) ?_
 refine XK.go ?_
 refine bY rfl (by decide) fun g1 => ?_
 refine XK.go ?_
 refine aY (f := 69) (fi := []) (ca := []) (by kernel_rfl) rfl rfl (by decide) (fun w1 st => aEd m t p k w1) ?_
 refine XK.go ?_
 refine XK.if_ rfl (fun h => ?_) (fun h => ?_)
 ·
  refine XK.go ?_
  exact absurd hok h
 ·
  refine XK.go ?_
  refine iY [] (f := 70) (fi := []) (ca := []) (by kernel_rfl) rfl rfl (by decide) (by simp) (Mb ((eF m t p k).1 :: zs)) (fun w1 st => aD3 (eF m t p k).1 A n c zs w1 (hs.le (st.le (by simp))) hn hn2) ?_
  rintro _ w1 q1 ⟨A1, c1, rfl, h1⟩ hf _ zP
  have zP := zP (by simp)
  have h1 := h1.le hf
  clear hf
  refine XK.go ?_
  refine XK.fQ rfl rfl rfl fun w1 st => ⟨⟨_, rfl, A1, c1, rfl, aH.le h1 (st.lK (by simp) zP)⟩, st.below (by simp)⟩
end
section
theorem aAB (l : List Int) : ∀ u ∈ aO l, u.oneCell' = true := by
 intro u hu
 simp only [aO, List.mem_map] at hu
 obtain ⟨x, _, rfl⟩ := hu
 rfl
end
section
def tQ (g : List (List Int)) : Prop := ∀ (k : Nat) (l : List Int), g[k]? = some l → ∀ u ∈ l, 0 ≤ u ∧ u < (k : Int)
theorem tQ.in {g : List (List Int)} (h : tQ g) : sG g := by
 intro l hl u hu
 obtain ⟨k, hk⟩ := List.getElem?_of_mem hl
 have := h k l hk u hu
 have := (List.getElem?_eq_some_iff.1 hk).1
 omega
theorem tQ.next {g : List (List Int)} (h : tQ g) {k : Nat} (hk : k < g.length) : zF g (List.range k) = some k := by
 refine aAr hk (fun j hj => Sg (by simpa using hj)) ?_
 unfold oZ
 obtain ⟨l, hl⟩ : ∃ l, g[k]? = some l := ⟨_, List.getElem?_eq_getElem hk⟩
 rw [hl]
 simp only [Option.getD_some, Bool.and_eq_true, Bool.not_eq_true', List.all_eq_true]
 refine ⟨by simp, fun u hu => ?_⟩
 have := h k l hl u hu
 simp; omega
theorem tQ.order {g : List (List Int)} (h : tQ g) : ∀ (m k : Nat), k + m = g.length → nV g m (List.range k) = some (List.range g.length)
 | 0, k, hk => by rw [nV]; simp at hk; rw [hk]
 | m + 1, k, hk => by
  rw [nV, h.next (by omega)]
  have := tQ.order h m (k + 1) (by omega)
  rw [List.range_succ] at this
  exact this
theorem tQ.lC {g : List (List Int)} (h : tQ g) (hl : g.length ≤ 100) : lC g = (0, List.range g.length) := by
 have h1 : wV g = false := aBX fun k l hk j u hj => by
  have := h.in l (List.mem_of_getElem? hk) u (List.mem_of_getElem? hj)
  exact this
 have h2 : lZ g = 0 := by unfold lZ; rw [if_neg (by omega), h1]; rfl
 have h3 := h.order g.length 0 (by omega)
 unfold Go.Proofs.YticjkhagldkejaaGreatDoor.lC
 rw [if_neg (by simp [h2])]
 simp only [List.range_zero] at h3
 rw [h3]
end
section
theorem vE {es : List Int} (h : ∀ e ∈ es, e = 0) : gL es = 0 := zT fun j hj => by rw [List.getElem?_eq_getElem hj, h _ (List.getElem_mem hj)]
theorem yY {n lo hi : Int} (h1 : lo ≤ n) (h2 : n ≤ hi) : eT n lo hi = true := by simp [eT, h1, h2]
theorem uB {b : Bool} {e : Int} (h : b = false) : eX b e = 0 := by rw [h]; rfl
section
variable {s : aC} (h : s.made)
include h
theorem aEY : tQ (mI s) := by
 intro k l hl u hu
 simp only [mI, List.getElem?_map, Option.map_eq_some_iff] at hl
 obtain ⟨c, hc, rfl⟩ := hl
 exact (h.aB k c hc).1 u hu
theorem aEW : tQ (mH s) := by
 intro k l hl u hu
 simp only [mH, List.getElem?_map, Option.map_eq_some_iff] at hl
 obtain ⟨d, hd, rfl⟩ := hl
 have := (h.domains k d hd).1
 split at hu
 ·cases hu
 ·rename_i hne
  simp at hu
  subst hu
  exact this.resolve_left hne
theorem aEV : tQ (mA s) := by
 intro k l hl u hu
 simp only [mA, List.getElem?_map, Option.map_eq_some_iff] at hl
 obtain ⟨d, hd, rfl⟩ := hl
 obtain ⟨_, _, _, _, _, _, _, _, _, _, _, h1⟩ := h.aA k d hd
 exact h1 u hu
theorem aA3 : s.small := by
 refine ⟨by have := h.nc; omega, by have := h.nd; omega, by have := h.nr; omega, by have := h.nv; omega, fun c hc => ?_, fun d hd => ?_⟩
 ·obtain ⟨k, hk⟩ := List.getElem?_of_mem hc
  rcases (h.aB k c hk).2 with h1 | h1 | h1 | h1 | h1
  ·rw [h1.2.1]; simp
  all_goals (have := h1.2.1; omega)
 ·obtain ⟨k, hk⟩ := List.getElem?_of_mem hd
  obtain ⟨_, _, _, _, _, _, _, _, _, _, h1, _⟩ := h.aA k d hk
  omega
theorem aEU : lC (mI s) = (0, List.range s.aB.length) ∧ lC (mH s) = (0, List.range s.domains.length) ∧ lC (mA s) = (0, List.range s.aA.length) := by
 refine ⟨?_, ?_, ?_⟩
 ·have := (aEY h).lC (by simp [mI]; have := h.nc; omega)
  simpa [mI] using this
 ·have := (aEW h).lC (by simp [mH]; have := h.nd; omega)
  simpa [mH] using this
 ·have := (aEV h).lC (by simp [mA]; have := h.nv; omega)
  simpa [mA] using this
theorem aEZ {k : Nat} {c : dG} (hc : s.aB[k]? = some c) : Cw s.aB.length c = 0 := by
 have hk := (List.getElem?_eq_some_iff.1 hc).1
 obtain ⟨h1, h2⟩ := h.aB k c hc
 refine vE fun e he => ?_
 simp only [List.mem_cons, List.not_mem_nil, or_false] at he
 rcases he with rfl | rfl | rfl
 ·refine uB ?_
  rcases h2 with h2 | h2 | h2 | h2 | h2
  ·simp [iB, h2.1, h2.2.1]
  ·simp [iB, h2.1, h2.2.1]
  ·simp [iB, h2.1, h2.2.1]
  ·simp [iB, h2.1, h2.2.1]
  ·simp [iB, h2.1, h2.2.1, eT]
 ·refine vE fun e he => ?_
  simp only [List.mem_map] at he
  obtain ⟨f, hf, rfl⟩ := he
  have := h1 f hf
  exact uB (by rw [yY (by omega) (by omega)]; rfl)
 ·refine uB ?_
  rcases h2 with h2 | h2 | h2 | h2 | h2
  ·obtain ⟨h3, _, h4, h5, _⟩ := h2
   simp [nW, h3]; omega
  ·obtain ⟨h3, _, _, h4, h5, h6, h7, h8, h9⟩ := h2
   simp [nW, h3, eT]; omega
  ·obtain ⟨h3, _, _, _, h4, h5, _⟩ := h2
   simp [nW, h3, eT]; omega
  ·simp [nW, h2.1]
  ·simp [nW, h2.1]
theorem aEX {k : Nat} {d : Dom} (hd : s.domains[k]? = some d) : Fh s.domains.length d = 0 := by
 have hk := (List.getElem?_eq_some_iff.1 hd).1
 obtain ⟨h1, h2, h3⟩ := h.domains k d hd
 refine vE fun e he => ?_
 simp only [List.mem_cons, List.not_mem_nil, or_false] at he
 rcases he with rfl | rfl
 ·refine uB ?_
  rcases h1 with h1 | h1
  ·simp [h1]
  ·rw [yY (by omega) (by omega)]; simp
 ·exact uB (by rw [yY (by omega) (by omega)]; rfl)
theorem aA4 {k : Nat} {d : bB} (hd : s.aA[k]? = some d) : Fm s.aB.length s.domains.length s.aW.length s.aA.length d = 0 ∧ Ed d = 0 := by
 have hk := (List.getElem?_eq_some_iff.1 hd).1
 obtain ⟨a1, a2, a3, a4, a5, a6, _, _, a7, _, a8, a9⟩ := h.aA k d hd
 refine ⟨vE fun e he => ?_, ?_⟩
 ·simp only [List.mem_cons, List.not_mem_nil, or_false] at he
  rcases he with rfl | rfl | rfl | rfl
  ·exact uB (by rw [yY (by omega) (by omega)]; rfl)
  ·exact uB (by rw [yY (by omega) (by omega)]; rfl)
  ·exact uB (by rw [yY (by omega) (by omega)]; rfl)
  ·refine vE fun e he => ?_
   simp only [List.mem_map] at he
   obtain ⟨f, hf, rfl⟩ := he
   have := a9 f hf
   exact uB (by rw [yY (by omega) (by omega)]; rfl)
 ·refine uB ?_
  simp
  omega
theorem aFa : Px s = 0 := by
 obtain ⟨o1, o2, o3⟩ := aEU h
 refine vE fun e he => ?_
 simp only [Py, List.mem_cons, List.not_mem_nil, or_false] at he
 have h1 := h.nc
 have h2 := h.nd
 have h3 := h.nr
 have h4 := h.nv
 rcases he with rfl | rfl | rfl | rfl | rfl | rfl | rfl | rfl
 ·rw [xX, if_neg (by omega)]
  refine vE fun e he => ?_
  obtain ⟨d, hd, rfl⟩ := List.mem_map.1 he
  obtain ⟨k, hk⟩ := List.getElem?_of_mem hd
  exact (aA4 h hk).2
 ·refine vE fun e he => ?_
  obtain ⟨d, hd, rfl⟩ := List.mem_map.1 he
  obtain ⟨k, hk⟩ := List.getElem?_of_mem hd
  exact aEZ h hk
 ·rw [wQ, o1]; rfl
 ·refine vE fun e he => ?_
  obtain ⟨d, hd, rfl⟩ := List.mem_map.1 he
  obtain ⟨k, hk⟩ := List.getElem?_of_mem hd
  exact aEX h hk
 ·rw [wQ, o2]; rfl
 ·refine vE fun e he => ?_
  obtain ⟨d, hd, rfl⟩ := List.mem_map.1 he
  have := h.aW d hd
  exact uB (by rw [yY (by omega) (by omega)]; rfl)
 ·refine vE fun e he => ?_
  obtain ⟨d, hd, rfl⟩ := List.mem_map.1 he
  obtain ⟨k, hk⟩ := List.getElem?_of_mem hd
  exact (aA4 h hk).1
 ·rw [wQ, o3]; rfl
end
structure aC.rM (s : aC) : Prop where
 aB : Fits dG.fit s.aB
 aA : Fits (bB.fit s.aB.length s.domains.length s.aW.length) s.aA
 nc : s.aB.length ≤ 9
 nd : s.domains.length ≤ 4
 nr : s.aW.length ≤ 3
 nv : s.aA.length ≤ 4
 Fs : Px s = 0
 small : s.small
theorem aC.made.rM {s : aC} (h : s.made) : s.rM := ⟨h.aB, h.aA, h.nc.2, h.nd.2, h.nr.2, h.nv.2, aFa h, aA3 h⟩
end
section
def Pq : Value → Value → Bool
 | .int _ a, .int _ b => a == b
 | .bool a, .bool b => a == b
 | _, _ => false
def Fb : List Value → List Value → Bool
 | [], [] => true
 | x :: xs, y :: ys => Pq x y && Fb xs ys
 | _, _ => false
def zS (P : Program) : List Field → Nat → List Value → List Value → Bool
 | [], _, [], [] => true
 | f :: fs, i, x :: xs, y :: ys => f.name != "_" && f.offset == i && (match P.underlying f.type, x, y with
   | some (.int _), .int kx _, .int ky _ => decide (kx = ky)
   | some .bool, .bool _, .bool _ => true
   | _, _, _ => false) && zS P fs (i + 1) xs ys
 | _, _, _, _ => false
section
variable {P : Program} {w : World}
theorem Mx {t : TypeId} {cs : Array Value} {i : Nat} {v : Value} {d : TypeDesc} (hu : P.underlying t = some d) (hd : (∃ k, d = .int k) ∨ d = .bool) (hx : cs[i]? = some v) : (part t cs i).run P w = .ok v w := by
 rcases hd with ⟨k, rfl⟩ | rfl <;> simp [part, isAgg, run_underlying hu, hx]
theorem Zs (d : Nat) (xs ys : Array Value) : ∀ (fs : List Field) (i : Nat), zS P fs i (xs.toList.drop i) (ys.toList.drop i) = true → (Op.eqFields (d + 1) xs ys fs).run P w = .ok (Fb (xs.toList.drop i) (ys.toList.drop i)) w
 | [], i, h => by
  cases hx : xs.toList.drop i with
  | nil => cases hy : ys.toList.drop i with
   | nil => simp [Op.eqFields, Fb]
   | cons y yr => rw [hx, hy] at h; simp [zS] at h
  | cons x xr => rw [hx] at h; simp [zS] at h
 | f :: fs, i, h => by
  cases hx : xs.toList.drop i with
  | nil => rw [hx] at h; simp [zS] at h
  | cons x xr =>
   cases hy : ys.toList.drop i with
   | nil => rw [hx, hy] at h; simp [zS] at h
   | cons y yr =>
    rw [hx, hy] at h
    simp only [zS, Bool.and_eq_true, bne_iff_ne, beq_iff_eq] at h
    obtain ⟨⟨⟨h1, h2⟩, h3⟩, h4⟩ := h
    have ex : xs[i]? = some x := by
     have : (xs.toList.drop i)[0]? = some x := by rw [hx]; rfl
     simpa using this
    have ey : ys[i]? = some y := by
     have : (ys.toList.drop i)[0]? = some y := by rw [hy]; rfl
     simpa using this
    have dx : xr = xs.toList.drop (i + 1) := by rw [← List.tail_drop, hx]; rfl
    have dy : yr = ys.toList.drop (i + 1) := by rw [← List.tail_drop, hy]; rfl
    subst dx
    subst dy
    have ih := Zs d xs ys fs (i + 1) h4
    have key : ∃ u, P.underlying f.type = some u ∧ ((∃ k, u = .int k) ∨ u = .bool) ∧ (Op.equalIn (d + 1) f.type x y).run P w = .ok (Pq x y) w := by
     split at h3
     ·rename_i k kx a ky b hu
      have := of_decide_eq_true h3
      subst this
      exact ⟨_, hu, .inl ⟨_, rfl⟩, run_equalIn_int w d f.type kx _ a b hu⟩
     ·rename_i a b hu
      exact ⟨_, hu, .inr rfl, run_equalIn_bool' w d f.type a b hu⟩
     ·cases h3
    obtain ⟨u, hu, hk, he⟩ := key
    simp only [Op.eqFields, if_pos h1, Sem.run_bind, h2, Mx hu hk ex, Mx hu hk ey, Result.andThen_ok, he, Sem.run_ite, Sem.run_pure, ih, Fb]
    cases Pq x y <;> simp
variable {N : cN} {w0 : World} {e : Env} {R : List Piece} {H : List HP} {Q : Exit → Act → World → Prop} {ops : Array Oper} {rest : List Oper}
variable {d : Nat} {ty : TypeId} {pos : String} {aJ : Array Edge}
def Fa (P : Program) (t : TypeId) (xs ys : List Value) : Bool := (match P.underlying t with
 | some (.struct fs) => zS P fs.toList 0 xs ys
 | _ => false) && !P.stoodInHeld t && !P.eqGuardType P.depth t
theorem aDs {t : TypeId} {xs ys : List Value} (h : Fa P t xs ys = true) : (Op.equal t (.agg xs.toArray) (.agg ys.toArray)).run P w = .ok (Fb xs ys) w ∧ ∀ op x y, (eqGuard op t x y (.agg xs.toArray) (.agg ys.toArray)).run P w = .ok () w := by
 unfold Fa at h
 simp only [Bool.and_eq_true, Bool.not_eq_true'] at h
 obtain ⟨⟨h1, h2⟩, h3⟩ := h
 refine ⟨?_, fun op x y => run_eqGuard_agg w op t x y _ _ h3⟩
 split at h1
 ·rename_i fs hu
  have hf : P.fieldsOf t = fs := by unfold Program.fieldsOf; rw [hu]
  have := run_equalIn_struct (P := P) w 9999 t xs.toArray ys.toArray (by rw [hf]; exact hu) h2
  unfold Op.equal Op.maxDepth
  rw [this, hf]
  have := Zs (P := P) (w := w) 9998 xs.toArray ys.toArray fs.toList 0 (by simpa using h1)
  simpa using this
 ·cases h1
theorem aCA {x y : Operand} {t u : TypeId} {b c : Bool} (ht : P.underlying t = some .bool) (hx : e.ev x = some (.bool b)) (hy : e.ev y = some (.bool c)) (hd : d < N.n) (k : XK N w0 (wpList P ops Q rest) ((d, .bool (b == c)) :: e) R H) :
  XK N w0 (wpList P ops Q (⟨some d, .binOp .eql t x y u, ty, pos, aJ, none⟩ :: rest)) e R H := fW hd (fun a w hr => by
 simp [execOp, hr.ev hx, hr.ev hy, eqGuard, binOp, run_equal_bool w t b c ht]) k
end
end
section
structure bE where
 d : List Bool
 c : List Bool
 l : List Bool
def pS (p : Piece) (x : bE) (v : Value) : Prop := ∃ A1 k1 A2 k2 A3 k3, v = .agg #[.slice A1 x.d.length k1, .slice A2 x.c.length k2, .slice A3 x.l.length k3] ∧
 aH p 1 A1 x.d.length (bP x.d) ∧ aH p 1 A2 x.c.length (bP x.c) ∧ aH p 1 A3 x.l.length (bP x.l)
theorem pS.le {p q : Piece} {x : bE} {v : Value} (h : pS p x v) (hl : p.Le q) : pS q x v := by
 obtain ⟨A1, k1, A2, k2, A3, k3, h0, h1, h2, h3⟩ := h
 exact ⟨A1, k1, A2, k2, A3, k3, h0, h1.le hl, h2.le hl, h3.le hl⟩
def Ql (Rl : Value → World → World → Prop) (w : World) : Ending → World → Prop := fun y w' => (∃ v, y = .returned v ∧ Rl v w w') ∧ Below w.heap.size w w'
def Ru (a b : List Bool) : Bool := decide (a = b)
def bE.same (x y : bE) : Bool := Ru x.d y.d && Ru x.c y.c && Ru x.l y.l
end
section
structure bE.sm (x : bE) : Prop where
 d : x.d.length ≤ 1000000
 c : x.c.length ≤ 1000000
 l : x.l.length ≤ 1000000
theorem tK (l : List Bool) : ∀ u ∈ bP l, u.oneCell' = true := by
 intro u hu
 simp only [bP, List.mem_map] at hu
 obtain ⟨x, _, rfl⟩ := hu
 rfl
structure sD.ok (p : sD) : Prop where
 pr : -9223372036854775808 ≤ p.pr ∧ p.pr ≤ 9223372036854775807
 msg : -9223372036854775808 ≤ p.msg ∧ p.msg ≤ 9223372036854775807
 id : 0 ≤ p.id ∧ p.id < 4294967296
 v : 0 ≤ p.v ∧ p.v < 4294967296
end
section
structure pV (p : Piece) (s : aC) (A1 : Option Addr) (n1 : Nat) (A2 : Option Addr) (n2 : Nat) (A3 : Option Addr) (n3 : Nat) (A4 : Option Addr) (n4 : Nat) : Prop where
 fH : eO (dU p) (iX (dU p)) 118 6 A1 n1 s.aB
 dom : eO (dU p) tS 75 3 A2 n2 s.domains
 rL : eO (dU p) tO 120 1 A3 n3 s.aW
 dev : eO (dU p) (jQ (dU p)) 78 6 A4 n4 s.aA
section
variable {p q : Piece} {w : World} {s : aC} {A1 A2 A3 A4 : Option Addr} {n1 n2 n3 n4 : Nat}
theorem pV.le (h : pV p s A1 n1 A2 n2 A3 n3 A4 n4) (hl : p.Le q) : pV q s A1 n1 A2 n2 A3 n3 A4 n4 :=
 ⟨h.fH.mono (gE hl) (fun _ _ => iX.mono (gE hl)), h.dom.mono (gE hl) (fun _ _ h => h), h.rL.mono (gE hl) (fun _ _ h => h), h.dev.mono (gE hl) (fun _ _ => jQ.mono (gE hl))⟩
theorem pV.W (h : pV p s A1 n1 A2 n2 A3 n3 A4 n4) (hl : p.Le (all w)) (hs : s.small) : fA w s A1 n1 A2 n2 A3 n3 A4 n4 := ⟨(h.le hl).fH, (h.le hl).dom, (h.le hl).rL, (h.le hl).dev, hs⟩
theorem pV.len (h : pV p s A1 n1 A2 n2 A3 n3 A4 n4) : n1 = s.aB.length ∧ n2 = s.domains.length ∧ n3 = s.aW.length ∧ n4 = s.aA.length := by
 obtain ⟨⟨_, _, h1, _⟩, ⟨_, _, h2, _⟩, ⟨_, _, h3, _⟩, ⟨_, _, h4, _⟩⟩ := h
 exact ⟨h1, h2, h3, h4⟩
theorem mW.P {cs : Array Value} (h : mW (dU p) s cs) : ∃ A1 n1 k1 A2 n2 k2 A3 n3 k3 A4 n4 k4, cs = #[.slice A1 n1 k1, .slice A2 n2 k2, .slice A3 n3 k3, .slice A4 n4 k4] ∧ pV p s A1 n1 A2 n2 A3 n3 A4 n4 := by
 obtain ⟨A1, n1, k1, A2, n2, k2, A3, n3, k3, A4, n4, k4, h0, h1, h2, h3, h4⟩ := h
 exact ⟨A1, n1, k1, A2, n2, k2, A3, n3, k3, A4, n4, k4, h0, h1, h2, h3, h4⟩
end
end
section
theorem eO.xC {α : Type} {p : Piece} {R : α → List Value → Prop} {t : TypeId} {sz n : Nat} {A : Option Addr} {es : List α} (h : eO (dU p) R t sz A n es) {k : Nat} {e : α} (hk : es[k]? = some e) :
  ∃ b off r, A = some ⟨b, off, none⟩ ∧ p.Z b ∧ r.length = sz ∧ R e r ∧ ∀ f u, r[f]? = some u → p.w.cell? ⟨b, off + k * sz + f, none⟩ = some u := by
 obtain ⟨rows, h1, h2, h3⟩ := h
 have hlt : k < n := by
  rw [h2]
  rcases Nat.lt_or_ge k es.length with h | h
  ·exact h
  ·rw [List.getElem?_eq_none h] at hk; cases hk
 obtain ⟨b, off, hA, hb, hc⟩ := aH.at_ h3 hlt
 obtain ⟨r, h4, h5, h6⟩ := h1.get hk
 refine ⟨b, off, r, hA, hb, h4, h5, fun f u hu => hc f u ?_⟩
 have hf : f < sz := by
  rw [← h4]
  rcases Nat.lt_or_ge f r.length with h | h
  ·exact h
  ·rw [List.getElem?_eq_none h] at hu; cases hu
 rw [h6 f hf, hu]
theorem sD.Lr (p : sD) : p.cells.length = 4 := rfl
theorem aH.step {p : Piece} {A : Option Addr} {L : List sD} (h : aH p 4 A L.length (L.flatMap sD.cells)) {k : Nat} {x : sD} (hk : L[k]? = some x) :
  ∃ b off, A = some ⟨b, off, none⟩ ∧ p.Z b ∧ ∀ f u, x.cells[f]? = some u → p.w.cell? ⟨b, off + k * 4 + f, none⟩ = some u := by
 have hlt := (List.getElem?_eq_some_iff.1 hk).1
 obtain ⟨b, off, hA, hb, hc⟩ := aH.at_ h hlt
 refine ⟨b, off, hA, hb, fun f u hu => hc f u ?_⟩
 have hf : f < 4 := by
  rw [← sD.Lr x]
  rcases Nat.lt_or_ge f x.cells.length with h | h
  ·exact h
  ·rw [List.getElem?_eq_none h] at hu; cases hu
 rw [Co sD.cells 4 L (fun _ _ => rfl) k f x hk hf, hu]
end
section
structure bE.of (x : bE) (s : aC) : Prop where
 d : x.d.length = s.domains.length
 c : x.c.length = s.aB.length
 l : x.l.length = s.aW.length
end
section
structure AL where
 d : Nat
 t : TypeId
 cs : List Value
 val : Nat → Value
def pO (al : Nat → AL) (g : Nat → Nat) (ds : List Nat) (e : Env) : Env := ds.map (fun i => ((al i).d, (al i).val (g i))) ++ e
def sZ (al : Nat → AL) (g : Nat → Nat) (ds : List Nat) (H : List HP) : List HP := ds.map (fun i => HP.aF (g i) (al i).t (al i).cs) ++ H
def iV (ds : List Nat) (l : Array Bool) : Array Bool := ds.foldr (fun i a => a.setIfInBounds i true) l
def Bd : List Nat → List (List Nat)
 | [] => [[]]
 | i :: l => (Bd l).map (i :: ·) ++ Bd l
theorem Dp (p : Nat → Bool) : ∀ l : List Nat, l.filter p ∈ Bd l
 | [] => by simp [Bd]
 | i :: l => by
  unfold Bd
  rw [List.filter_cons]
  split
  ·exact List.mem_append_left _ (List.mem_map_of_mem (Dp p l))
  ·exact List.mem_append_right _ (Dp p l)
def aDF (ops : Array Oper) (idx : List Nat) (ex : List (List Nat)) (listed : Array Bool) : Bool :=
 (Bd idx).all fun sub => ex.contains sub || (!(Region.ready .any ops (iV sub listed)).isEmpty && (Region.ready .any ops (iV sub listed)).all fun j => idx.contains j && !sub.contains j)
theorem Nx {l1 l2 : List Nat} (h : l1.Perm l2) (l : Array Bool) : iV l1 l = iV l2 l := by
 induction h with
 | nil => rfl
 | cons x _ ih => show (iV _ l).setIfInBounds x true = _; rw [ih]; rfl
 | swap x y s =>
  show ((iV s l).setIfInBounds x true).setIfInBounds y true = ((iV s l).setIfInBounds y true).setIfInBounds x true
  by_cases hxy : x = y
  ·rw [hxy]
  ·exact Array.setIfInBounds_comm _ _ hxy
 | trans _ _ h1 h2 => exact h1.trans h2
section
variable {P : Program} {N : cN} {w0 w : World} {e : Env} {R R0 : List Piece} {H H0 : List HP} {Q : Exit → Act → World → Prop} {ops : Array Oper} {m fuel : Nat} {listed : Array Bool} {K : Act → World → Prop}
variable {al : Nat → AL} {g g' : Nat → Nat}
theorem Po (k : Nat) (v : Value) (e : Env) (t : Nat) : Env.get ((k, v) :: e) t = if k = t then some v else e.get t := by
 show (match Nat.beq k t with | true => some v | false => Env.get e t) = _
 by_cases h : k = t
 ·subst h; rw [if_pos rfl, Nat.beq_refl]
 ·rw [if_neg h]
  cases hb : Nat.beq k t with
  | true => exact absurd (Nat.eq_of_beq_eq_true hb) h
  | false => rfl
theorem aB1 {l1 l2 : List Nat} (h : l1.Perm l2) (hn : (l1.map fun i => (al i).d).Nodup) (t : Nat) : (pO al g l1 e).get t = (pO al g l2 e).get t := by
 induction h with
 | nil => rfl
 | cons x _ ih =>
  show Env.get ((_, _) :: pO al g _ e) t = Env.get ((_, _) :: pO al g _ e) t
  rw [Po, Po, ih (List.nodup_cons.1 (show ((al x).d :: List.map (fun i => (al i).d) _).Nodup from hn)).2]
 | swap x y s =>
  show Env.get ((_, _) :: (_, _) :: pO al g s e) t = Env.get ((_, _) :: (_, _) :: pO al g s e) t
  have hne : (al y).d ≠ (al x).d := fun he => (List.nodup_cons.1 (show ((al y).d :: (al x).d :: List.map (fun i => (al i).d) s).Nodup from hn)).1 (by rw [he]; exact List.mem_cons_self)
  simp only [Po]
  by_cases h1 : (al x).d = t
  ·rw [if_pos h1, if_neg (fun h2 => hne (h2.trans h1.symm)), if_pos h1]
  ·rw [if_neg h1, if_neg h1]
 | trans h1 h2 i1 i2 => exact (i1 hn).trans (i2 ((h1.map _).nodup_iff.1 hn))
theorem aAP {l1 l2 : List Nat} (h : l1.Perm l2) : ∀ pre : List HP, St w0 R (pre ++ sZ al g l1 H) w → St w0 R (pre ++ sZ al g l2 H) w := by
 induction h with
 | nil => exact fun _ h => h
 | cons x _ ih =>
  intro pre st
  have := ih (pre ++ [HP.aF (g x) (al x).t (al x).cs]) (by rw [List.append_assoc]; exact st)
  rw [List.append_assoc] at this
  exact this
 | swap x y s =>
  intro pre st
  refine st.weak (fun _ hp => hp) (fun i => if i = pre.length then pre.length + 1 else if i = pre.length + 1 then pre.length else i) (fun i j _ _ he => ?_) (fun i p hi => ?_)
  ·split at he <;> split at he <;> (try split at he) <;> (try split at he) <;> omega
  ·change (pre ++ HP.aF (g x) (al x).t (al x).cs :: HP.aF (g y) (al y).t (al y).cs :: sZ al g s H)[i]? = some p at hi
   show (pre ++ HP.aF (g y) (al y).t (al y).cs :: HP.aF (g x) (al x).t (al x).cs :: sZ al g s H)[_]? = some p
   rcases Nat.lt_or_ge i pre.length with h | h
   ·rw [if_neg (by omega), if_neg (by omega), List.getElem?_append_left h]
    rwa [List.getElem?_append_left h] at hi
   ·obtain ⟨k, rfl⟩ : ∃ k, i = pre.length + k := ⟨i - pre.length, by omega⟩
    rw [List.getElem?_append_right (by omega), Nat.add_sub_cancel_left] at hi
    match k, hi with
    | 0, hi =>
     rw [if_pos (by omega), List.getElem?_append_right (by omega), Nat.add_sub_cancel_left]
     exact hi
    | 1, hi =>
     rw [if_neg (by omega), if_pos rfl, List.getElem?_append_right (by omega), Nat.sub_self]
     exact hi
    | k + 2, hi =>
     rw [if_neg (by omega), if_neg (by omega), List.getElem?_append_right (by omega), Nat.add_sub_cancel_left]
     exact hi
 | trans _ _ i1 i2 => exact fun pre st => i2 pre (i1 pre st)
def Xj (P : Program) (N : cN) (e : Env) (o : Oper) (x : AL) : Prop := ∀ a w, cY N e a → (execOp a.eval o).run P w = .ok (.value (x.val w.heap.size)) (w.alloc (.cells x.cs.toArray x.t))
theorem Sy (bytes : Nat) {x y : Operand} {t el ty : TypeId} {d n : Nat} {z : Value} {pos : String} {aJ : Array Edge} {kd oB : IntKind} (ht : P.underlying t = some (.slice el)) (hT : (P.info? el).map (fun i => (i.zero, i.size, i.bytes)) = some (some z, 1, bytes)) (Iw : z.cells = #[z]) (hx : e.ev x = some (.int kd (n : Int))) (hy : e.ev y = some (.int oB (n : Int)))
  (hb : bytes * n ≤ 281474976710656) (hn : (n : Int) ≤ 9223372036854775807) : Xj P N e ⟨some d, .makeSlice t x y, ty, pos, aJ, none⟩ ⟨d, el, List.replicate n z, fun g => .slice (some ⟨g, 0, none⟩) n n⟩ := fun a w hr => by
 obtain ⟨i, hi, he⟩ := Option.map_eq_some_iff.1 hT
 simp only [Prod.mk.injEq] at he
 obtain ⟨h1, h2, rfl⟩ := he
 have := run_make (P := P) w t el i z ht hi h1 kd oB n n (by omega) (Int.le_refl _) (by rw [← Int.natCast_mul]; omega) hn
 have hm : madeCells z.cells (n * i.size) = (List.replicate n z).toArray := by
  rw [h2, Nat.mul_one, Iw]
  unfold madeCells
  apply Array.ext
  ·simp
  ·intro j h1 h2
   simp
   rw [Nat.mod_one]
   rfl
 simp only [Int.toNat_natCast, hm] at this
 simp only [execOp, hr.ev hx, hr.ev hy, Sem.run_bind, this, Result.andThen_ok, Sem.run_pure]
structure Gf (P : Program) (N : cN) (ops : Array Oper) (e : Env) (x : AL) (i : Nat) : Prop where
 ok : ∃ o, ops[i]? = some o ∧ o.guard = none ∧ o.dst = some x.d ∧ Xj P N e o x
 lt : x.d < N.n
 new : e.get x.d = none
theorem Gf.of {o : Oper} {x : AL} {i : Nat} (h1 : ops[i]? = some o) (h2 : o.guard = none) (h3 : o.dst = some x.d) (h4 : Xj P N e o x) (h5 : x.d < N.n) (h6 : e.get x.d = none) : Gf P N ops e x i := ⟨⟨o, h1, h2, h3, h4⟩, h5, h6⟩
theorem aGQ {ds : List Nat} (hn : ∀ i ∈ ds, e.get (al i).d = none) {t : Nat} {v : Value} (h : e.get t = some v) : (pO al g ds e).get t = some v := by
 induction ds with
 | nil => exact h
 | cons i ds ih =>
  show Env.get ((_, _) :: pO al g ds e) t = some v
  rw [Po, if_neg (fun he => by have := hn i (by simp); rw [he, h] at this; cases this)]
  exact ih fun j hj => hn j (by simp [hj])
theorem cY.aGR {a : Act} {ds : List Nat} (hn : ∀ i ∈ ds, e.get (al i).d = none) (h : cY N (pO al g ds e) a) : cY N e a := ⟨h.size, h.defers, fun t v ht => h.get t v (aGQ hn ht)⟩
theorem St.unA {ds : List Nat} (h : St w0 R (sZ al g ds H) w) : St w0 R H w := h.weak (fun _ hp => hp) (fun i => i + ds.length) (fun i j _ _ he => by omega) (fun i p hi => by
 show (ds.map _ ++ H)[i + ds.length]? = some p
 rw [List.getElem?_append_right (by simp)]
 simpa using hi)
theorem XA.aIi (idx : List Nat) (ex : List (List Nat)) (al : Nat → AL) (hok : ∀ i ∈ idx, Gf P N ops e (al i) i) (hd : (idx.map fun i => (al i).d).Nodup) (hr : aDF ops idx ex listed = true) (hS : ∀ w, St w0 R H w → St w0 R0 H0 w)
  (k : ∀ sub ∈ Bd idx, ex.contains sub = true → ∀ g : Nat → Nat, XA P N w0 ops Q R0 H0 m (fuel + (idx.length - sub.length)) (iV sub listed) (pO al g sub e) R (sZ al g sub H)) : XA P N w0 ops Q R0 H0 m (fuel + idx.length) listed e R H := by
 have hni : idx.Nodup := (List.pairwise_map.1 hd).imp fun h e => h (by rw [e])
 have key : ∀ (n : Nat) (ds : List Nat) (g : Nat → Nat), ds.Nodup → (∀ i ∈ ds, i ∈ idx) → ds.length + n = idx.length → XA P N w0 ops Q R0 H0 m (fuel + n) (iV ds listed) (pO al g ds e) R (sZ al g ds H) := by
  intro n
  induction n with
  | zero =>
   intro ds g hn hin hl
   have wE : (idx.filter fun i => ds.contains i).Perm ds := by
    rw [List.perm_iff_count]
    intro a
    rw [(hni.sublist List.filter_sublist).count, hn.count]
    by_cases ha : a ∈ ds
    ·rw [if_pos ha, if_pos (by simp [ha, hin a ha])]
    ·rw [if_neg ha, if_neg (by simp [ha])]
   have hlen := wE.length_eq
   have heq : (idx.filter fun i => ds.contains i) = idx := List.filter_sublist.eq_of_length (by omega)
   have dJ := List.all_eq_true.1 hr _ (Dp (fun i => ds.contains i) idx)
   rw [Bool.or_eq_true] at dJ
   rcases dJ with hc | hc
   ·have h := k _ (Dp _ idx) hc g
    rw [Nx wE, show fuel + (idx.length - (idx.filter fun i => ds.contains i).length) = fuel + 0 by omega] at h
    exact fun up a w bM st => h up a w ⟨bM.size, bM.defers, fun t v ht => bM.get t v (by rw [← aB1 wE (by rw [heq]; exact hd)]; exact ht)⟩ (aAP wE.symm [] st)
   ·exfalso
    rw [Bool.and_eq_true, List.all_eq_true] at hc
    obtain ⟨h1, h2⟩ := hc
    rw [heq] at h1 h2
    cases hrd : Region.ready .any ops (iV idx listed) with
    | nil => rw [hrd] at h1; cases h1
    | cons j js =>
     rw [hrd] at h2
     have := h2 j (by simp)
     simp at this
  | succ n ih =>
   intro ds g hn hin hl
   have wE : (idx.filter fun i => ds.contains i).Perm ds := by
    rw [List.perm_iff_count]
    intro a
    rw [(hni.sublist List.filter_sublist).count, hn.count]
    by_cases ha : a ∈ ds
    ·rw [if_pos ha, if_pos (by simp [ha, hin a ha])]
    ·rw [if_neg ha, if_neg (by simp [ha])]
   have hlen := wE.length_eq
   have dJ := List.all_eq_true.1 hr _ (Dp (fun i => ds.contains i) idx)
   rw [Bool.or_eq_true] at dJ
   rcases dJ with hc | hc
   ·have h := k _ (Dp _ idx) hc g
    rw [Nx wE, show fuel + (idx.length - (idx.filter fun i => ds.contains i).length) = fuel + (n + 1) by omega] at h
    have hnd : ((idx.filter fun i => ds.contains i).map fun i => (al i).d).Nodup := hd.sublist (List.filter_sublist.map _)
    exact fun up a w bM st => h up a w ⟨bM.size, bM.defers, fun t v ht => bM.get t v (by rw [← aB1 wE hnd]; exact ht)⟩ (aAP wE.symm [] st)
   ·rw [Bool.and_eq_true, List.all_eq_true, Nx wE] at hc
    obtain ⟨h1, h2⟩ := hc
    intro up a w bM st
    show Az P ops Q (St w0 R0 H0) m ((fuel + n) + 1) (iV ds listed) a w
    refine ⟨(fun h => by rw [h] at h1; exact absurd h1 (by decide)), fun j hj => ?_⟩
    have hj2 := h2 j hj
    simp only [Bool.and_eq_true, Bool.not_eq_true', List.contains_eq_mem, decide_eq_true_eq, decide_eq_false_iff_not, List.mem_filter, not_and] at hj2
    have Uo : j ∉ ds := hj2.2 hj2.1
    obtain ⟨⟨o, ho, hog, hod, hmk⟩, hlt, hnew⟩ := hok j hj2.1
    have hrun := hmk a w (bM.aGR fun i hi => (hok i (hin i hi)).new)
    let g' : Nat → Nat := fun i => if i = j then w.heap.size else g i
    have hg1 : pO al g' (j :: ds) e = ((al j).d, (al j).val w.heap.size) :: pO al g ds e := by
     show ((al j).d, (al j).val (g' j)) :: (ds.map _ ++ e) = _
     rw [show g' j = w.heap.size from if_pos rfl]
     congr 1
     unfold pO
     congr 1
     refine List.map_congr_left fun i hi => ?_
     rw [show g' i = g i from if_neg (fun he : i = j => Uo (he ▸ hi))]
    have hg2 : sZ al g' (j :: ds) H = HP.aF w.heap.size (al j).t (al j).cs :: sZ al g ds H := by
     show HP.aF (g' j) _ _ :: (ds.map _ ++ H) = _
     rw [show g' j = w.heap.size from if_pos rfl]
     congr 1
     unfold sZ
     congr 1
     refine List.map_congr_left fun i hi => ?_
     rw [show g' i = g i from if_neg (fun he : i = j => Uo (he ▸ hi))]
    have st' : St w0 R (sZ al g' (j :: ds) H) (w.alloc (.cells (al j).cs.toArray (al j).t)) := by
     rw [hg2]
     exact st.new (Fv w _) (aBh w _ _)
    have h := ih (j :: ds) g' (List.nodup_cons.2 ⟨Uo, hn⟩) (fun i hi => by
     rcases List.mem_cons.1 hi with rfl | hi
     ·exact hj2.1
     ·exact hin i hi) (by simp only [List.length_cons]; omega)
    rw [hg1] at h
    have uO := h (up.gH hj) (a.put (some (al j).d) ((al j).val w.heap.size)) _ (bM.put hlt _) st'
    unfold wpOp
    simp only [ho]
    have hw : Region.wanted o (yielded ops a.tmps) = true := by simp [Region.wanted, hog]
    simp only [hw, if_true, Oper.wp, hrun, Oper.upon, hod]
    exact .inl ⟨fun _ => hS _ st'.unA, uO⟩
 have := key idx.length [] (fun _ => 0) List.nodup_nil (fun i hi => by cases hi) (by simp)
 exact this
end
end
section
def kZ (s : aC) : Nat → Nat → List Nat
 | 0, _ => []
 | k + 1, c => match s.aB[c]? with
  | some x => c :: (match x.src with
   | [] => []
   | f :: _ => kZ s k f.toNat)
  | none => []
def eI (s : aC) (c : Nat) : List Nat := kZ s s.aB.length c
theorem Qa (s : aC) : ∀ (k c : Nat), (kZ s k c).length ≤ k
 | 0, c => by simp [kZ]
 | k + 1, c => by
  unfold kZ
  split
  ·rename_i x hx
   split
   ·simp
   ·rename_i f fs hs
    have := Qa s k f.toNat
    simp only [List.length_cons]
    omega
  ·simp
theorem aHU {s : aC} {k c : Nat} {x : dG} (h : s.aB[c]? = some x) : kZ s (k + 1) c = c :: (match x.src with
      | [] => []
      | f :: _ => kZ s k f.toNat) := by
  show (match s.aB[c]? with | some x => _ | none => _) = _
  rw [h]
def Xf (s : aC) : Int → List Nat → Prop
 | d, [] => d = -1
 | d, i :: r => d = (i : Int) ∧ ∃ x, s.domains[i]? = some x ∧ Xf s x.above r
theorem Xf.up {s : aC} : ∀ {l : List Nat} {d : Int}, Xf s d l → ∀ i ∈ l, ∀ x, s.domains[i]? = some x → 0 ≤ x.above → x.above.toNat ∈ l
 | [], _, _, i, h, _, _, _ => by cases h
 | j :: l, _, ⟨_, y, hy, hr⟩, i, h, x, hx, h0 => by
  rcases List.mem_cons.1 h with rfl | h
  ·rw [hy] at hx
   cases hx
   cases l with
   | nil => have h2 : y.above = -1 := hr; omega
   | cons k l =>
    have h2 : y.above = (k : Int) := hr.1
    rw [h2]
    simp
  ·exact List.mem_cons_of_mem _ (hr.up i h x hx h0)
def Zb (s : aC) (i : Nat) : Bool := match s.aB[i]? with
 | some c => decide (c.kind = 112 ∨ c.kind = 103)
 | none => false
def dY (s : aC) : bE := ⟨List.replicate s.domains.length false, List.replicate s.aB.length false, List.replicate s.aW.length false⟩
theorem bE.of.sm {x : bE} {s : aC} (h : x.of s) (hm : s.made) : x.sm := by
 have h1 := hm.nc; have h2 := hm.nd; have h3 := hm.nr
 exact ⟨by rw [h.d]; omega, by rw [h.c]; omega, by rw [h.l]; omega⟩
end
section
structure aC.bO (s : aC) : Prop where
 t : s.rM
 domains : Fits Dom.fit s.domains
 aW : ∀ r ∈ s.aW, 0 ≤ r ∧ r ≤ 3
theorem aC.made.bO {s : aC} (h : s.made) : s.bO := ⟨h.rM, h.domains, h.aW⟩
structure cT where
 on : Bool
 left : Int
def sC (c : dG) : cT := ⟨false, if c.kind = 112 then c.lock else 0⟩
def Ww (c : dG) : Int := if c.kind = 100 then c.div else 0
def lU (c : dG) (x : cT) : Bool := if c.kind = 112 then x.on && decide (x.left = 0) else if c.kind = 103 then x.on else true
def Dn (s : aC) (st : List cT) (i : Nat) : Bool := match s.aB[i]?, st[i]? with
 | some c, some x => lU c x
 | _, _ => false
def runs (s : aC) (st : List cT) (i : Nat) : Bool := (eI s i).all (Dn s st)
theorem Wt {s : aC} (hf : Fits dG.fit s.aB) : ∀ (c k : Nat), c < k → kZ s k c = kZ s (c + 1) c := by
 intro c
 induction c using Nat.strongRecOn with
 | _ c ih =>
  intro k hk
  obtain ⟨k, rfl⟩ := Nat.exists_eq_add_of_lt hk
  rw [show c + k + 1 = (c + k) + 1 from rfl]
  unfold kZ
  cases hc : s.aB[c]? with
  | none => rfl
  | some x =>
   dsimp only
   cases hs : x.src with
   | nil => rfl
   | cons f fs =>
    have hfit := (hf c x hc).1 f (by rw [hs]; simp)
    have h1 : f.toNat < c := by omega
    dsimp only
    rw [ih f.toNat h1 (c + k) (by omega), ih f.toNat h1 c h1]
theorem Cy {s : aC} (hf : Fits dG.fit s.aB) {i : Nat} {c : dG} (hc : s.aB[i]? = some c) : eI s i = i :: (match c.src with
  | [] => []
  | f :: _ => eI s f.toNat) := by
 have hlt : i < s.aB.length := (List.getElem?_eq_some_iff.1 hc).1
 unfold eI
 rw [Wt hf i _ hlt]
 rw [kZ, hc]
 dsimp only
 cases hs : c.src with
 | nil => rfl
 | cons f fs =>
  have hfit := (hf i c hc).1 f (by rw [hs]; simp)
  dsimp only
  rw [Wt hf f.toNat i (by omega), Wt hf f.toNat s.aB.length (by omega)]
theorem Zm {s : aC} (hf : Fits dG.fit s.aB) {st : List cT} {i : Nat} {c : dG} {x : cT} (hc : s.aB[i]? = some c) (hx : st[i]? = some x) : runs s st i = (lU c x && (match c.src with
  | [] => true
  | f :: _ => runs s st f.toNat)) := by
 unfold runs
 rw [Cy hf hc, List.all_cons]
 have : Dn s st i = lU c x := by unfold Dn; rw [hc, hx]
 rw [this]
 cases c.src <;> rfl
def cF (n : Nat) (i : Int) : Bool := decide (0 ≤ i ∧ i < (n : Int))
def kU (s : aC) (st : List cT) (i : Int) : Bool := cF s.aB.length i && runs s st i.toNat
def Ea (c : dG) (x : cT) (b : Bool) : cT := ⟨b, if c.kind = 112 ∧ b = false then c.lock else x.left⟩
def iC (s : aC) (st : List cT) (i : Int) (b : Bool) : Int × List cT :=
 if cF s.aB.length i = false then (4, st) else match s.aB[i.toNat]?, st[i.toNat]? with
 | some c, some x => if c.kind ≠ 112 ∧ c.kind ≠ 103 then (1, st) else (0, st.set i.toNat (Ea c x b))
 | _, _ => (4, st)
def Dq (c : dG) : Nat := (c.src.headD 0).toNat
def oU (s : aC) (st : List cT) (c : dG) (x : cT) : cT :=
 if c.kind = 112 ∧ x.on = true then (if runs s st (Dq c) = false then ⟨true, c.lock⟩ else if 0 < x.left then ⟨true, x.left - 1⟩ else x) else x
def gP (s : aC) (st : List cT) : List cT := List.zipWith (oU s st) s.aB st
structure lS (s : aC) (st : List cT) : Prop where
 len : st.length = s.aB.length
 left : ∀ x ∈ st, 0 ≤ x.left ∧ x.left ≤ 3
structure dL where
 phase : Int
 left : Int
 kept : Bool
 keep : Bool
def sA : dL := ⟨48, 0, false, false⟩
def zV (x : dL) : Bool := decide (x.phase = 48 ∨ x.phase = 116)
def kW (st : List dL) (d : Int) : Int := if cF st.length d then (st[d.toNat]?.map (·.phase)).getD 0 else 0
def Da (st : List dL) (a : Int) : Bool := decide (a = -1) || decide ((st[a.toNat]?.map (·.phase)).getD 0 = 49)
def nQ (s : aC) (st : List dL) (d : Int) : Int × List dL :=
 if cF st.length d = false then (4, st) else match s.domains[d.toNat]?, st[d.toNat]? with
 | some c, some x => if zV x = false ∨ Da st c.above = false then (6, st) else (0, st.set d.toNat ⟨114, c.delay, decide (x.phase = 116), x.keep⟩)
 | _, _ => (4, st)
def xV (d : Int) (c : Dom) (x : dL) : Bool := decide (c.above = d) && !zV x
def wK (s : aC) (st : List dL) (d : Int) : Bool := (List.zipWith (xV d) s.domains st).any id
def pP (s : aC) (st : List dL) (d : Int) (keep : Bool) : Int × List dL :=
 if cF st.length d = false then (4, st) else match s.domains[d.toNat]?, st[d.toNat]? with
 | some c, some x => if x.phase ≠ 49 then (6, st) else if keep = true ∧ c.ret = false then (1, st) else if wK s st d then (7, st) else (0, st.set d.toNat ⟨99, x.left, x.kept, keep⟩)
 | _, _ => (4, st)
def eA (x : dL) : Int × dL :=
 if x.phase = 114 then (if 0 < x.left then (0, ⟨114, x.left - 1, x.kept, x.keep⟩) else (if x.kept then 114 else 110, ⟨104, x.left, x.kept, x.keep⟩))
 else if x.phase = 104 then (111, ⟨49, x.left, x.kept, x.keep⟩)
 else if x.phase = 99 then (if x.keep then (115, ⟨116, x.left, x.kept, x.keep⟩) else (108, ⟨48, x.left, x.kept, x.keep⟩))
 else (0, x)
def gZ (st : List dL) (n : Nat) : List (Int × Nat) := (List.range n).filterMap fun i => (st[i]?).bind fun x => if (eA x).1 = 0 then none else some ((eA x).1, i)
def kE (st : List dL) : List dL := st.map fun x => (eA x).2
structure oN (s : aC) (st : List dL) : Prop where
 len : st.length = s.domains.length
 left : ∀ x ∈ st, 0 ≤ x.left ∧ x.left ≤ 3
 phase : ∀ x ∈ st, 0 ≤ x.phase ∧ x.phase < 256
structure fV where
 left : Int
 held : Bool
 wanted : Bool
def mO : fV := ⟨0, true, false⟩
def tB (st : List fV) (i : Int) : Bool := !cF st.length i || (st[i.toNat]?.map (·.held)).getD true
def nL (s : aC) (st : List fV) (i : Int) : Int × List fV :=
 if cF st.length i = false then (4, st) else (0, st.set i.toNat ⟨(s.aW[i.toNat]?).getD 0, true, false⟩)
def oX (st : List fV) (i : Int) : Int × List fV :=
 if cF st.length i = false then (4, st) else match st[i.toNat]? with
 | some x => if x.held = false then (6, st) else (0, st.set i.toNat ⟨x.left, x.held, true⟩)
 | none => (4, st)
def gO (x : fV) : fV := if x.held = false then x else if 0 < x.left then ⟨x.left - 1, x.held, x.wanted⟩ else if x.wanted then ⟨x.left, false, false⟩ else x
def vT (st : List fV) : List fV := st.map gO
structure wX (s : aC) (st : List fV) : Prop where
 len : st.length = s.aW.length
 left : ∀ x ∈ st, 0 ≤ x.left ∧ x.left ≤ 3
structure bK where
 now : List Int
 saved : List Int
 kept : Bool
def wN (d : bB) : bK := ⟨d.aQ.map (·.reset), d.aQ.map fun _ => 0, false⟩
def wR (d : bB) (x : bK) : bK := ⟨d.aQ.map (·.reset), x.saved, false⟩
def Bf (r : Rg) (p : Int × Int) : Int := if r.kept then p.1 else p.2
def qJ (d : bB) (x : bK) : bK := ⟨x.now, List.zipWith Bf d.aQ (x.now.zip x.saved), true⟩
def Nb (k : Bool) (r : Rg) (v : Int) : Int := if k && r.kept then v else r.reset
def zA (d : bB) (x : bK) : bK := ⟨List.zipWith (Nb x.kept) d.aQ x.saved, x.saved, x.kept⟩
structure wY (d : bB) (x : bK) : Prop where
 now : x.now.length = d.aQ.length
 saved : x.saved.length = d.aQ.length
 u : (∀ v ∈ x.now, 0 ≤ v ∧ v < 4294967296) ∧ ∀ v ∈ x.saved, 0 ≤ v ∧ v < 4294967296
structure cG where
 at_ : Int
 denied : Int
def Dw : cG := ⟨0, 0⟩
def lF (a : Int) : Int := if a = 0 then 114 else if a = 1 then 97 else if a = 2 then 115 else 100
def mJ (x : cG) : Int × cG := if x.at_ ≠ 0 then (6, x) else (0, ⟨1, x.denied⟩)
def jM (x : cG) : Int × cG := if x.at_ ≠ 2 ∧ x.at_ ≠ 3 then (6, x) else (0, ⟨0, x.denied⟩)
def nR (x : cG) (Ai dP : Bool) : cG := if x.at_ ≠ 1 then x else if dP then ⟨3, IntKind.i64.wrap (x.denied + 1)⟩ else if Ai then x else ⟨2, 0⟩
def vM (x : cG) : Prop := 0 ≤ x.at_ ∧ x.at_ ≤ 3
end
section
def HP.dV (Φ : Piece → Prop) (hm : ∀ p q : Piece, p.Le q → Φ p → Φ q) : HP := ⟨fun F w => Φ ⟨w, F⟩, fun F w w' h hk => hm ⟨w, F⟩ ⟨w', F⟩ (fun b hb => ⟨hb, hk b hb⟩) h⟩
section
variable {P : Program} {N : cN} {w0 w : World} {K : Act → World → Prop} {e : Env} {R : List Piece} {H H' : List HP} {Q : Exit → Act → World → Prop} {ops : Array Oper} {rest : List Oper}
variable {d : Nat} {ty : TypeId} {pos : String} {aJ : Array Edge}
theorem tA {α : Type} {H : List α} {i : Nat} {p : α} (hi : H[i]? = some p) : i < H.length := (List.getElem?_eq_some_iff.1 hi).1
theorem St.chunk (st : St w0 R H w) {i : Nat} {p : HP} (hi : H[i]? = some p) : ∃ F, p.sat F w ∧ (∀ b, F b → b < w.heap.size) ∧ (∀ q ∈ R, q.Le ⟨w, fun b => b < w.heap.size ∧ ¬ F b⟩) ∧ ∀ w' F' q, q.sat F' w' → bI w w' F F' → St w0 R (H.set i q) w' := by
 obtain ⟨Z, F, hz, cJ, hs, cQ, cW⟩ := st.ex
 refine ⟨F i, hs i p hi, (fun b hb => (cQ i b hb).2), (fun q Bt b hb => ⟨⟨hz b (cJ q Bt b hb).1, fun mS => (cQ i b mS).1 (cJ q Bt b hb).1⟩, (cJ q Bt b hb).2⟩), fun w' F' q mE ht => ?_⟩
 have hlt := tA hi
 refine ⟨ht.os.trans st.os, ht.tape.trans st.tape, ht.output.trans st.output, Nat.le_trans st.size ht.size, Z, fun j => if j = i then F' else F j, fun b h => Nat.lt_of_lt_of_le (hz b h) ht.size, fun p hp b h => ?_, fun j r hj => ?_, fun j b h => ?_, fun j k b jC h => ?_⟩
 ·exact ⟨(cJ p hp b h).1, (ht.old b (hz b (cJ p hp b h).1) (fun mS => (cQ i b mS).1 (cJ p hp b h).1)).trans (cJ p hp b h).2⟩
 ·rw [List.getElem?_set] at hj
  split at hj
  ·rename_i e; subst e
   first | (rw [if_pos hlt] at hj; cases hj) | cases hj
   simpa using mE
  ·rename_i e
   simp only [if_neg (Ne.symm e)]
   exact r.loc _ _ _ (hs j r hj) (fun b hb => ht.old b (cQ j b hb).2 (cW j i b (Ne.symm e) hb))
 ·dsimp only at h
  split at h
  ·refine ⟨fun fS => ?_, (ht.new b h).2⟩
   rcases (ht.new b h).1 with h | h
   ·exact (cQ i b h).1 fS
   ·have := hz b fS; omega
  ·exact ⟨(cQ j b h).1, Nat.lt_of_lt_of_le (cQ j b h).2 ht.size⟩
 ·dsimp only at h ⊢
  split at h <;> split
  ·rename_i h1 h2; omega
  ·rename_i e1 e2
   intro hk
   rcases (ht.new b h).1 with h | h
   ·exact cW i k b (by omega) h hk
   ·have := (cQ k b hk).2; omega
  ·rename_i e1 e2
   intro hk
   rcases (ht.new b hk).1 with hk | hk
   ·exact cW j i b (by omega) h hk
   ·have := (cQ j b h).2; omega
  ·exact cW j k b jC h
theorem XK.reuse (i : Nat) {p q : HP} (hi : H[i]? = some p) (hq : ∀ F w, p.sat F w → q.sat F w) (h : XK N w0 K e R (H.set i q)) : XK N w0 K e R H := fun a w hr st => by
 obtain ⟨F, hp, hlt, _, hk⟩ := st.chunk hi
 exact h a w hr (hk w F q (hq F w hp) ⟨rfl, rfl, rfl, Nat.le_refl _, fun b hb => ⟨.inl hb, hlt b hb⟩, fun _ _ _ => rfl⟩)
theorem XK.drop (i : Nat) {p : HP} (hi : H[i]? = some p) (h : XK N w0 K e R (H.set i HP.emp)) : XK N w0 K e R H := XK.reuse i hi (fun _ _ _ => trivial) h
theorem XK.sN (i : Nat) {el : TypeId} {sz n c : Nat} {A : Option Addr} {xs : List Value} {Φ : Piece → Prop} {hm : ∀ p q : Piece, p.Le q → Φ p → Φ q} (hi : H[i]? = some (HP.own el sz (.slice A n c) n xs)) (hq : ∀ p, aH p sz A n xs → Φ p) (h : XK N w0 K e R (H.set i (HP.dV Φ hm))) : XK N w0 K e R H :=
 XK.reuse i hi (fun F w hs => hq _ (aH.own (q := ⟨w, F⟩) ⟨F, hs, fun _ h => h⟩)) h
theorem XK.Tf {Φ Ψ X : Piece → Prop} {h1 : ∀ p q : Piece, p.Le q → Φ p → Φ q} {h2 : ∀ p q : Piece, p.Le q → Ψ p → Ψ q} {h3 : ∀ p q : Piece, p.Le q → X p → X q} (hX : ∀ p, Φ p → Ψ p → X p) (h : XK N w0 K e R (HP.dV X h3 :: H)) : XK N w0 K e R (HP.dV Φ h1 :: HP.dV Ψ h2 :: H) := fun a w hr st => by
  obtain ⟨Z, F, hz, cJ, hs, cQ, cW⟩ := st.ex
  refine h a w hr ⟨st.os, st.tape, st.output, st.size, Z, fun j => match j with | 0 => fun b => F 0 b ∨ F 1 b | j + 1 => F (j + 2), hz, cJ, fun j r hj => ?_, fun j b hb => ?_, fun j k b jC hj hk => ?_⟩
  · cases j with
    | zero =>
      simp at hj
      subst hj
      exact hX _ (h1 ⟨w, F 0⟩ _ (fun b hb => ⟨.inl hb, rfl⟩) (hs 0 _ rfl)) (h2 ⟨w, F 1⟩ _ (fun b hb => ⟨.inr hb, rfl⟩) (hs 1 _ rfl))
    | succ j => exact hs (j + 2) r (by simpa using hj)
  · cases j with
    | zero => rcases hb with hb | hb <;> exact cQ _ b hb
    | succ j => exact cQ _ b hb
  · cases j with
    | zero => cases k with
      | zero => exact jC rfl
      | succ k => rcases hj with hj | hj
                  · exact cW 0 (k + 2) b (by omega) hj hk
                  · exact cW 1 (k + 2) b (by omega) hj hk
    | succ j => cases k with
      | zero => rcases hk with hk | hk
                · exact cW 0 (j + 2) b (by omega) hk hj
                · exact cW 1 (j + 2) b (by omega) hk hj
      | succ k => exact cW (j + 2) (k + 2) b (by omega) hj hk
theorem XK.Ni {q : Piece} {Φ : Piece → Prop} {hm : ∀ p q : Piece, p.Le q → Φ p → Φ q} (hf : lA w0 q) (hR : ∀ p ∈ R, ∀ b, p.Z b → b < w0.heap.size) (hΦ : Φ q) (h : XK N w0 K e R (HP.dV Φ hm :: H)) : XK N w0 K e (q :: R) H := fun a w hr st => by
 obtain ⟨Z, F, hz, cJ, hs, cQ, cW⟩ := st.ex
 have hq := cJ q (by simp)
 refine h a w hr ⟨st.os, st.tape, st.output, st.size, fun b => Z b ∧ ¬ q.Z b, fun j => match j with | 0 => q.Z | j + 1 => F j, fun b hb => hz b hb.1, fun p hp b hb => ?_, fun j r hj => ?_, fun j b hb => ?_, fun j k b jC hj hk => ?_⟩
 ·refine ⟨⟨(cJ p (by simp [hp]) b hb).1, fun Jg => ?_⟩, (cJ p (by simp [hp]) b hb).2⟩
  have h1 := hR p hp b hb
  have h2 := hf b Jg
  omega
 ·cases j with
  | zero =>
   simp at hj
   subst hj
   exact hm q _ (fun b hb => ⟨hb, (hq b hb).2⟩) hΦ
  | succ j => exact hs j r (by simpa using hj)
 ·cases j with
  | zero => exact ⟨fun hh => hh.2 hb, hz b (hq b hb).1⟩
  | succ j => exact ⟨fun hh => (cQ j b hb).1 hh.1, (cQ j b hb).2⟩
 ·cases j with
  | zero => cases k with
   | zero => exact jC rfl
   | succ k => exact (cQ k b hk).1 (hq b hj).1
  | succ j => cases k with
   | zero => exact (cQ j b hj).1 (hq b hk).1
   | succ k => exact cW j k b (by omega) hj hk
end
end
section
theorem get_some {α : Type} {l : List α} {i : Nat} (h : i < l.length) : ∃ x, l[i]? = some x := ⟨l[i], List.getElem?_eq_getElem h⟩
theorem Sub.set {cs r : List Value} {o : Nat} (h : Sub cs o r) (k : Nat) (v : Value) (hk : k < r.length) (hl : o + k < cs.length) : Sub (cs.set (o + k) v) o (r.set k v) := fun j hj => by
 rw [List.length_set] at hj
 rw [List.getElem?_set, List.getElem?_set]
 by_cases he : k = j
 ·subst he; simp [hk, hl]
 ·rw [if_neg (by omega), if_neg he]; exact h j hj
def pT (cs cs' : List Value) (o m : Nat) : Prop := cs'.length = cs.length ∧ ∀ j, (j < o ∨ o + m ≤ j) → cs'[j]? = cs[j]?
theorem pT.refl (cs : List Value) (o m : Nat) : pT cs cs o m := ⟨rfl, fun _ _ => rfl⟩
theorem pT.set {cs cs' : List Value} {o m : Nat} (h : pT cs cs' o m) (k : Nat) (v : Value) (hk : k < m) : pT cs (cs'.set (o + k) v) o m :=
 ⟨by simpa using h.1, fun j hj => by rw [List.getElem?_set, if_neg (by omega)]; exact h.2 j hj⟩
theorem Rd.aFq {w0 : World} {R : List Piece} {H : List HP} {ps : List HP} {g o : Nat} {t : TypeId} {cs : List Value} {v : Value} (i j : Nat) (hi : H[i]? = some (HP.many ps)) (hj : ps[j]? = some (HP.aF g t cs)) (hv : cs[o]? = some v) : Rd w0 R H g o v := fun w st => by
 obtain ⟨F, G, g1, _⟩ := st.sat hi
 have := (g1 j _ hj).2
 rw [this.cell]
 simpa using hv
theorem Kn {sz : Nat} (rows : List (List Value)) (hl : ∀ r ∈ rows, r.length = sz) (k f : Nat) (r : List Value) (hk : rows[k]? = some r) (hf : f < sz) : rows.flatten[k * sz + f]? = r[f]? := by
 have := Co (fun x => x) sz rows hl k f r hk hf
 rwa [List.flatMap_id'] at this
theorem Rx {sz : Nat} : ∀ (rows : List (List Value)), (∀ r ∈ rows, r.length = sz) → rows.flatten.length = rows.length * sz
 | [], _ => by simp
 | r :: rs, h => by rw [List.flatten_cons, List.length_append, Rx rs (fun x hx => h x (by simp [hx])), h r (by simp), List.length_cons, Nat.succ_mul, Nat.add_comm]
theorem wM {sz n i : Nat} {cs cs' r' : List Value} {rows : List (List Value)} (hc : cs.take (n * sz) = rows.flatten) (hn : rows.length = n) (hr : ∀ r ∈ rows, r.length = sz) (hi : i < n) (hl : n * sz ≤ cs.length) (hr' : r'.length = sz) (hs : Sub cs' (i * sz) r') (hu : pT cs cs' (i * sz) sz) : cs'.take (n * sz) = (rows.set i r').flatten := by
 have Ty : ∀ r ∈ rows.set i r', r.length = sz := fun r hrm => by
  rcases List.mem_or_eq_of_mem_set hrm with h | h
  ·exact hr r h
  ·rw [h]; exact hr'
 refine List.ext_getElem? fun j => ?_
 rcases Nat.lt_or_ge j (n * sz) with hj | hj
 ·have hpos : 0 < sz := by
   rcases Nat.eq_zero_or_pos sz with h0 | h0
   ·rw [h0, Nat.mul_zero] at hj; omega
   ·exact h0
  have qW : j / sz * sz + j % sz = j := by rw [Nat.mul_comm]; exact Nat.div_add_mod j sz
  have hmod : j % sz < sz := Nat.mod_lt _ hpos
  have hq : j / sz < n := Nat.div_lt_of_lt_mul (by rw [Nat.mul_comm]; exact hj)
  have hlen := hu.1
  rw [List.getElem?_take_of_lt hj]
  by_cases he : j / sz = i
  ·have h1 : (rows.set i r')[j / sz]? = some r' := by rw [he, List.getElem?_set_self (by omega)]
   have h2 := Kn (rows.set i r') Ty (j / sz) (j % sz) r' h1 hmod
   rw [qW] at h2
   rw [h2]
   have h3 := hs (j % sz) (by omega)
   rw [← he, qW] at h3
   exact h3
  ·obtain ⟨r, hrq⟩ := get_some (l := rows) (i := j / sz) (by omega)
   have h1 : (rows.set i r')[j / sz]? = some r := by rw [List.getElem?_set_ne (by omega)]; exact hrq
   have h2 := Kn (rows.set i r') Ty (j / sz) (j % sz) r h1 hmod
   have h3 := Kn rows hr (j / sz) (j % sz) r hrq hmod
   rw [qW] at h2 h3
   rw [h2, ← h3, ← hc, List.getElem?_take_of_lt hj]
   refine hu.2 j ?_
   rcases Nat.lt_or_ge (j / sz) i with hlt | hge
   ·left
    have := Nat.mul_le_mul_right sz (show j / sz + 1 ≤ i by omega)
    rw [Nat.add_mul, Nat.one_mul] at this
    omega
   ·right
    have := Nat.mul_le_mul_right sz (show i + 1 ≤ j / sz by omega)
    rw [Nat.add_mul, Nat.one_mul] at this
    omega
 ·rw [List.getElem?_eq_none (by rw [List.length_take]; omega), List.getElem?_eq_none (by rw [Rx _ Ty, List.length_set, hn]; exact hj)]
theorem xY {sz n i : Nat} {cs r : List Value} {rows : List (List Value)} (hc : cs.take (n * sz) = rows.flatten) (hn : rows.length = n) (hr : ∀ r ∈ rows, r.length = sz) (hi : rows[i]? = some r) : Sub cs (i * sz) r := fun k hk => by
 have hlt : i < n := by rw [← hn]; exact (List.getElem?_eq_some_iff.1 hi).1
 have hrl : r.length = sz := hr r (List.mem_of_getElem? hi)
 have h1 := Kn rows hr i k r hi (by omega)
 have h2 : i * sz + k < n * sz := by
  have := Nat.mul_le_mul_right sz (show i + 1 ≤ n by omega)
  rw [Nat.add_mul, Nat.one_mul] at this
  omega
 rw [← h1, ← hc, List.getElem?_take_of_lt h2]
def wW (T el : TypeId) (sz t : Nat) (A : Option Addr) (n c : Nat) (rows : List (List Value)) : HP := HP.many [HP.aF t T [.slice A n c], HP.own el sz (.slice A n c) n rows.flatten]
structure vL (w : World) (sz t : Nat) (A : Option Addr) (n c : Nat) (rows : List (List Value)) : Prop where
 r0 : eW w t 0 (.slice A n c)
 row : aH (all w) sz A n rows.flatten
section
variable {N : cN} {w0 w : World} {e : Env} {R : List Piece} {H : List HP} {K : Act → World → Prop} {T el : TypeId} {sz t n c : Nat} {A : Option Addr} {rows Zz : List (List Value)}
theorem wW.reads {F : Nat → Prop} (h : (wW T el sz t A n c rows).sat F w) (hF : ∀ b, F b → b < w.heap.size) : vL w sz t A n c rows := by
 obtain ⟨G, g1, g2, _⟩ := h
 have h0 := g1 0 _ rfl
 have h1 := g1 1 _ rfl
 obtain ⟨A', c', he, hs⟩ := aH.rN (Y := fun b => b < w.heap.size) h1 (fun b hb => hF b (g2 1 b hb))
 injection he with he
 subst he
 exact ⟨⟨h0.2.lt, by rw [h0.2.cell]; rfl⟩, hs⟩
theorem St.Ry (st : St w0 R H w) (i : Nat) (hi : H[i]? = some (wW T el sz t A n c rows)) : vL w sz t A n c rows := by
 obtain ⟨F, h1, h2, _⟩ := st.chunk hi
 exact wW.reads h1 h2
theorem Rd.row (i : Nat) (hi : H[i]? = some (wW T el sz t A n c rows)) : Rd w0 R H t 0 (.slice A n c) := fun w st => (st.Ry i hi).r0.2
theorem vL.at_ (h : vL w sz t A n c rows) (hr : ∀ r ∈ rows, r.length = sz) {i : Nat} {r : List Value} (hi : rows[i]? = some r) (hn : i < n) : ∃ b off, A = some ⟨b, off, none⟩ ∧ cZ w b (off + i * sz) r := aH.row h.row hr hi hn
theorem vL.below {w' : World} (h : vL w sz t A n c rows) (hb : Below w.heap.size w w') : vL w' sz t A n c rows :=
 ⟨⟨Nat.lt_of_lt_of_le h.r0.1 hb.size, (hb.cell (p := ⟨_, 0, none⟩) h.r0.1).trans h.r0.2⟩, h.row.le (fU hb)⟩
theorem XK.Sf (i : Nat) (hi : H[i]? = some (wW T el sz t A n c rows)) (hn : 0 < n) (h : ∀ g cs, A = some ⟨g, 0, none⟩ → cs.length = c * sz → cs.take (n * sz) = rows.flatten → n ≤ c → c ≤ maxLen →
  XK N w0 K e R (HP.aF g el cs :: HP.aF t T [.slice (some ⟨g, 0, none⟩) n c] :: H.set i (HP.many [HP.emp, HP.emp]))) : XK N w0 K e R H := by
 have hlt := tA hi
 refine XK.take i 0 hi rfl ?_
 refine XK.take (i + 1) 1 (by rw [List.getElem?_cons_succ, List.getElem?_set_self hlt]) rfl ?_
 refine XK.Nj 0 rfl hn fun g hA => ?_
 rw [hA]
 refine XK.vY 0 rfl fun cs h1 h2 h3 h4 => ?_
 have := h g cs hA h1 h2 h3 h4
 simpa [List.set_cons_succ, List.set_set] using this
theorem XK.yL (i : Nat) {g : Nat} {cs : List Value} (hA : A = some ⟨g, 0, none⟩) (h1 : cs.length = c * sz) (h2 : cs.take (n * sz) = Zz.flatten) (h3 : n ≤ c) (h4 : c ≤ maxLen) (hi : H[i]? = some (HP.many [HP.emp, HP.emp]))
  (h : XK N w0 K e R (H.set i (wW T el sz t A n c Zz))) : XK N w0 K e R (HP.aF g el cs :: HP.aF t T [.slice (some ⟨g, 0, none⟩) n c] :: H) := by
 have hlt := tA hi
 subst hA
 refine XK.vJ 0 (n := n) (c := c) (sz := sz) rfl h1 h2 h3 h4 ?_
 dsimp only [List.set]
 refine XK.aX (i + 1) 1 (by rw [List.getElem?_cons_succ]; exact hi) rfl ?_
 dsimp only [List.set]
 refine XK.aX i 0 (by rw [List.getElem?_set_self hlt]) rfl ?_
 simpa [List.set_set, wW] using h
end
end
section
section
variable {N : cN} {w0 : World} {e : Env} {R R0 : List Piece} {H H0 : List HP} {Q : Exit → Act → World → Prop} {ops : Array Oper} {rest : List Oper} {K : Act → World → Prop} {m fuel : Nat} {listed : Array Bool}
variable {d : Nat} {ty : TypeId} {pos : String} {aJ : Array Edge} {op : Op} {v : Value}
theorem aHk {x : Operand} {t kt et : TypeId} {r : Nat} {l : List (Int × Value)} (ht : Tryz.prog.underlying t = some (.map kt et)) (hx : e.ev x = some (.map (some r))) (hm : ∀ w, St w0 R H w → sF w r l) : bH Tryz.prog N w0 e R H ⟨some d, .call { callee := .builtin .len, args := #[x], argTypes := #[t] }, ty, pos, aJ, none⟩ (.int .i64 l.length) := fun a w hr st => by
 obtain ⟨es, c, h1, h2⟩ := hm w st
 have hl : es.size = l.length := by have := congrArg List.length h2; simpa using this
 have h3 : (execOp a.eval ⟨some d, .call { callee := .builtin .len, args := #[x], argTypes := #[t] }, ty, pos, aJ, none⟩).run Tryz.prog w = .ok (.value (.int .i64 es.size)) w := by
  simp [execOp, resolve, invoke, builtin, hr.ev hx, Builtin.len_, run_underlying ht, run_getObj_map h1, goInt]
 rw [h3, hl]
theorem Ob (i : Nat) {f : FuncId} {x : Operand} {args : List Operand} {fi ca vs : List Value} {tys : Array TypeId} {p : HP} (q : HP)
  (hc : ∀ w F, St w0 R H w → p.sat F w → (∀ b, F b → b < w.heap.size) → (∀ q ∈ R, q.Le ⟨w, fun b => b < w.heap.size ∧ ¬ F b⟩) → Calls Tryz.prog f (fi ++ vs ++ ca).toArray w fun y w' => y = .returned v ∧ ∃ F', q.sat F' w' ∧ bI w w' F F')
  (k : XK N w0 (wpList Tryz.prog ops Q rest) ((d, v) :: e) R (H.set i q)) (hi : H[i]? = some p := by rfl) (hx : e.ev x = some (.func (.func f) fi.toArray ca.toArray) := by rfl) (ha : e.cV args = some vs := by rfl) (hf : fK Tryz.prog f = true := by kernel_rfl) (hd : d < N.n := by decide) :
  XK N w0 (wpList Tryz.prog ops Q (⟨some d, .call { callee := .value x, args := args.toArray, argTypes := tys }, ty, pos, aJ, none⟩ :: rest)) e R H := Yi (dst := some d) (e' := (d, v) :: e) i q hf hx ha hi ⟨hd, rfl⟩ hc k
theorem fE (i : Nat) {f : FuncId} {x : Operand} {args : List Operand} {vs : List Value} {tys : Array TypeId} {p : HP} (q : HP)
  (hc : ∀ w F, St w0 R H w → p.sat F w → (∀ b, F b → b < w.heap.size) → (∀ q ∈ R, q.Le ⟨w, fun b => b < w.heap.size ∧ ¬ F b⟩) → Calls Tryz.prog f vs.toArray w fun y w' => y = .returned v ∧ ∃ F', q.sat F' w' ∧ bI w w' F F')
  (k : XK N w0 (wpList Tryz.prog ops Q rest) ((d, v) :: e) R (H.set i q)) (hi : H[i]? = some p := by rfl) (hx : e.ev x = some (.func (.func f) #[] #[]) := by rfl) (ha : e.cV args = some vs := by rfl) (hf : fK Tryz.prog f = true := by kernel_rfl) (hd : d < N.n := by decide) :
  XK N w0 (wpList Tryz.prog ops Q (⟨some d, .call { callee := .value x, args := args.toArray, argTypes := tys }, ty, pos, aJ, none⟩ :: rest)) e R H := Ob (fi := []) (ca := []) i q (fun w F t h1 h2 h3 => by simpa using hc w F t h1 h2 h3) k hi hx ha hf hd
end
end
section
set_option maxHeartbeats 4000000
set_option maxRecDepth 20000
def Gd (n : Nat) (xs : List Value) (v : Value) (hs : List HP) (_ : Piece) : Prop := ∃ A c, v = .slice A n c ∧ hs = [HP.own 92 2 (.slice A n c) n xs]
theorem Lo (A : Option Addr) (n c : Nat) (xs : List Value) (w : World) (hs : aH (all w) 2 A n xs) (h1 : ∀ u ∈ xs, u.oneCell' = true) (hn : n ≤ 1000000) :
  Calls Tryz.prog 141 #[.slice A n c] w (fun y w' => (∃ v hs q, y = .returned v ∧ q.w = w' ∧ Gd n xs v hs q ∧ kA w hs q) ∧ Below w.heap.size w w') := by
 refine XK.enter (vs := [.slice A n c]) Tryz.func141 rfl Tryz.ntmps141 (by simp) ?_
 refine XK.go ?_
 refine Qr (el := 92) (by kernel_rfl) rfl (by decide) ?_
 refine XK.aE ?_
 refine XK.cond rfl (fun hA => ?_) (fun hA => ?_)
 ·refine XK.go ?_
  have hn0 : n = 0 := by
   rcases Nat.eq_zero_or_pos n with h | h
   ·exact h
   ·obtain ⟨b, off, rfl, _⟩ := hs.2 h
    cases hA
  subst hn0
  have hx : xs = [] := List.eq_nil_of_length_eq_zero (by simpa using hs.1)
  subst hx
  refine XK.kN 92 2 ?_
  refine XK.still [] [] [0] (by simp) rfl (by decide) (by decide) fun q _ _ hfr => ?_
  exact XK.aI rfl rfl fun w1 st => ⟨⟨_, _, ⟨w1, q.Z⟩, rfl, rfl, ⟨_, _, rfl, rfl⟩, st.newR (by simp) (by simp) (hfr (by simp) (by simp))⟩, st.below (by simp)⟩
 ·refine XK.go ?_
  refine Qm (el := 92) (sz := 2) (by kernel_rfl) (by kernel_rfl) (by decide) fun g => ?_
  refine XK.Ls 0 2 0 rfl rfl (by omega) ?_
  dsimp only [List.set]
  refine XK.go ?_
  refine fI 0 2 8 n (n' := n) (el := 92) (by kernel_rfl) (by kernel_rfl) (by decide) rfl rfl rfl (qI (by simp) hs) h1 (by omega) (by omega) (by omega) (by decide) fun A' k' => ?_
  dsimp only [List.set, List.nil_append]
  refine XK.go ?_
  refine XK.still [] [] [0] (by simp) rfl (by decide) (by decide) fun q _ _ hfr => ?_
  exact XK.aI rfl rfl fun w1 st => ⟨⟨_, _, ⟨w1, q.Z⟩, rfl, rfl, ⟨_, _, rfl, rfl⟩, st.newR (by simp) (by simp) (hfr (by simp) (by simp))⟩, st.below (by simp)⟩
def Xt (n : Nat) (xs : List Value) (v : Value) (hs : List HP) (_ : Piece) : Prop := ∃ A c, v = .slice A n c ∧ hs = [HP.own 44 1 (.slice A n c) n xs]
theorem aBG (A : Option Addr) (n c : Nat) (xs : List Value) (w : World) (hs : aH (all w) 1 A n xs) (h1 : ∀ u ∈ xs, u.oneCell' = true) (hn : n ≤ 1000000) :
  Calls Tryz.prog 72 #[.slice A n c] w (fun y w' => (∃ v hs q, y = .returned v ∧ q.w = w' ∧ Xt n xs v hs q ∧ kA w hs q) ∧ Below w.heap.size w w') := by
 refine XK.enter (vs := [.slice A n c]) Tryz.func72 rfl Tryz.ntmps72 (by simp) ?_
 refine XK.go ?_
 refine Qr (el := 44) (by kernel_rfl) rfl (by decide) ?_
 refine XK.aE ?_
 refine XK.cond rfl (fun hA => ?_) (fun hA => ?_)
 ·refine XK.go ?_
  have hn0 : n = 0 := by
   rcases Nat.eq_zero_or_pos n with h | h
   ·exact h
   ·obtain ⟨b, off, rfl, _⟩ := hs.2 h
    cases hA
  subst hn0
  have hx : xs = [] := List.eq_nil_of_length_eq_zero (by simpa using hs.1)
  subst hx
  refine XK.kN 44 1 ?_
  refine XK.still [] [] [0] (by simp) rfl (by decide) (by decide) fun q _ _ hfr => ?_
  exact XK.aI rfl rfl fun w1 st => ⟨⟨_, _, ⟨w1, q.Z⟩, rfl, rfl, ⟨_, _, rfl, rfl⟩, st.newR (by simp) (by simp) (hfr (by simp) (by simp))⟩, st.below (by simp)⟩
 ·refine XK.go ?_
  refine Qm (el := 44) (sz := 1) (by kernel_rfl) (by kernel_rfl) (by decide) fun g => ?_
  refine XK.Ls 0 1 0 rfl rfl (by omega) ?_
  dsimp only [List.set]
  refine XK.go ?_
  refine fI 0 1 4 n (n' := n) (el := 44) (by kernel_rfl) (by kernel_rfl) (by decide) rfl rfl rfl (qI (by simp) hs) h1 (by omega) (by omega) (by omega) (by decide) fun A' k' => ?_
  dsimp only [List.set, List.nil_append]
  refine XK.go ?_
  refine XK.still [] [] [0] (by simp) rfl (by decide) (by decide) fun q _ _ hfr => ?_
  exact XK.aI rfl rfl fun w1 st => ⟨⟨_, _, ⟨w1, q.Z⟩, rfl, rfl, ⟨_, _, rfl, rfl⟩, st.newR (by simp) (by simp) (hfr (by simp) (by simp))⟩, st.below (by simp)⟩
end
section
set_option maxHeartbeats 4000000
set_option maxRecDepth 20000
def jI (l : List Int) : List Value := l.map (Value.int .u32)
theorem Rc (l : List Int) : (jI l).length = l.length := by simp [jI]
theorem Yv {l : List Int} {i : Nat} {v : Int} (h : l[i]? = some v) : (jI l)[i]? = some (.int .u32 v) := by simp [jI, h]
theorem Yu (l : List Int) (i : Nat) (v : Int) : (jI l).set i (.int .u32 v) = jI (l.set i v) := by simp [jI, List.map_set]
structure FL where
 f : Nat
 gn : Nat
 gs : Nat
 A : Option Addr
 c : Nat
def nN (d : bB) (A : Option Addr) (p : Piece) : Prop := aH p 2 A d.aQ.length (d.aQ.flatMap Rg.cells)
theorem nN.le {d : bB} {A : Option Addr} (p q : Piece) (hl : p.Le q) (h : nN d A p) : nN d A q := aH.le h hl
def Cq (L : FL) (d : bB) (k : Bool) : List Value := [.slice L.A d.aQ.length L.c, .slice (some ⟨L.gn, 0, none⟩) d.aQ.length d.aQ.length, .slice (some ⟨L.gs, 0, none⟩) d.aQ.length d.aQ.length, .bool k]
def dM (L : FL) (d : bB) (x : bK) : HP := HP.many [HP.aF L.f 240 (Cq L d x.kept), HP.aF L.gn 44 (jI x.now), HP.aF L.gs 44 (jI x.saved), HP.dV (nN d L.A) (nN.le (d := d) (A := L.A))]
structure wZ (w : World) (L : FL) (d : bB) (x : bK) : Prop where
 r0 : cZ w L.f 0 (Cq L d x.kept)
 now : cZ w L.gn 0 (jI x.now)
 saved : cZ w L.gs 0 (jI x.saved)
 made : aH (all w) 2 L.A d.aQ.length (d.aQ.flatMap Rg.cells)
theorem wZ.below {w w' : World} {L : FL} {d : bB} {x : bK} (h : wZ w L d x) (hb : Below w.heap.size w w') : wZ w' L d x := ⟨h.r0.below hb, h.now.below hb, h.saved.below hb, h.made.le (fU hb)⟩
theorem wU {w : World} {g : Nat} {t : TypeId} {cs : List Value} (h : dQ w g t cs.toArray) : cZ w g 0 cs := ⟨h.lt, fun j v hv => by rw [h.cell, Nat.zero_add]; simpa using hv⟩
theorem dM.reads {L : FL} {d : bB} {x : bK} {F : Nat → Prop} {w : World} (h : (dM L d x).sat F w) (hF : ∀ b, F b → b < w.heap.size) : wZ w L d x := by
 obtain ⟨G, g1, g2, _⟩ := h
 exact ⟨wU (g1 0 _ rfl).2, wU (g1 1 _ rfl).2, wU (g1 2 _ rfl).2, aH.le (g1 3 _ rfl) (fun b hb => ⟨hF b (g2 3 b hb), rfl⟩)⟩
section
variable {N : cN} {w0 w : World} {e : Env} {R : List Piece} {H : List HP} {K : Act → World → Prop} {L : FL} {d : bB} {x : bK}
theorem St.aBw (t : St w0 R H w) (i : Nat) (hi : H[i]? = some (dM L d x)) : wZ w L d x := by
 obtain ⟨F, h1, h2, _⟩ := t.chunk hi
 exact dM.reads h1 h2
theorem XK.Np (i : Nat) (hi : H[i]? = some (dM L d x)) (h : XK N w0 K e R (HP.aF L.gs 44 (jI x.saved) :: HP.aF L.gn 44 (jI x.now) :: HP.aF L.f 240 (Cq L d x.kept) :: H.set i (HP.many [HP.emp, HP.emp, HP.emp, HP.dV (nN d L.A) (nN.le (d := d) (A := L.A))]))) : XK N w0 K e R H := by
 have hlt := tA hi
 refine XK.take i 0 hi rfl ?_
 refine XK.take (i + 1) 1 (by rw [List.getElem?_cons_succ, List.getElem?_set_self hlt]) rfl ?_
 refine XK.take (i + 2) 2 (by simp [hlt]; rfl) rfl ?_
 simpa [List.set_cons_succ, List.set_set] using h
theorem XK.Pw (i : Nat) (hi : H[i]? = some (HP.many [HP.emp, HP.emp, HP.emp, HP.dV (nN d L.A) (nN.le (d := d) (A := L.A))])) (h : XK N w0 K e R (H.set i (dM L d x))) : XK N w0 K e R (HP.aF L.gs 44 (jI x.saved) :: HP.aF L.gn 44 (jI x.now) :: HP.aF L.f 240 (Cq L d x.kept) :: H) := by
 have hlt := tA hi
 refine XK.aX (i + 2) 2 (by simpa using hi) rfl ?_
 dsimp only [List.set]
 refine XK.aX (i + 1) 1 (by simp [hlt]; rfl) rfl ?_
 dsimp only [List.set]
 refine XK.aX i 0 (by simp [hlt]; rfl) rfl ?_
 simpa [List.set_set, dM] using h
end
theorem aAb (L : FL) (d : bB) (x : bK) (w : World) (hR : wZ w L d x) :
  Calls Tryz.prog 64 #[.pointer (some ⟨L.f, 0, none⟩)] w (Rt (.int .i64 d.aQ.length) w) := by
 have h0 := hR.r0.at_ (j := 0) rfl
 refine XK.enter (vs := [.pointer (some ⟨L.f, 0, none⟩)]) Tryz.func64 rfl Tryz.ntmps64 (by simp) ?_
 refine XK.go ?_
 exact XK.bU (by simp) rfl
theorem aAc (p : Piece) (S : Nat → HP) (L : FL) (d : bB) (hrl : d.aQ.length ≤ 100) (f : FuncId) (hf : fK Tryz.prog f = true) (ca : List Value)
  (hread : ∀ i, i ≤ d.aQ.length → ∀ w F, (S i).sat F w → (∀ b, F b → b < w.heap.size) → ∃ x, wZ w L d x)
  (hstep : ∀ i r, d.aQ[i]? = some r → ∀ w F, (S i).sat F w → (∀ b, F b → b < w.heap.size) → p.Le ⟨w, fun b => b < w.heap.size ∧ ¬ F b⟩ →
   Calls Tryz.prog f (([.int .i64 (i : Int), .agg r.cells.toArray] : List Value) ++ ca).toArray w (fun y w' => y = .returned (.tuple #[]) ∧ ∃ F', (S (i + 1)).sat F' w' ∧ bI w w' F F'))
  (w : World) (F : Nat → Prop) (hp : (S 0).sat F w) (hF : ∀ b, F b → b < w.heap.size) (xP : p.Le ⟨w, fun b => b < w.heap.size ∧ ¬ F b⟩) :
  Calls Tryz.prog 226 #[.pointer (some ⟨L.f, 0, none⟩), .func (.func f) #[] ca.toArray] w (fun y w' => y = .returned (.tuple #[]) ∧ ∃ F', (S d.aQ.length).sat F' w' ∧ bI w w' F F') := by
 have hfr : ∀ {i : Nat} {R : List Piece} {H : List HP} {w1 : World}, i ≤ d.aQ.length → St w R (S i :: H) w1 → ∃ x, wZ w1 L d x := fun hi t => by
  obtain ⟨G, g1, g2, _⟩ := t.chunk (i := 0) rfl
  exact hread _ hi _ G g1 g2
 refine XK.dD (p := S 0) (F := F) (vs := [.pointer (some ⟨L.f, 0, none⟩), .func (.func f) #[] ca.toArray]) Tryz.func226 rfl Tryz.ntmps226 (by simp) hp hF ?_
 refine XK.go ?_
 refine aZ (v := .int .i64 d.aQ.length) (fun w1 t => by
  obtain ⟨x, hx⟩ := hfr (Nat.zero_le _) t
  exact aAb L d x w1 hx) ?_
 refine XK.go ?_
 refine XK.aK [(7, .int .i64 0), (6, .int .i64 d.aQ.length), (1, .func (.func f) #[] ca.toArray), (0, .pointer (some ⟨L.f, 0, none⟩))] ?_
 refine XK.loop (fun m e R H => ∃ i : Nat, i ≤ d.aQ.length ∧ m = d.aQ.length - i ∧ e = [(7, .int .i64 i), (6, .int .i64 d.aQ.length), (1, .func (.func f) #[] ca.toArray), (0, .pointer (some ⟨L.f, 0, none⟩))] ∧ R = [⟨w, fun b => b < w.heap.size ∧ ¬ F b⟩] ∧ H = [S i]) d.aQ.length ⟨0, by omega, rfl, rfl, rfl, rfl⟩ fun m e R H hI => ?_
 obtain ⟨i, hi, rfl, rfl, rfl, rfl⟩ := hI
 refine XK.go ?_
 refine XK.if_ rfl (fun hlt => ?_) (fun hge => ?_)
 ·have hlt : i < d.aQ.length := by omega
  obtain ⟨r, hr⟩ := get_some hlt
  have hb0 : ∃ b off, L.A = some ⟨b, off, none⟩ := by
   obtain ⟨x, hx⟩ := hread 0 (Nat.zero_le _) w F hp hF
   obtain ⟨b, off, h, _⟩ := hx.made.2 (by omega)
   exact ⟨b, off, h⟩
  obtain ⟨b, off, hA⟩ := hb0
  have Ue : Rd w [⟨w, fun b => b < w.heap.size ∧ ¬ F b⟩] [S i] L.f 0 (.slice (some ⟨b, off, none⟩) d.aQ.length L.c) := fun w1 t => by
   obtain ⟨x, hx⟩ := hfr hi t
   rw [← hA]
   exact (hx.r0.at_ (j := 0) rfl).2
  have aIs : aD w [⟨w, fun b => b < w.heap.size ∧ ¬ F b⟩] [S i] b (off + i * 2) r.cells := fun w1 t => by
   obtain ⟨x, hx⟩ := hfr hi t
   obtain ⟨b', off', nH, hro⟩ := aH.row (rows := d.aQ.map Rg.cells) (by rw [← List.flatMap_def]; exact hx.made) (fun r hr => by obtain ⟨q, _, rfl⟩ := List.mem_map.1 hr; rfl) (by rw [List.getElem?_map, hr]; rfl) hlt
   rw [hA] at nH
   cases nH
   exact hro.2
  refine XK.go ?_
  refine kd (dat i (off + i * 2)) ?_
  refine XK.go ?_
  refine Yi 0 (fi := []) (ca := ca) (vs := [.int .i64 (i : Int), .agg r.cells.toArray]) (p := S i) (S (i + 1)) hf rfl rfl rfl ⟨(by decide), rfl⟩ (fun w1 G t hG rT hle => by
   have hpl := Piece.Le.trans xP (hle _ (by simp))
   simpa using hstep i r hr w1 G hG rT hpl) ?_
  dsimp only [List.set]
  refine XK.go ?_
  refine XK.aK [(7, .int .i64 (i + 1 : Nat)), (6, .int .i64 d.aQ.length), (1, .func (.func f) #[] ca.toArray), (0, .pointer (some ⟨L.f, 0, none⟩))] ?_
  exact XK.round (d.aQ.length - (i + 1)) (by omega) ⟨i + 1, hlt, rfl, rfl, rfl, rfl⟩
 ·obtain rfl : i = d.aQ.length := by omega
  refine XK.go ?_
  exact XK.kV (.inr rfl) rfl fun w1 t => ⟨rfl, t.turns hF (by simp) (i := 0) rfl⟩
end
section
set_option maxHeartbeats 4000000
set_option maxRecDepth 20000
def gI (vs old : List Int) (i : Nat) : List Int := vs.take i ++ old.drop i
theorem Ih (vs old : List Int) : gI vs old 0 = old := by simp [gI]
theorem Ik {vs old : List Int} {n : Nat} (h1 : vs.length = n) (h2 : old.length = n) : gI vs old n = vs := by
 rw [gI, List.drop_eq_nil_of_le (by omega), List.append_nil, List.take_of_length_le (by omega)]
theorem Ij {vs old : List Int} {i n : Nat} (h1 : vs.length = n) (h2 : old.length = n) (hi : i ≤ n) : (gI vs old i).length = n := by simp [gI]; omega
theorem Ii {vs old : List Int} {i : Nat} {v : Int} (h1 : vs.length = old.length) (hv : vs[i]? = some v) : (gI vs old i).set i v = gI vs old (i + 1) := by
 have hi := (List.getElem?_eq_some_iff.1 hv).1
 refine List.ext_getElem? fun j => ?_
 rw [List.getElem?_set]
 unfold gI
 by_cases he : i = j
 ·subst he
  rw [if_pos rfl, if_pos (by simp; omega), List.getElem?_append_left (by simp; omega), List.getElem?_take_of_lt (by omega), hv]
 ·rw [if_neg he]
  rcases Nat.lt_or_ge j i with hj | hj
  ·rw [List.getElem?_append_left (by simp; omega), List.getElem?_append_left (by simp; omega), List.getElem?_take_of_lt hj, List.getElem?_take_of_lt (by omega)]
  ·rw [List.getElem?_append_right (by simp; omega), List.getElem?_append_right (by simp; omega), List.getElem?_drop, List.getElem?_drop]
   congr 1
   simp
   omega
theorem aEH {vs old : List Int} {i : Nat} {v : Int} (h1 : vs.length = old.length) (hi : i < old.length) (hv : old[i]? = some v) : (gI vs old i)[i]? = some v := by
 rw [gI, List.getElem?_append_right (by simp; omega), List.getElem?_drop]
 simp only [List.length_take]
 rw [show i + (i - min i vs.length) = i by omega]
 exact hv
theorem aDC (p : Piece) (L : FL) (d : bB) (x : bK) (f : FuncId) (hf : fK Tryz.prog f = true) (ca : List Value) (g2 g3 i : Nat) (r : Rg) (v : Int) (hr : d.aQ[i]? = some r) (Ow : x.now.length = d.aQ.length)
  (h2 : p.Z g2 ∧ p.w.cell? ⟨g2, 0, none⟩ = some (.pointer (some ⟨L.f, 0, none⟩))) (h3 : p.Z g3 ∧ p.w.cell? ⟨g3, 0, none⟩ = some (.func (.func f) #[] ca.toArray))
  (hw : ∀ w F, (dM L d x).sat F w → (∀ b, F b → b < w.heap.size) → p.Le (all w) → Calls Tryz.prog f (([.int .i64 (i : Int), .agg r.cells.toArray] : List Value) ++ ca).toArray w (Rt (.int .u32 v) w))
  (w : World) (F : Nat → Prop) (hp : (dM L d x).sat F w) (hF : ∀ b, F b → b < w.heap.size) (xP : p.Le ⟨w, fun b => b < w.heap.size ∧ ¬ F b⟩) :
  Calls Tryz.prog 243 #[.int .i64 (i : Int), .agg r.cells.toArray, .pointer (some ⟨g3, 0, none⟩), .pointer (some ⟨g2, 0, none⟩)] w (fun y w' => y = .returned (.tuple #[]) ∧ ∃ F', (dM L d ⟨x.now.set i v, x.saved, x.kept⟩).sat F' w' ∧ bI w w' F F') := by
 have hlt := (List.getElem?_eq_some_iff.1 hr).1
 obtain ⟨c2, e2⟩ := xP g2 h2.1
 obtain ⟨c3, e3⟩ := xP g3 h3.1
 have k2 : w.cell? ⟨g2, 0, none⟩ = some (.pointer (some ⟨L.f, 0, none⟩)) := (World.cell?_of_block (w := p.w) e2).trans h2.2
 have k3 : w.cell? ⟨g3, 0, none⟩ = some (.func (.func f) #[] ca.toArray) := (World.cell?_of_block (w := p.w) e3).trans h3.2
 refine XK.dD (p := dM L d x) (F := F) (vs := [.int .i64 (i : Int), .agg r.cells.toArray, .pointer (some ⟨g3, 0, none⟩), .pointer (some ⟨g2, 0, none⟩)]) Tryz.func243 rfl Tryz.ntmps243 (by simp) hp hF ?_
 refine XK.go ?_
 refine bY rfl (by decide) fun g1 => ?_
 refine XK.go ?_
 have r2 : Rd w [⟨w, fun b => b < w.heap.size ∧ ¬ F b⟩] [HP.aF g1 92 r.cells, dM L d x] g2 0 (.pointer (some ⟨L.f, 0, none⟩)) := Rd.ro (List.mem_singleton.2 rfl) c2 k2
 have r3 : Rd w [⟨w, fun b => b < w.heap.size ∧ ¬ F b⟩] [HP.aF g1 92 r.cells, dM L d x] g3 0 (.func (.func f) #[] ca.toArray) := Rd.ro (List.mem_singleton.2 rfl) c3 k3
 have r4 : Rd w [⟨w, fun b => b < w.heap.size ∧ ¬ F b⟩] [HP.aF g1 92 r.cells, dM L d x] L.f 1 (.slice (some ⟨L.gn, 0, none⟩) d.aQ.length d.aQ.length) := fun w1 t => ((t.aBw 1 rfl).r0.at_ (j := 1) rfl).2
 refine XK.draw 9 (by kernel_rfl) (by kernel_rfl) ?_
 refine XA.q 0 ?_
 refine XA.q 1 ?_
 refine XA.q 2 ?_
 refine XA.q 3 ?_
 refine XA.q 4 ?_
 refine XA.q 5 ?_
 refine XA.q 6 ?_
 refine XA.q 7 ?_
 refine XA.next 8 rfl (by kernel_rfl) ?_
 refine Oc (fi := []) (ca := ca) (vs := [.int .i64 (i : Int), .agg r.cells.toArray]) (v := .int .u32 v) (hf := hf) (fun w1 t => by
  obtain ⟨G, g1', g2', g3', _⟩ := t.chunk (i := 1) rfl
  have hle : p.Le (all w1) := fun b hb => by
   obtain ⟨a1, a2⟩ := (Piece.Le.trans xP (g3' _ (List.mem_singleton.2 rfl))) b hb
   exact ⟨a1.1, a2⟩
  simpa using hw w1 G g1' g2' hle) ?_
 refine XA.bk ?_
 refine XA.next 9 rfl (by kernel_rfl) ?_
 refine kd (dat i i) ?_
 refine XA.bt ?_
 refine XA.next 10 rfl (by kernel_rfl) ?_
 refine XK.Np 1 rfl ?_
 dsimp only [List.set]
 have hul := Rc x.now
 refine iE rfl rfl ?_
 dsimp only [List.set]
 rw [Yu]
 refine XK.Pw (x := ⟨x.now.set i v, x.saved, x.kept⟩) 1 rfl ?_
 refine XA.bt ?_
 refine XA.done (by kernel_rfl) ?_
 refine XK.go ?_
 exact XK.kV (.inr rfl) rfl fun w1 t => ⟨rfl, t.turns hF (by simp) (i := 1) rfl⟩
theorem aAd (L : FL) (d : bB) (x : bK) (hrl : d.aQ.length ≤ 100) (f : FuncId) (hf : fK Tryz.prog f = true) (ca : List Value) (p : Piece) (vs : List Int) (hvl : vs.length = d.aQ.length) (Ow : x.now.length = d.aQ.length)
  (hw : ∀ (i : Nat) (r : Rg) (v : Int), d.aQ[i]? = some r → vs[i]? = some v → ∀ (now : List Int) w F, (dM L d ⟨now, x.saved, x.kept⟩).sat F w → (∀ b, F b → b < w.heap.size) → p.Le (all w) → Calls Tryz.prog f (([.int .i64 (i : Int), .agg r.cells.toArray] : List Value) ++ ca).toArray w (Rt (.int .u32 v) w))
  (w : World) (F : Nat → Prop) (hp : (dM L d x).sat F w) (hF : ∀ b, F b → b < w.heap.size) (xP : p.Le ⟨w, fun b => b < w.heap.size ∧ ¬ F b⟩) :
  Calls Tryz.prog 216 #[.pointer (some ⟨L.f, 0, none⟩), .func (.func f) #[] ca.toArray] w (fun y w' => y = .returned (.tuple #[]) ∧ ∃ F', (dM L d ⟨vs, x.saved, x.kept⟩).sat F' w' ∧ bI w w' F F') := by
 refine XK.dD (p := dM L d x) (F := F) (vs := [.pointer (some ⟨L.f, 0, none⟩), .func (.func f) #[] ca.toArray]) Tryz.func216 rfl Tryz.ntmps216 (by simp) hp hF ?_
 refine XK.go ?_
 refine bY rfl (by decide) fun g2 => ?_
 refine bY rfl (by decide) fun g3 => ?_
 refine XK.go ?_
 refine iL (vf := []) (vc := [.pointer (some ⟨g3, 0, none⟩), .pointer (some ⟨g2, 0, none⟩)]) rfl rfl (by decide) ?_
 refine XK.still [⟨w, fun b => b < w.heap.size ∧ ¬ F b⟩] [0, 1] [2] (by simp) rfl (by decide) (by decide) fun q hq Vk _ => ?_
 obtain ⟨F3, s3, z3⟩ := hq 0 _ (by simp) rfl
 obtain ⟨F2, s2, z2⟩ := hq 1 _ (by simp) rfl
 have hpq : p.Le q := Piece.Le.trans xP (Vk _ (by simp))
 refine fE 0 (dM L d ⟨vs, x.saved, x.kept⟩) (fun w1 G t hG rT hle => by
  have key := aAc q (fun i => dM L d ⟨gI vs x.now i, x.saved, x.kept⟩) L d hrl 243 (by kernel_rfl) [.pointer (some ⟨g3, 0, none⟩), .pointer (some ⟨g2, 0, none⟩)]
   (fun i _ w F h1 h2 => ⟨_, dM.reads h1 h2⟩) (fun i r hr w2 Xq h1 h2 h3 => by
    have hlt := (List.getElem?_eq_some_iff.1 hr).1
    obtain ⟨v, hv⟩ := get_some (l := vs) (i := i) (by omega)
    have := aDC q L d ⟨gI vs x.now i, x.saved, x.kept⟩ f hf ca g2 g3 i r v hr (Ij hvl Ow (by omega))
     ⟨z2 _ s2.1, by rw [s2.2.cell]; rfl⟩ ⟨z3 _ s3.1, by rw [s3.2.cell]; rfl⟩ (fun w3 F3 a1 a2 a3 => hw i r v hr hv _ w3 F3 a1 a2 (Piece.Le.trans hpq a3)) w2 Xq h1 h2 h3
    try dsimp only at this
    rw [Ii (by omega) hv] at this
    exact this) w1 G (by show (dM L d ⟨gI vs x.now 0, x.saved, x.kept⟩).sat G w1; rw [Ih]; exact hG) rT (hle q (by simp))
  try dsimp only at key
  rw [Ik hvl Ow] at key
  exact key) ?_
 dsimp only [List.set]
 refine XK.go ?_
 exact XK.kV (.inr rfl) rfl fun w1 t => ⟨rfl, t.turns hF (by simp) (i := 0) rfl⟩
end
section
set_option maxHeartbeats 4000000
set_option maxRecDepth 20000
structure GL where
 t : Nat
 A : Option Addr
 c : Nat
def kR (c : Dom) (x : dL) : List Value := [.int .i64 c.above, .int .i64 c.delay, .bool c.ret, .int .u8 x.phase, .int .i64 x.left, .bool x.kept, .bool x.keep]
def lM (s : aC) (st : List dL) : List (List Value) := List.zipWith kR s.domains st
abbrev lR (L : GL) (s : aC) (st : List dL) : HP := wW 230 232 7 L.t L.A s.domains.length L.c (lM s st)
abbrev aCq (w : World) (L : GL) (s : aC) (st : List dL) : Prop := vL w 7 L.t L.A s.domains.length L.c (lM s st)
section
variable {s : aC} {st : List dL}
theorem Pv (hok : oN s st) : (lM s st).length = s.domains.length ∧ ∀ r ∈ lM s st, r.length = 7 := by
 have := hok.len
 refine ⟨by simp [lM]; omega, fun r hr => ?_⟩
 obtain ⟨j, hj⟩ := List.getElem?_of_mem hr
 rw [lM, List.getElem?_zipWith] at hj
 split at hj <;> cases hj
 rfl
theorem zW {i : Nat} {c : Dom} {x : dL} (hc : s.domains[i]? = some c) (hx : st[i]? = some x) : (lM s st)[i]? = some (kR c x) := by
 rw [lM, List.getElem?_zipWith, hc, hx]
theorem Wh {i : Nat} {c : Dom} {x : dL} (hc : s.domains[i]? = some c) (hi : i < st.length) : (lM s st).set i (kR c x) = lM s (st.set i x) := by
 refine List.ext_getElem? fun j => ?_
 rw [List.getElem?_set]
 by_cases he : i = j
 ·subst he
  rw [if_pos rfl, zW hc (x := x) (by rw [List.getElem?_set_self hi])]
  rw [if_pos]
  have h1 := (List.getElem?_eq_some_iff.1 hc).1
  simp [lM]; omega
 ·rw [if_neg he, lM, lM, List.getElem?_zipWith, List.getElem?_zipWith, List.getElem?_set_ne he]
end
theorem Se (t n c b off i : Nat) (w : World) (h0 : eW w t 0 (.slice (some ⟨b, off, none⟩) n c)) (hi : i < n) :
  Calls Tryz.prog 161 #[.pointer (some ⟨t, 0, none⟩), .int .i64 (i : Int)] w (Rt (.pointer (some ⟨b, off + i * 7, none⟩)) w) := by
 refine XK.enter (vs := [.pointer (some ⟨t, 0, none⟩), .int .i64 (i : Int)]) Tryz.func161 rfl Tryz.ntmps161 (by simp) ?_
 refine XK.go ?_
 refine bT (t := 11) rfl (fun h => absurd h (by omega)) (fun _ => ?_)
 refine XK.go ?_
 refine XK.if_ rfl (fun h => absurd h (by omega)) (fun _ => ?_)
 refine XK.go ?_
 refine kd (dat i (off + i * 7)) ?_
 refine XK.go ?_
 exact XK.bU (by simp) rfl
theorem Sd (t n c : Nat) (A : Option Addr) (i : Int) (w : World) (h0 : eW w t 0 (.slice A n c)) (hi : cF n i = false) :
  Calls Tryz.prog 161 #[.pointer (some ⟨t, 0, none⟩), .int .i64 i] w (Rt (.pointer none) w) := by
 have hi := of_decide_eq_false hi
 refine XK.enter (vs := [.pointer (some ⟨t, 0, none⟩), .int .i64 i]) Tryz.func161 rfl Tryz.ntmps161 (by simp) ?_
 refine XK.go ?_
 refine bT (t := 11) rfl (fun h => ?_) (fun h => ?_)
 ·refine XK.go ?_
  exact XK.bU (by simp) rfl
 ·refine XK.go ?_
  refine XK.if_ rfl (fun h => ?_) (fun h => absurd hi (by omega))
  refine XK.go ?_
  exact XK.bU (by simp) rfl
theorem aAh (g o : Nat) (p : Int) (w : World) (h3 : eW w g (o + 3) (.int .u8 p)) :
  Calls Tryz.prog 162 #[.pointer (some ⟨g, o, none⟩)] w (Rt (.bool (decide (p = 48 ∨ p = 116))) w) := by
 refine XK.enter (vs := [.pointer (some ⟨g, o, none⟩)]) Tryz.func162 rfl Tryz.ntmps162 (by simp) ?_
 refine XK.go ?_
 refine bT (t := 8) rfl (fun h => ?_) (fun h => ?_)
 ·refine XK.go ?_
  refine XK.bU (by simp) ?_
  simp [h]
 ·refine XK.go ?_
  refine XK.bU (by simp) ?_
  simp [h]
theorem aAg (L : GL) (s : aC) (st : List dL) (hok : oN s st) (d : Int) (w : World) (hR : aCq w L s st) :
  Calls Tryz.prog 88 #[.pointer (some ⟨L.t, 0, none⟩), .int .i64 d] w (Rt (.int .u8 (kW st d)) w) := by
 have hl := hok.len
 cases hi : cF s.domains.length d
 ·refine XK.enter (vs := [.pointer (some ⟨L.t, 0, none⟩), .int .i64 d]) Tryz.func88 rfl Tryz.ntmps88 (by simp) ?_
  refine XK.go ?_
  refine aZ (fun w1 t => Sd L.t s.domains.length L.c L.A d w1 ((hR.below (t.below (by simp))).r0) hi) ?_
  refine XK.go ?_
  refine XK.bU (by simp) ?_
  simp [kW, hl, hi]
 ·obtain ⟨n, rfl⟩ : ∃ n : Nat, d = n := ⟨d.toNat, by have := of_decide_eq_true hi; omega⟩
  have hlt : n < s.domains.length := by have := of_decide_eq_true hi; omega
  obtain ⟨c, hc⟩ := get_some hlt
  obtain ⟨x, hx⟩ := get_some (l := st) (i := n) (by omega)
  obtain ⟨b, off, hA, hro⟩ := hR.at_ (Pv hok).2 (zW hc hx) hlt
  have h3 := hro.at_ (j := 3) rfl
  refine XK.enter (vs := [.pointer (some ⟨L.t, 0, none⟩), .int .i64 (n : Int)]) Tryz.func88 rfl Tryz.ntmps88 (by simp) ?_
  refine XK.go ?_
  refine aZ (fun w1 t => Se L.t s.domains.length L.c b off n w1 (by rw [← hA]; exact (hR.below (t.below (by simp))).r0) hlt) ?_
  refine XK.go ?_
  refine XK.bU (by simp) ?_
  simp [kW, hl, hi, hx]
theorem aDV (L : GL) (s : aC) (st : List dL) (hH : s.bO) (hok : oN s st) (d : Int) (w : World) (F : Nat → Prop) (hp : (lR L s st).sat F w) (hF : ∀ b, F b → b < w.heap.size) :
  Calls Tryz.prog 79 #[.pointer (some ⟨L.t, 0, none⟩), .int .i64 d] w (fun y w' => y = .returned (.int .i64 (nQ s st d).1) ∧ ∃ F', (lR L s (nQ s st d).2).sat F' w' ∧ bI w w' F F') := by
 have hl := hok.len
 cases hi : cF s.domains.length d
 ·have hr : nQ s st d = (4, st) := by simp [nQ, hl, hi]
  rw [hr]
  refine XK.dD (p := lR L s st) (F := F) (vs := [.pointer (some ⟨L.t, 0, none⟩), .int .i64 d]) Tryz.func79 rfl Tryz.ntmps79 (by simp) hp hF ?_
  refine XK.go ?_
  refine aZ (fun w1 t => Sd L.t s.domains.length L.c L.A d w1 ((t.Ry 0 rfl).r0) hi) ?_
  refine XK.go ?_
  exact XK.aI rfl rfl fun w1 t => ⟨rfl, t.turns hF (by simp) (i := 0) rfl⟩
 ·obtain ⟨n, rfl⟩ : ∃ n : Nat, d = n := ⟨d.toNat, by have := of_decide_eq_true hi; omega⟩
  have hlt : n < s.domains.length := by have := of_decide_eq_true hi; omega
  obtain ⟨c, hc⟩ := get_some hlt
  obtain ⟨x, hx⟩ := get_some (l := st) (i := n) (by omega)
  obtain ⟨gY, fM⟩ := Pv hok
  have mQ : nQ s st (n : Int) = if zV x = false ∨ Da st c.above = false then (6, st) else (0, st.set n ⟨114, c.delay, decide (x.phase = 116), x.keep⟩) := by
   simp [nQ, hl, hi, hc, hx]
  obtain ⟨Pc, _, _⟩ := hH.domains n c hc
  refine XK.dD (p := lR L s st) (F := F) (vs := [.pointer (some ⟨L.t, 0, none⟩), .int .i64 (n : Int)]) Tryz.func79 rfl Tryz.ntmps79 (by simp) hp hF ?_
  refine XK.Sf 0 rfl (by omega) fun g cs hA h1 h2 h3 h4 => ?_
  dsimp only [List.set]
  have hs := xY h2 gY fM (zW hc hx)
  have hlen : n * 7 + 7 ≤ cs.length := by omega
  have hs1 := hs.set 5 (.bool (decide (x.phase = 116))) (by simp [kR]) (by omega)
  have fF := hs1.set 3 (.int .u8 114) (by simp [kR]) (by simp; omega)
  have kY := fF.set 4 (.int .i64 c.delay) (by simp [kR]) (by simp; omega)
  have hu3 := (((pT.refl cs (n * 7) 7).set 5 (.bool (decide (x.phase = 116))) (by decide)).set 3 (.int .u8 114) (by decide)).set 4 (.int .i64 c.delay) (by decide)
  have hf := wM (r' := kR c ⟨114, c.delay, decide (x.phase = 116), x.keep⟩) h2 gY fM hlt (by omega) rfl kY hu3
  rw [Wh hc (by omega)] at hf
  refine XK.go ?_
  refine aZ (fun w1 t => Se L.t s.domains.length L.c g 0 n w1 ((t.box (i := 1) rfl).at_ (j := 0) rfl) hlt) ?_
  rw [Nat.zero_add]
  refine XK.go ?_
  refine XK.jD ?_
  refine XQ.go ?_
  refine XQ.call (fun w1 t => aAh g (n * 7) x.phase w1 ⟨(t.aF (i := 0) rfl).lt, Rd.sub 0 3 rfl hs rfl rfl w1 t⟩) ?_
  refine XQ.go ?_
  refine XQ.split 14 rfl (fun hd => ?_) (fun hd => ?_)
  ·rw [mQ, if_pos (.inl (decide_eq_false hd))]
   refine XQ.end_ ?_
   refine XK.go ?_
   refine XK.yL 0 hA h1 h2 h3 h4 rfl ?_
   exact XK.aI rfl rfl fun w1 t => ⟨rfl, t.turns hF (by simp) (i := 0) rfl⟩
  ·have hdn : zV x = true := decide_eq_true (Classical.not_not.1 hd)
   refine XQ.go ?_
   refine XQ.split 21 rfl (fun ha => ?_) (fun ha => ?_)
   ·obtain ⟨a, uY, Bv⟩ : ∃ a : Nat, c.above = a ∧ a < n := ⟨c.above.toNat, by omega, by omega⟩
    obtain ⟨ca, hca⟩ := get_some (l := s.domains) (i := a) (by omega)
    obtain ⟨xa, hxa⟩ := get_some (l := st) (i := a) (by omega)
    have hsa := xY h2 gY fM (zW hca hxa)
    refine XQ.go ?_
    refine XQ.kd (dat a (a * 7)) ?_
    refine XQ.end_ ?_
    have hal : Da st c.above = decide (xa.phase = 49) := by
     unfold Da
     rw [uY, Int.toNat_natCast, hxa]
     first | (simp; done) | (simp; omega)
    refine XK.if_ rfl (fun h => ?_) (fun h => ?_)
    ·rw [mQ, if_pos (.inr (by rw [hal]; exact decide_eq_false h))]
     refine XK.go ?_
     refine XK.yL 0 hA h1 h2 h3 h4 rfl ?_
     exact XK.aI rfl rfl fun w1 t => ⟨rfl, t.turns hF (by simp) (i := 0) rfl⟩
    ·rw [mQ, if_neg (by rw [hal, hdn]; simp; exact Classical.not_not.1 h)]
     refine XK.go ?_
     refine XK.yL 0 hA (by simpa using h1) hf h3 h4 rfl ?_
     exact XK.aI rfl rfl fun w1 t => ⟨rfl, t.turns hF (by simp) (i := 0) rfl⟩
   ·have ha := Classical.not_not.1 ha
    rw [mQ, if_neg (by rw [hdn]; simp [Da, ha])]
    refine XQ.end_ ?_
    refine XK.go ?_
    refine XK.yL 0 hA (by simpa using h1) hf h3 h4 rfl ?_
    exact XK.aI rfl rfl fun w1 t => ⟨rfl, t.turns hF (by simp) (i := 0) rfl⟩
end
section
set_option maxHeartbeats 4000000
set_option maxRecDepth 20000
theorem aGc {s : aC} {st : List dL} {d : Int} (h : ∀ (j : Nat) (c : Dom) (x : dL), s.domains[j]? = some c → st[j]? = some x → xV d c x = false) : wK s st d = false := by
 unfold wK
 rw [List.any_eq_false]
 intro b hb
 obtain ⟨j, hj⟩ := List.getElem?_of_mem hb
 rw [List.getElem?_zipWith] at hj
 cases hc : s.domains[j]? with
 | none => rw [hc] at hj; cases hj
 | some c =>
  cases hx : st[j]? with
  | none => rw [hc, hx] at hj; cases hj
  | some x =>
   rw [hc, hx] at hj
   cases hj
   rw [h j c x hc hx]
   decide
theorem aGb {s : aC} {st : List dL} {d : Int} {j : Nat} {c : Dom} {x : dL} (hc : s.domains[j]? = some c) (hx : st[j]? = some x) (h : xV d c x = true) : wK s st d = true := by
 unfold wK
 rw [List.any_eq_true]
 exact ⟨xV d c x, List.mem_of_getElem? (i := j) (by rw [List.getElem?_zipWith, hc, hx]), h⟩
theorem aEa (L : GL) (s : aC) (st : List dL) (hok : oN s st) (hnd : s.domains.length ≤ 1000) (d : Int) (keep : Bool) (w : World) (F : Nat → Prop) (hp : (lR L s st).sat F w) (hF : ∀ b, F b → b < w.heap.size) :
  Calls Tryz.prog 247 #[.pointer (some ⟨L.t, 0, none⟩), .int .i64 d, .bool keep] w (fun y w' => y = .returned (.int .i64 (pP s st d keep).1) ∧ ∃ F', (lR L s (pP s st d keep).2).sat F' w' ∧ bI w w' F F') := by
 have hl := hok.len
 cases hi : cF s.domains.length d
 ·have hr : pP s st d keep = (4, st) := by simp [pP, hl, hi]
  rw [hr]
  refine XK.dD (p := lR L s st) (F := F) (vs := [.pointer (some ⟨L.t, 0, none⟩), .int .i64 d, .bool keep]) Tryz.func247 rfl Tryz.ntmps247 (by simp) hp hF ?_
  refine XK.go ?_
  refine aZ (fun w1 t => Sd L.t s.domains.length L.c L.A d w1 ((t.Ry 0 rfl).r0) hi) ?_
  refine XK.go ?_
  exact XK.aI rfl rfl fun w1 t => ⟨rfl, t.turns hF (by simp) (i := 0) rfl⟩
 ·obtain ⟨n, rfl⟩ : ∃ n : Nat, d = n := ⟨d.toNat, by have := of_decide_eq_true hi; omega⟩
  have hlt : n < s.domains.length := by have := of_decide_eq_true hi; omega
  obtain ⟨c, hc⟩ := get_some hlt
  obtain ⟨x, hx⟩ := get_some (l := st) (i := n) (by omega)
  obtain ⟨gY, fM⟩ := Pv hok
  have hdn : pP s st (n : Int) keep = if x.phase ≠ 49 then (6, st) else if keep = true ∧ c.ret = false then (1, st) else if wK s st n then (7, st) else (0, st.set n ⟨99, x.left, x.kept, keep⟩) := by
   simp [pP, hl, hi, hc, hx]
  refine XK.dD (p := lR L s st) (F := F) (vs := [.pointer (some ⟨L.t, 0, none⟩), .int .i64 (n : Int), .bool keep]) Tryz.func247 rfl Tryz.ntmps247 (by simp) hp hF ?_
  refine XK.Sf 0 rfl (by omega) fun g cs hA h1 h2 h3 h4 => ?_
  dsimp only [List.set]
  have hs := xY h2 gY fM (zW hc hx)
  have hlen : n * 7 + 7 ≤ cs.length := by omega
  have hs1 := hs.set 3 (.int .u8 99) (by simp [kR]) (by omega)
  have fF := hs1.set 6 (.bool keep) (by simp [kR]) (by simp; omega)
  have To := ((pT.refl cs (n * 7) 7).set 3 (.int .u8 99) (by decide)).set 6 (.bool keep) (by decide)
  have hf := wM (r' := kR c ⟨99, x.left, x.kept, keep⟩) h2 gY fM hlt (by omega) rfl fF To
  rw [Wh hc (by omega)] at hf
  refine XK.go ?_
  refine aZ (fun w1 t => Se L.t s.domains.length L.c g 0 n w1 ((t.box (i := 1) rfl).at_ (j := 0) rfl) hlt) ?_
  rw [Nat.zero_add]
  refine XK.go ?_
  refine XK.if_ rfl (fun gJ => ?_) (fun gJ => ?_)
  ·rw [hdn, if_pos gJ]
   refine XK.go ?_
   refine XK.yL 0 hA h1 h2 h3 h4 rfl ?_
   exact XK.aI rfl rfl fun w1 t => ⟨rfl, t.turns hF (by simp) (i := 0) rfl⟩
  rw [if_neg gJ] at hdn
  refine XK.skip ?_
  refine XK.norm ?_
  refine XK.seq ?_
  refine XK.sB 27 (keep = true ∧ c.ret = false) ?_ ?_
  ·cases keep
   ·refine XK.go ?_
    exact XK.lE
   ·refine XK.go ?_
    cases hrt : c.ret <;> exact XK.lE
  refine XK.if_ rfl (fun hk => ?_) (fun hk => ?_)
  ·rw [hdn, if_pos hk]
   refine XK.go ?_
   refine XK.yL 0 hA h1 h2 h3 h4 rfl ?_
   exact XK.aI rfl rfl fun w1 t => ⟨rfl, t.turns hF (by simp) (i := 0) rfl⟩
  rw [if_neg hk] at hdn
  refine XK.go ?_
  refine XK.aK [(33, .int .i64 0), (32, .int .i64 s.domains.length), (7, .pointer (some ⟨g, n * 7, none⟩)), (2, .bool keep), (1, .int .i64 n), (0, .pointer (some ⟨L.t, 0, none⟩))] ?_
  refine XK.loop (fun m e R H => ∃ i : Nat, i ≤ s.domains.length ∧ (∀ (j : Nat) (c : Dom) (x : dL), j < i → s.domains[j]? = some c → st[j]? = some x → xV n c x = false) ∧ m = s.domains.length - i ∧ e = [(33, .int .i64 i), (32, .int .i64 s.domains.length), (7, .pointer (some ⟨g, n * 7, none⟩)), (2, .bool keep), (1, .int .i64 n), (0, .pointer (some ⟨L.t, 0, none⟩))] ∧ R = [⟨w, fun b => b < w.heap.size ∧ ¬ F b⟩] ∧ H = [HP.aF g 232 cs, HP.aF L.t 230 [.slice (some ⟨g, 0, none⟩) s.domains.length L.c], HP.many [HP.emp, HP.emp]]) s.domains.length ⟨0, by omega, fun j _ _ hj => by omega, rfl, rfl, rfl, rfl⟩ fun m e R H hI => ?_
  obtain ⟨i, hi2, hno, rfl, rfl, rfl, rfl⟩ := hI
  refine XK.go ?_
  refine XK.if_ rfl (fun Bv => ?_) (fun hge => ?_)
  ·have Bv : i < s.domains.length := by omega
   obtain ⟨ci, uV⟩ := get_some Bv
   obtain ⟨xi, Oi⟩ := get_some (l := st) (i := i) (by omega)
   have hsi := xY h2 gY fM (zW uV Oi)
   clear hs1 fF
   refine XK.go ?_
   refine kd (dat i (i * 7)) ?_
   refine XK.go ?_
   refine bT (t := 47) rfl (fun ha => ?_) (fun ha => ?_)
   ·refine XK.go ?_
    refine kd (dat i (i * 7)) ?_
    refine aS rfl rfl ?_
    refine aZ (fun w1 t => aAh g (i * 7) xi.phase w1 ⟨(t.aF (i := 0) rfl).lt, Rd.sub 0 3 rfl hsi rfl rfl w1 t⟩) ?_
    refine XK.go ?_
    refine XK.if_ rfl (fun hd => ?_) (fun hd => ?_)
    ·have hh : wK s st n = true := aGb uV Oi (by simp [xV, ha, zV]; simpa using hd)
     rw [hdn, if_pos hh]
     refine XK.go ?_
     refine XK.yL 0 hA h1 h2 h3 h4 rfl ?_
     exact XK.aI rfl rfl fun w1 t => ⟨rfl, t.turns hF (by simp) (i := 0) rfl⟩
    ·refine XK.go ?_
     refine XK.aK [(33, .int .i64 (i + 1 : Nat)), (32, .int .i64 s.domains.length), (7, .pointer (some ⟨g, n * 7, none⟩)), (2, .bool keep), (1, .int .i64 n), (0, .pointer (some ⟨L.t, 0, none⟩))] ?_
     refine XK.round (s.domains.length - (i + 1)) (by omega) ⟨i + 1, Bv, fun j c x hj wH xK => ?_, rfl, rfl, rfl, rfl⟩
     rcases Nat.lt_or_ge j i with h | h
     ·exact hno j c x h wH xK
     ·obtain rfl : j = i := by omega
      rw [uV] at wH; rw [Oi] at xK
      cases wH; cases xK
      have hd := Classical.not_not.1 hd
      simp [xV, zV, hd]
   ·refine XK.go ?_
    refine XK.aK [(33, .int .i64 (i + 1 : Nat)), (32, .int .i64 s.domains.length), (7, .pointer (some ⟨g, n * 7, none⟩)), (2, .bool keep), (1, .int .i64 n), (0, .pointer (some ⟨L.t, 0, none⟩))] ?_
    refine XK.round (s.domains.length - (i + 1)) (by omega) ⟨i + 1, Bv, fun j c x hj wH xK => ?_, rfl, rfl, rfl, rfl⟩
    rcases Nat.lt_or_ge j i with h | h
    ·exact hno j c x h wH xK
    ·obtain rfl : j = i := by omega
     rw [uV] at wH; rw [Oi] at xK
     cases wH; cases xK
     simp [xV, ha]
  ·obtain rfl : i = s.domains.length := by omega
   have hh : wK s st n = false := aGc fun j c x wH xK => hno j c x (List.getElem?_eq_some_iff.1 wH).1 wH xK
   rw [hdn, if_neg (by rw [hh]; decide)]
   refine XK.go ?_
   refine XK.yL 0 hA (by simpa using h1) hf h3 h4 rfl ?_
   exact XK.aI rfl rfl fun w1 t => ⟨rfl, t.turns hF (by simp) (i := 0) rfl⟩
def jS (cs : List Value) (o : Nat) (x : dL) : List Value :=
 if x.phase = 114 then (if 0 < x.left then cs.set (o + 4) (.int .i64 (x.left - 1)) else cs.set (o + 3) (.int .u8 104))
 else if x.phase = 104 then cs.set (o + 3) (.int .u8 49)
 else if x.phase = 99 then cs.set (o + 3) (.int .u8 (if x.keep then 116 else 48)) else cs
theorem aCU {cs : List Value} {o : Nat} {c : Dom} {x : dL} (h : Sub cs o (kR c x)) (hl : o + 7 ≤ cs.length) : Sub (jS cs o x) o (kR c (eA x).2) ∧ pT cs (jS cs o x) o 7 := by
 have hu := pT.refl cs o 7
 obtain ⟨ph, left, kept, keep⟩ := x
 by_cases h1 : ph = 114
 ·subst h1
  by_cases h2 : 0 < left
  ·simp only [jS, eA, if_pos h2, if_true]
   exact ⟨h.set 4 (.int .i64 (left - 1)) (by simp [kR]) (by omega), hu.set 4 _ (by decide)⟩
  ·simp only [jS, eA, if_neg h2, if_true]
   exact ⟨h.set 3 (.int .u8 104) (by simp [kR]) (by omega), hu.set 3 _ (by decide)⟩
 ·by_cases h2 : ph = 104
  ·simp only [jS, eA, if_neg h1, if_pos h2]
   exact ⟨h.set 3 (.int .u8 49) (by simp [kR]) (by omega), hu.set 3 _ (by decide)⟩
  ·by_cases h3 : ph = 99
   ·simp only [jS, eA, if_neg h1, if_neg h2, if_pos h3]
    cases keep
    ·exact ⟨h.set 3 (.int .u8 48) (by simp [kR]) (by omega), hu.set 3 _ (by decide)⟩
    ·exact ⟨h.set 3 (.int .u8 116) (by simp [kR]) (by omega), hu.set 3 _ (by decide)⟩
   ·simp only [jS, eA, if_neg h1, if_neg h2, if_neg h3]
    exact ⟨h, hu⟩
theorem aDX (g o : Nat) (cs : List Value) (c : Dom) (x : dL) (hs : Sub cs o (kR c x)) (hlen : o + 7 ≤ cs.length) (hx : 0 ≤ x.left ∧ x.left ≤ 3) (w : World) (F : Nat → Prop) (hp : (HP.aF g 232 cs).sat F w) (hF : ∀ b, F b → b < w.heap.size) :
  Calls Tryz.prog 168 #[.pointer (some ⟨g, o, none⟩)] w (fun y w' => y = .returned (.int .u8 (eA x).1) ∧ ∃ F', (HP.aF g 232 (jS cs o x)).sat F' w' ∧ bI w w' F F') := by
 refine XK.dD (p := HP.aF g 232 cs) (F := F) (vs := [.pointer (some ⟨g, o, none⟩)]) Tryz.func168 rfl Tryz.ntmps168 (by simp) hp hF ?_
 obtain ⟨ph, left, kept, keep⟩ := x
 dsimp only at hx
 dsimp only [kR] at hs
 refine XK.go ?_
 refine XK.if_ rfl (fun h => ?_) (fun h => ?_)
 ·subst h
  refine XK.go ?_
  refine XK.if_ rfl (fun hp => ?_) (fun hp => ?_)
  ·refine XK.go ?_
   refine XK.aI rfl rfl fun w1 t => ⟨by simp [eA, jS, hp, if_true], ?_⟩
   simp only [eA, jS, if_pos hp, if_true]
   exact t.turns hF (by simp) (i := 0) rfl
  ·have hs1 := hs.set 3 (.int .u8 104) (by simp) (by omega)
   refine XK.go ?_
   refine XK.cond rfl (fun hk => ?_) (fun hk => ?_)
   ·refine XK.go ?_
    refine XK.aI rfl rfl fun w1 t => ⟨by simp [eA, jS, hp, if_true, hk], ?_⟩
    simp only [eA, jS, if_neg hp, if_true, hk]
    exact t.turns hF (by simp) (i := 0) rfl
   ·refine XK.go ?_
    refine XK.aI rfl rfl fun w1 t => ⟨by simp [eA, jS, hp, if_true, hk], ?_⟩
    simp only [eA, jS, if_neg hp, if_true, hk]
    exact t.turns hF (by simp) (i := 0) rfl
 ·refine XK.go ?_
  refine XK.if_ rfl (fun h2 => ?_) (fun h2 => ?_)
  ·refine XK.go ?_
   refine XK.aI rfl rfl fun w1 t => ⟨by simp [eA, jS, h, h2], ?_⟩
   simp only [eA, jS, if_neg h, if_pos h2]
   exact t.turns hF (by simp) (i := 0) rfl
  ·refine XK.go ?_
   refine XK.if_ rfl (fun h3 => ?_) (fun h3 => ?_)
   ·refine XK.go ?_
    refine XK.cond rfl (fun hk => ?_) (fun hk => ?_)
    ·refine XK.go ?_
     refine XK.aI rfl rfl fun w1 t => ⟨by simp [eA, jS, h, h2, h3, hk, if_true], ?_⟩
     simp only [eA, jS, if_neg h, if_neg h2, if_pos h3, hk, if_true]
     exact t.turns hF (by simp) (i := 0) rfl
    ·refine XK.go ?_
     refine XK.aI rfl rfl fun w1 t => ⟨by simp [eA, jS, h, h2, h3, hk], ?_⟩
     simp only [eA, jS, if_neg h, if_neg h2, if_pos h3, hk]
     exact t.turns hF (by simp) (i := 0) rfl
   ·refine XK.go ?_
    refine XK.aI rfl rfl fun w1 t => ⟨by simp [eA, jS, h, h2, h3], ?_⟩
    simp only [eA, jS, if_neg h, if_neg h2, if_neg h3]
    exact t.turns hF (by simp) (i := 0) rfl
theorem Zk {α : Type} {l : List α} {i : Nat} {x : α} (h : l[i]? = some x) : l.set i x = l := by
 refine List.ext_getElem? fun j => ?_
 rw [List.getElem?_set]
 by_cases he : i = j
 ·subst he; rw [if_pos rfl, if_pos (List.getElem?_eq_some_iff.1 h).1, h]
 ·rw [if_neg he]
def xG (st : List dL) (i : Nat) : List dL := (kE st).take i ++ st.drop i
theorem Sr {α : Type} (f : α → α) (st : List α) {i : Nat} (hi : i < st.length) : ((st.map f).take i ++ st.drop i)[i]? = st[i]? := by
 have : ((st.map f).take i).length = i := by simp; omega
 rw [List.getElem?_append_right (by omega), this, Nat.sub_self, List.getElem?_drop, Nat.add_zero]
theorem Sq {α : Type} (f : α → α) (st : List α) {i : Nat} {x : α} (hx : st[i]? = some x) : ((st.map f).take i ++ st.drop i).set i (f x) = (st.map f).take (i + 1) ++ st.drop (i + 1) := by
 have hi := (List.getElem?_eq_some_iff.1 hx).1
 refine List.ext_getElem? fun j => ?_
 rw [List.getElem?_set]
 by_cases he : i = j
 ·subst he
  rw [if_pos rfl, if_pos (by simp; omega), List.getElem?_append_left (by simp; omega), List.getElem?_take_of_lt (by omega), List.getElem?_map, hx]
  rfl
 ·rw [if_neg he]
  rcases Nat.lt_or_ge j i with hj | hj
  ·rw [List.getElem?_append_left (by simp; omega), List.getElem?_append_left (by simp; omega), List.getElem?_take_of_lt hj, List.getElem?_take_of_lt (by omega)]
  ·rw [List.getElem?_append_right (by simp; omega), List.getElem?_append_right (by simp; omega), List.getElem?_drop, List.getElem?_drop]
   congr 1
   simp
   omega
theorem Yz {x : dL} (hl : 0 ≤ x.left ∧ x.left ≤ 3) (hp : 0 ≤ x.phase ∧ x.phase < 256) : (0 ≤ (eA x).2.left ∧ (eA x).2.left ≤ 3) ∧ (0 ≤ (eA x).2.phase ∧ (eA x).2.phase < 256) := by
 unfold eA
 repeat' split
 all_goals (dsimp only; constructor <;> omega)
theorem Rf {s : aC} {st : List dL} (hok : oN s st) : oN s (kE st) := by
 have hl := hok.len
 refine ⟨by simp [kE]; omega, fun x hx => ?_, fun x hx => ?_⟩
 ·obtain ⟨y, hy, rfl⟩ := List.mem_map.1 hx
  exact (Yz (hok.left y hy) (hok.phase y hy)).1
 ·obtain ⟨y, hy, rfl⟩ := List.mem_map.1 hx
  exact (Yz (hok.left y hy) (hok.phase y hy)).2
theorem aEJ {s : aC} {st : List dL} (hok : oN s st) {i : Nat} (hi : i ≤ s.domains.length) : oN s (xG st i) := by
 have hl := hok.len
 have ht := Rf hok
 refine ⟨by simp [xG, kE]; omega, fun x hx => ?_, fun x hx => ?_⟩
 ·rcases List.mem_append.1 hx with h | h
  ·exact ht.left x (List.mem_of_mem_take h)
  ·exact hok.left x (List.mem_of_mem_drop h)
 ·rcases List.mem_append.1 hx with h | h
  ·exact ht.phase x (List.mem_of_mem_take h)
  ·exact hok.phase x (List.mem_of_mem_drop h)
def wO (p : Int × Nat) : List Value := [.int .u8 p.1, .int .i64 (p.2 : Int)]
theorem aB0 (st : List dL) (n : Nat) : (gZ st n).length ≤ n := by
 unfold gZ
 exact Nat.le_trans (List.length_filterMap_le _ _) (by simp)
theorem aGO {st : List dL} {i : Nat} {x : dL} (hx : st[i]? = some x) : gZ st (i + 1) = gZ st i ++ (if (eA x).1 = 0 then [] else [((eA x).1, i)]) := by
 unfold gZ
 rw [List.range_succ, List.filterMap_append]
 simp only [List.filterMap_cons, List.filterMap_nil, hx, Option.bind_some]
 by_cases h : (eA x).1 = 0 <;> simp [h]
theorem aDW (L : GL) (s : aC) (st : List dL) (hok : oN s st) (hnd : s.domains.length ≤ 1000) (w : World) (F : Nat → Prop) (hp : (lR L s st).sat F w) (hF : ∀ b, F b → b < w.heap.size) :
  Calls Tryz.prog 84 #[.pointer (some ⟨L.t, 0, none⟩)] w (fun y w' => ∃ a : Option Addr × Nat, y = .returned (.slice a.1 (gZ st s.domains.length).length a.2) ∧ True ∧ ∃ F', (HP.many [lR L s (kE st), HP.own 166 2 (.slice a.1 (gZ st s.domains.length).length a.2) (gZ st s.domains.length).length ((gZ st s.domains.length).flatMap wO)]).sat F' w' ∧ bI w w' F F') := by
 have hl := hok.len
 refine XK.dD (p := lR L s st) (F := F) (vs := [.pointer (some ⟨L.t, 0, none⟩)]) Tryz.func84 rfl Tryz.ntmps84 (by simp) hp hF ?_
 have Ue : Rd w [⟨w, fun b => b < w.heap.size ∧ ¬ F b⟩] [lR L s st] L.t 0 (.slice L.A s.domains.length L.c) := Rd.row 0 rfl
 refine XK.go ?_
 refine XK.kN 166 2 ?_
 refine XK.aK [(13, .int .i64 0), (12, .int .i64 s.domains.length), (3, .slice none 0 0), (0, .pointer (some ⟨L.t, 0, none⟩))] ?_
 refine XK.loop (fun m e R H => ∃ (i : Nat) (A : Option Addr) (k : Nat), i ≤ s.domains.length ∧ m = s.domains.length - i ∧ e = [(13, .int .i64 i), (12, .int .i64 s.domains.length), (3, .slice A (gZ st i).length k), (0, .pointer (some ⟨L.t, 0, none⟩))] ∧ R = [⟨w, fun b => b < w.heap.size ∧ ¬ F b⟩] ∧ H = [HP.own 166 2 (.slice A (gZ st i).length k) (gZ st i).length ((gZ st i).flatMap wO), lR L s (xG st i)]) s.domains.length ⟨0, none, 0, by omega, rfl, rfl, rfl, by simp [xG, gZ]⟩ fun m e R H hI => ?_
 obtain ⟨i, A, k, hi, rfl, rfl, rfl, rfl⟩ := hI
 refine XK.go ?_
 refine XK.if_ rfl (fun hlt => ?_) (fun hge => ?_)
 ·have hlt : i < s.domains.length := by omega
  obtain ⟨c, hc⟩ := get_some hlt
  obtain ⟨x, hx⟩ := get_some (l := st) (i := i) (by omega)
  have Bz : (xG st i)[i]? = some x := by rw [xG, kE, Sr _ st (by omega)]; exact hx
  have Jm := aEJ hok hi
  obtain ⟨gY, fM⟩ := Pv Jm
  have hel := aB0 st i
  refine XK.Sf 1 rfl (by omega) fun g cs hA h1 h2 h3 h4 => ?_
  dsimp only [List.set]
  have hs := xY h2 gY fM (zW hc Bz)
  obtain ⟨hs1, pH⟩ := aCU hs (by omega)
  have hf := wM (r' := kR c (eA x).2) h2 gY fM hlt (by omega) rfl hs1 pH
  rw [Wh hc (by have := Jm.len; omega), xG, kE, Sq (fun x => (eA x).2) st hx] at hf
  refine XK.go ?_
  refine kd (dat i (i * 7)) ?_
  refine Qt 0 (fi := []) (ca := []) (p := HP.aF g 232 cs) (HP.aF g 232 (jS cs (i * 7) x)) (by kernel_rfl) rfl rfl rfl ⟨(by decide), rfl⟩ (fun w1 G t hG rT => aDX g (i * 7) cs c x hs (by omega) (hok.left x (List.mem_of_getElem? hx)) w1 G hG rT) ?_
  dsimp only [List.set]
  have xM : (jS cs (i * 7) x).length = L.c * 7 := by rw [pH.1, h1]
  refine XK.yL 1 hA xM hf h3 h4 rfl ?_
  dsimp only [List.set]
  have iF := aGO hx
  refine XK.go ?_
  refine XK.if_ rfl (fun hz => ?_) (fun hz => ?_)
  ·rw [if_neg hz] at iF
   refine XK.go ?_
   refine dB (zs := [.int .u8 0, .int .i64 0]) (L := [(0, 1), (1, 1)]) (aM (by kernel_rfl)) (by kernel_rfl) rfl (by simp [aR, aU, Value.cells]; rfl) (by decide) ?_
   refine eP (el := 166) (sz := 2) (zs := [.int .u8 0, .int .i64 0]) (by kernel_rfl) (aM (by kernel_rfl)) (by kernel_rfl) rfl (by decide) (by decide) rfl (by simp [aR, aU, Value.cells, List.range_succ, List.set]; rfl) (by decide) fun g2 => ?_
   refine fI 1 2 16 1 (el := 166) (by kernel_rfl) (by kernel_rfl) (by decide) rfl rfl rfl (kL 0 rfl rfl) (by simp [Value.oneCell']) rfl (by omega) (by omega) (by decide) fun A' k' => ?_
   dsimp only [List.set]
   refine XK.go ?_
   have e1 : (gZ st (i + 1)).length = (gZ st i).length + 1 := by rw [iF]; simp
   have e2 : (gZ st (i + 1)).flatMap wO = (gZ st i).flatMap wO ++ [.int .u8 (eA x).1, .int .i64 (i : Int)] := by rw [iF, List.flatMap_append]; rfl
   refine XK.weak [1, 2] rfl (by decide) (fun _ h => h) ?_
   refine XK.aK [(13, .int .i64 (i + 1 : Nat)), (12, .int .i64 s.domains.length), (3, .slice A' ((gZ st i).length + 1) k'), (0, .pointer (some ⟨L.t, 0, none⟩))] ?_
   exact XK.round (s.domains.length - (i + 1)) (by omega) ⟨i + 1, A', k', hlt, rfl, by rw [e1], rfl, by rw [e1, e2]; rfl⟩
  ·have hz := Classical.not_not.1 hz
   rw [if_pos hz, List.append_nil] at iF
   refine XK.go ?_
   refine XK.aK [(13, .int .i64 (i + 1 : Nat)), (12, .int .i64 s.domains.length), (3, .slice A (gZ st i).length k), (0, .pointer (some ⟨L.t, 0, none⟩))] ?_
   refine XK.round (s.domains.length - (i + 1)) (by omega) ⟨i + 1, A, k, hlt, rfl, by rw [iF], rfl, by rw [iF]; rfl⟩
 ·obtain rfl : i = s.domains.length := by omega
  have uO : xG st s.domains.length = kE st := by
   rw [xG, List.drop_eq_nil_of_le (by omega), List.append_nil, List.take_of_length_le (by simp [kE]; omega)]
  rw [uO]
  refine XK.go ?_
  refine XK.weak [1, 0] rfl (by decide) (fun _ h => h) ?_
  refine XK.pair ?_
  exact XK.aI rfl rfl fun w1 t => ⟨(A, k), rfl, trivial, t.turns hF (by simp) (i := 0) rfl⟩
end
section
set_option maxHeartbeats 4000000
set_option maxRecDepth 20000
theorem aGS (w : World) (q : Piece) : (⟨w, fun _ => False⟩ : Piece).Le q := fun _ h => h.elim
theorem aHH (i : Nat) (r : Rg) (w : World) :
  Calls Tryz.prog 217 #[.int .i64 (i : Int), .agg r.cells.toArray] w (Rt (.int .u32 r.reset) w) := by
 refine XK.enter (vs := [.int .i64 (i : Int), .agg r.cells.toArray]) Tryz.func217 rfl Tryz.ntmps217 (by simp) ?_
 refine XK.go ?_
 refine bY rfl (by decide) fun g1 => ?_
 dsimp only [Value.cells, Rg.cells]
 refine XK.go ?_
 exact XK.bU (by simp) rfl
theorem Nd (L : FL) (d : bB) (x : bK) (hrl : d.aQ.length ≤ 100) (hok : wY d x) (w : World) (F : Nat → Prop) (hp : (dM L d x).sat F w) (hF : ∀ b, F b → b < w.heap.size) :
  Calls Tryz.prog 142 #[.pointer (some ⟨L.f, 0, none⟩)] w (fun y w' => y = .returned (.tuple #[]) ∧ ∃ F', (dM L d (wR d x)).sat F' w' ∧ bI w w' F F') := by
 refine XK.dD (p := dM L d x) (F := F) (vs := [.pointer (some ⟨L.f, 0, none⟩)]) Tryz.func142 rfl Tryz.ntmps142 (by simp) hp hF ?_
 refine XK.go ?_
 refine fE 0 (dM L d ⟨d.aQ.map (·.reset), x.saved, x.kept⟩) (fun w1 G t hG rT hle => by
  have := aAd L d x hrl 217 (by kernel_rfl) [] ⟨w1, fun _ => False⟩ (d.aQ.map (·.reset)) (by simp) hok.now (fun i r v hr hv now w2 F2 _ _ _ => by
   rw [List.getElem?_map, hr] at hv
   cases hv
   exact aHH i r w2) w1 G hG rT (aGS _ _)
  exact this) ?_
 dsimp only [List.set]
 refine XK.Np 0 rfl ?_
 dsimp only [List.set, Cq]
 refine XK.go ?_
 refine XK.Pw (x := wR d x) 0 rfl ?_
 exact XK.kV (.inr rfl) rfl fun w1 t => ⟨rfl, t.turns hF (by simp) (i := 0) rfl⟩
theorem aD7 (L : FL) (d : bB) (x : bK) (g1 i : Nat) (r : Rg) (v : Int) (hr : d.aQ[i]? = some r) (hv : x.saved[i]? = some v) (w : World) (hR : wZ w L d x) (h1 : eW w g1 0 (.pointer (some ⟨L.f, 0, none⟩))) :
  Calls Tryz.prog 228 #[.int .i64 (i : Int), .agg r.cells.toArray, .pointer (some ⟨g1, 0, none⟩)] w (Rt (.int .u32 (Nb x.kept r v)) w) := by
 have hlt := (List.getElem?_eq_some_iff.1 hr).1
 have k3 := hR.r0.at_ (j := 3) rfl
 have k2 := hR.r0.at_ (j := 2) rfl
 have kv := hR.saved.at_ (Yv hv)
 rw [Nat.zero_add] at kv
 obtain ⟨rs, kp⟩ := r
 cases hk : x.kept
 ·rw [hk] at k3
  refine XK.enter (vs := [.int .i64 (i : Int), .agg (Rg.cells ⟨rs, kp⟩).toArray, .pointer (some ⟨g1, 0, none⟩)]) Tryz.func228 rfl Tryz.ntmps228 (by simp) ?_
  refine XK.go ?_
  refine bY rfl (by decide) fun g2 => ?_
  dsimp only [Value.cells, Rg.cells]
  refine XK.go ?_
  exact XK.bU (by simp) rfl
 ·rw [hk] at k3
  cases kp
  ·refine XK.enter (vs := [.int .i64 (i : Int), .agg (Rg.cells ⟨rs, false⟩).toArray, .pointer (some ⟨g1, 0, none⟩)]) Tryz.func228 rfl Tryz.ntmps228 (by simp) ?_
   refine XK.go ?_
   refine bY rfl (by decide) fun g2 => ?_
   dsimp only [Value.cells, Rg.cells]
   refine XK.go ?_
   exact XK.bU (by simp) rfl
  ·refine XK.enter (vs := [.int .i64 (i : Int), .agg (Rg.cells ⟨rs, true⟩).toArray, .pointer (some ⟨g1, 0, none⟩)]) Tryz.func228 rfl Tryz.ntmps228 (by simp) ?_
   refine XK.go ?_
   refine bY rfl (by decide) fun g2 => ?_
   dsimp only [Value.cells, Rg.cells]
   refine XK.go ?_
   refine kd (dat i i) ?_
   refine XK.go ?_
   exact XK.bU (by simp) rfl
theorem aDA (L : FL) (d : bB) (x : bK) (hrl : d.aQ.length ≤ 100) (hok : wY d x) (w : World) (F : Nat → Prop) (hp : (dM L d x).sat F w) (hF : ∀ b, F b → b < w.heap.size) :
  Calls Tryz.prog 170 #[.pointer (some ⟨L.f, 0, none⟩)] w (fun y w' => y = .returned (.tuple #[]) ∧ ∃ F', (dM L d (zA d x)).sat F' w' ∧ bI w w' F F') := by
 have pJ := hok.saved
 refine XK.dD (p := dM L d x) (F := F) (vs := [.pointer (some ⟨L.f, 0, none⟩)]) Tryz.func170 rfl Tryz.ntmps170 (by simp) hp hF ?_
 refine XK.go ?_
 refine bY rfl (by decide) fun g1 => ?_
 refine XK.go ?_
 refine iL (vf := []) (vc := [.pointer (some ⟨g1, 0, none⟩)]) rfl rfl (by decide) ?_
 refine XK.still [⟨w, fun b => b < w.heap.size ∧ ¬ F b⟩] [0] [1] (by simp) rfl (by decide) (by decide) fun q hq Vk _ => ?_
 obtain ⟨F1, s1, z1⟩ := hq 0 _ (by simp) rfl
 refine fE 0 (dM L d (zA d x)) (fun w1 G t hG rT hle => by
  have := aAd L d x hrl 228 (by kernel_rfl) [.pointer (some ⟨g1, 0, none⟩)] q (zA d x).now (by simp [zA]; omega) hok.now (fun i r v hr hv now w2 F2 a1 a2 a3 => by
   have hlt := (List.getElem?_eq_some_iff.1 hr).1
   obtain ⟨u, hu⟩ := get_some (l := x.saved) (i := i) (by omega)
   have he : v = Nb x.kept r u := by
    rw [zA, List.getElem?_zipWith, hr, hu] at hv
    cases hv; rfl
   subst he
   obtain ⟨b1, b2⟩ := a3 g1 (z1 _ s1.1)
   exact aD7 L d ⟨now, x.saved, x.kept⟩ g1 i r u hr hu w2 (dM.reads a1 a2) ⟨b1, (World.cell?_of_block (w := q.w) b2).trans (by rw [s1.2.cell]; rfl)⟩) w1 G hG rT (hle q (by simp))
  exact this) ?_
 dsimp only [List.set]
 refine XK.go ?_
 exact XK.kV (.inr rfl) rfl fun w1 t => ⟨rfl, t.turns hF (by simp) (i := 0) rfl⟩
theorem aDi (p : Piece) (L : FL) (d : bB) (x : bK) (g1 i : Nat) (r : Rg) (v u : Int) (hr : d.aQ[i]? = some r) (hv : x.now[i]? = some v) (hu : x.saved[i]? = some u) (Ow : x.saved.length = d.aQ.length)
  (h1 : p.Z g1 ∧ p.w.cell? ⟨g1, 0, none⟩ = some (.pointer (some ⟨L.f, 0, none⟩))) (w : World) (F : Nat → Prop) (hp : (dM L d x).sat F w) (hF : ∀ b, F b → b < w.heap.size) (xP : p.Le ⟨w, fun b => b < w.heap.size ∧ ¬ F b⟩) :
  Calls Tryz.prog 227 #[.int .i64 (i : Int), .agg r.cells.toArray, .pointer (some ⟨g1, 0, none⟩)] w (fun y w' => y = .returned (.tuple #[]) ∧ ∃ F', (dM L d ⟨x.now, x.saved.set i (Bf r (v, u)), x.kept⟩).sat F' w' ∧ bI w w' F F') := by
 have hlt := (List.getElem?_eq_some_iff.1 hr).1
 obtain ⟨c1, e1⟩ := xP g1 h1.1
 have k1 : w.cell? ⟨g1, 0, none⟩ = some (.pointer (some ⟨L.f, 0, none⟩)) := (World.cell?_of_block (w := p.w) e1).trans h1.2
 obtain ⟨rs, kp⟩ := r
 cases kp
 ·have hsame : x.saved.set i (Bf ⟨rs, false⟩ (v, u)) = x.saved := Zk hu
  rw [hsame]
  refine XK.dD (p := dM L d x) (F := F) (vs := [.int .i64 (i : Int), .agg (Rg.cells ⟨rs, false⟩).toArray, .pointer (some ⟨g1, 0, none⟩)]) Tryz.func227 rfl Tryz.ntmps227 (by simp) hp hF ?_
  refine XK.go ?_
  refine bY rfl (by decide) fun g2 => ?_
  dsimp only [Value.cells, Rg.cells]
  refine XK.go ?_
  exact XK.kV (.inr rfl) rfl fun w1 t => ⟨rfl, t.turns hF (by simp) (i := 1) rfl⟩
 ·refine XK.dD (p := dM L d x) (F := F) (vs := [.int .i64 (i : Int), .agg (Rg.cells ⟨rs, true⟩).toArray, .pointer (some ⟨g1, 0, none⟩)]) Tryz.func227 rfl Tryz.ntmps227 (by simp) hp hF ?_
  refine XK.go ?_
  refine bY rfl (by decide) fun g2 => ?_
  dsimp only [Value.cells, Rg.cells]
  refine XK.go ?_
  refine XK.Np 1 rfl ?_
  dsimp only [List.set, Cq]
  have hul := Rc x.now
  have pJ := Rc x.saved
  have r1 : Rd w [⟨w, fun b => b < w.heap.size ∧ ¬ F b⟩] [HP.aF L.gs 44 (jI x.saved), HP.aF L.gn 44 (jI x.now), HP.aF L.f 240 [.slice L.A d.aQ.length L.c, .slice (some ⟨L.gn, 0, none⟩) d.aQ.length d.aQ.length, .slice (some ⟨L.gs, 0, none⟩) d.aQ.length d.aQ.length, .bool x.kept], HP.aF g2 92 [.int .u32 rs, .bool true], HP.many [HP.emp, HP.emp, HP.emp, HP.dV (nN d L.A) (nN.le (d := d) (A := L.A))]] g1 0 (.pointer (some ⟨L.f, 0, none⟩)) := Rd.ro (List.mem_singleton.2 rfl) c1 k1
  have r2 : Rd w [⟨w, fun b => b < w.heap.size ∧ ¬ F b⟩] [HP.aF L.gs 44 (jI x.saved), HP.aF L.gn 44 (jI x.now), HP.aF L.f 240 [.slice L.A d.aQ.length L.c, .slice (some ⟨L.gn, 0, none⟩) d.aQ.length d.aQ.length, .slice (some ⟨L.gs, 0, none⟩) d.aQ.length d.aQ.length, .bool x.kept], HP.aF g2 92 [.int .u32 rs, .bool true], HP.many [HP.emp, HP.emp, HP.emp, HP.dV (nN d L.A) (nN.le (d := d) (A := L.A))]] L.gn i (.int .u32 v) := Rd.aF 1 rfl (Yv hv)
  refine XK.draw 12 (by kernel_rfl) (by kernel_rfl) ?_
  refine XA.q 0 ?_
  refine XA.q 1 ?_
  refine XA.q 2 ?_
  refine XA.q 3 ?_
  refine XA.q 4 ?_
  refine XA.q 5 ?_
  refine XA.q 6 ?_
  refine XA.q 7 ?_
  refine XA.q 8 ?_
  refine XA.q 9 ?_
  refine XA.q 10 ?_ (dN := dat (sz := 1) i i)
  refine XA.q 11 ?_
  refine XA.next 12 rfl (by kernel_rfl) ?_
  refine kd (dat i i) ?_
  refine XA.bt ?_
  refine XA.next 13 rfl (by kernel_rfl) ?_
  refine iE rfl rfl ?_
  dsimp only [List.set]
  rw [Yu]
  refine XA.bt ?_
  refine XA.done (by kernel_rfl) ?_
  refine XK.go ?_
  refine XK.weak [0, 1, 2, 4] rfl (by decide) (fun _ h => h) ?_
  refine XK.Pw (x := ⟨x.now, x.saved.set i v, x.kept⟩) 0 rfl ?_
  exact XK.kV (.inr rfl) rfl fun w1 t => ⟨rfl, t.turns hF (by simp) (i := 0) rfl⟩
theorem aD9 (L : FL) (d : bB) (x : bK) (hrl : d.aQ.length ≤ 100) (hok : wY d x) (w : World) (F : Nat → Prop) (hp : (dM L d x).sat F w) (hF : ∀ b, F b → b < w.heap.size) :
  Calls Tryz.prog 169 #[.pointer (some ⟨L.f, 0, none⟩)] w (fun y w' => y = .returned (.tuple #[]) ∧ ∃ F', (dM L d (qJ d x)).sat F' w' ∧ bI w w' F F') := by
 have pJ := hok.saved
 have gY := hok.now
 have hvl : (qJ d x).saved.length = d.aQ.length := by simp [qJ]; omega
 refine XK.dD (p := dM L d x) (F := F) (vs := [.pointer (some ⟨L.f, 0, none⟩)]) Tryz.func169 rfl Tryz.ntmps169 (by simp) hp hF ?_
 refine XK.go ?_
 refine bY rfl (by decide) fun g1 => ?_
 refine XK.go ?_
 refine iL (vf := []) (vc := [.pointer (some ⟨g1, 0, none⟩)]) rfl rfl (by decide) ?_
 refine XK.still [⟨w, fun b => b < w.heap.size ∧ ¬ F b⟩] [0] [1] (by simp) rfl (by decide) (by decide) fun q hq Vk _ => ?_
 obtain ⟨F1, s1, z1⟩ := hq 0 _ (by simp) rfl
 refine fE 0 (dM L d ⟨x.now, (qJ d x).saved, x.kept⟩) (fun w1 G t hG rT hle => by
  have key := aAc q (fun i => dM L d ⟨x.now, gI (qJ d x).saved x.saved i, x.kept⟩) L d hrl 227 (by kernel_rfl) [.pointer (some ⟨g1, 0, none⟩)]
   (fun i _ w F h1 h2 => ⟨_, dM.reads h1 h2⟩) (fun i r hr w2 Xq h1 h2 h3 => by
    have hlt := (List.getElem?_eq_some_iff.1 hr).1
    obtain ⟨v, hv⟩ := get_some (l := x.now) (i := i) (by omega)
    obtain ⟨u, hu⟩ := get_some (l := x.saved) (i := i) (by omega)
    have hs : (qJ d x).saved[i]? = some (Bf r (v, u)) := by
     rw [qJ, List.getElem?_zipWith, hr, (List.getElem?_zip_eq_some (z := (v, u))).2 ⟨hv, hu⟩]
    have := aDi q L d ⟨x.now, gI (qJ d x).saved x.saved i, x.kept⟩ g1 i r v u hr hv (aEH (by omega) (by omega) hu) (Ij hvl pJ (by omega))
     ⟨z1 _ s1.1, by rw [s1.2.cell]; rfl⟩ w2 Xq h1 h2 h3
    try dsimp only at this
    rw [Ii (by omega) hs] at this
    exact this) w1 G (by show (dM L d ⟨x.now, gI (qJ d x).saved x.saved 0, x.kept⟩).sat G w1; rw [Ih]; exact hG) rT (hle q (by simp))
  try dsimp only at key
  rw [Ik hvl pJ] at key
  exact key) ?_
 dsimp only [List.set]
 refine XK.Np 0 rfl ?_
 dsimp only [List.set, Cq]
 have r1 : ∀ H, Rd w [q, ⟨w, fun b => b < w.heap.size ∧ ¬ F b⟩] H g1 0 (.pointer (some ⟨L.f, 0, none⟩)) := fun H => Rd.ro (by simp : q ∈ _) (z1 _ s1.1) (by rw [s1.2.cell]; rfl)
 have r1 := r1 [HP.aF L.gs 44 (jI (qJ d x).saved), HP.aF L.gn 44 (jI x.now), HP.aF L.f 240 [.slice L.A d.aQ.length L.c, .slice (some ⟨L.gn, 0, none⟩) d.aQ.length d.aQ.length, .slice (some ⟨L.gs, 0, none⟩) d.aQ.length d.aQ.length, .bool x.kept], HP.many [HP.emp, HP.emp, HP.emp, HP.dV (nN d L.A) (nN.le (d := d) (A := L.A))]]
 refine XK.go ?_
 refine XK.Pw (x := qJ d x) 0 rfl ?_
 exact XK.kV (.inr rfl) rfl fun w1 t => ⟨rfl, t.turns hF (by simp) (i := 0) rfl⟩
end
section
set_option maxHeartbeats 4000000
set_option maxRecDepth 20000
def aCl (n : Nat) (xs : List Value) (v : Value) (hs : List HP) (_ : Piece) : Prop := ∃ A c, v = .slice A n c ∧ hs = [HP.own 118 6 (.slice A n c) n xs]
theorem aEk (A : Option Addr) (n c : Nat) (xs : List Value) (w : World) (hs : aH (all w) 6 A n xs) (h1 : ∀ u ∈ xs, u.oneCell' = true) (hn : n ≤ 1000000) :
  Calls Tryz.prog 143 #[.slice A n c] w (fun y w' => (∃ v hs q, y = .returned v ∧ q.w = w' ∧ aCl n xs v hs q ∧ kA w hs q) ∧ Below w.heap.size w w') := by
 refine XK.enter (vs := [.slice A n c]) Tryz.func143 rfl Tryz.ntmps143 (by simp) ?_
 refine XK.go ?_
 refine XK.kN 118 6 ?_
 refine fI 0 6 64 n (n' := n) (v := .slice none 0 0) (el := 118) (by kernel_rfl) (by kernel_rfl) (by decide) rfl rfl rfl (qI (by simp) hs) h1 (by omega) (by omega) (by omega) (by decide) fun A' k' => ?_
 dsimp only [List.set, List.nil_append]
 refine XK.go ?_
 refine XK.still [] [] [0] (by simp) rfl (by decide) (by decide) fun q _ _ hfr => ?_
 exact XK.aI rfl rfl fun w1 st => ⟨⟨_, _, ⟨w1, q.Z⟩, rfl, rfl, ⟨_, _, rfl, rfl⟩, st.newR (by simp) (by simp) (hfr (by simp) (by simp))⟩, st.below (by simp)⟩
def aCj (n : Nat) (xs : List Value) (v : Value) (hs : List HP) (_ : Piece) : Prop := ∃ A c, v = .slice A n c ∧ hs = [HP.own 75 3 (.slice A n c) n xs]
theorem aEi (A : Option Addr) (n c : Nat) (xs : List Value) (w : World) (hs : aH (all w) 3 A n xs) (h1 : ∀ u ∈ xs, u.oneCell' = true) (hn : n ≤ 1000000) :
  Calls Tryz.prog 144 #[.slice A n c] w (fun y w' => (∃ v hs q, y = .returned v ∧ q.w = w' ∧ aCj n xs v hs q ∧ kA w hs q) ∧ Below w.heap.size w w') := by
 refine XK.enter (vs := [.slice A n c]) Tryz.func144 rfl Tryz.ntmps144 (by simp) ?_
 refine XK.go ?_
 refine XK.kN 75 3 ?_
 refine fI 0 3 24 n (n' := n) (v := .slice none 0 0) (el := 75) (by kernel_rfl) (by kernel_rfl) (by decide) rfl rfl rfl (qI (by simp) hs) h1 (by omega) (by omega) (by omega) (by decide) fun A' k' => ?_
 dsimp only [List.set, List.nil_append]
 refine XK.go ?_
 refine XK.still [] [] [0] (by simp) rfl (by decide) (by decide) fun q _ _ hfr => ?_
 exact XK.aI rfl rfl fun w1 st => ⟨⟨_, _, ⟨w1, q.Z⟩, rfl, rfl, ⟨_, _, rfl, rfl⟩, st.newR (by simp) (by simp) (hfr (by simp) (by simp))⟩, st.below (by simp)⟩
def aCh (n : Nat) (xs : List Value) (v : Value) (hs : List HP) (_ : Piece) : Prop := ∃ A c, v = .slice A n c ∧ hs = [HP.own 120 1 (.slice A n c) n xs]
theorem aEg (A : Option Addr) (n c : Nat) (xs : List Value) (w : World) (hs : aH (all w) 1 A n xs) (h1 : ∀ u ∈ xs, u.oneCell' = true) (hn : n ≤ 1000000) :
  Calls Tryz.prog 145 #[.slice A n c] w (fun y w' => (∃ v hs q, y = .returned v ∧ q.w = w' ∧ aCh n xs v hs q ∧ kA w hs q) ∧ Below w.heap.size w w') := by
 refine XK.enter (vs := [.slice A n c]) Tryz.func145 rfl Tryz.ntmps145 (by simp) ?_
 refine XK.go ?_
 refine XK.kN 120 1 ?_
 refine fI 0 1 8 n (n' := n) (v := .slice none 0 0) (el := 120) (by kernel_rfl) (by kernel_rfl) (by decide) rfl rfl rfl (qI (by simp) hs) h1 (by omega) (by omega) (by omega) (by decide) fun A' k' => ?_
 dsimp only [List.set, List.nil_append]
 refine XK.go ?_
 refine XK.still [] [] [0] (by simp) rfl (by decide) (by decide) fun q _ _ hfr => ?_
 exact XK.aI rfl rfl fun w1 st => ⟨⟨_, _, ⟨w1, q.Z⟩, rfl, rfl, ⟨_, _, rfl, rfl⟩, st.newR (by simp) (by simp) (hfr (by simp) (by simp))⟩, st.below (by simp)⟩
def aCk (n : Nat) (xs : List Value) (v : Value) (hs : List HP) (_ : Piece) : Prop := ∃ A c, v = .slice A n c ∧ hs = [HP.own 78 6 (.slice A n c) n xs]
theorem aEj (A : Option Addr) (n c : Nat) (xs : List Value) (w : World) (hs : aH (all w) 6 A n xs) (h1 : ∀ u ∈ xs, u.oneCell' = true) (hn : n ≤ 1000000) :
  Calls Tryz.prog 146 #[.slice A n c] w (fun y w' => (∃ v hs q, y = .returned v ∧ q.w = w' ∧ aCk n xs v hs q ∧ kA w hs q) ∧ Below w.heap.size w w') := by
 refine XK.enter (vs := [.slice A n c]) Tryz.func146 rfl Tryz.ntmps146 (by simp) ?_
 refine XK.go ?_
 refine XK.kN 78 6 ?_
 refine fI 0 6 80 n (n' := n) (v := .slice none 0 0) (el := 78) (by kernel_rfl) (by kernel_rfl) (by decide) rfl rfl rfl (qI (by simp) hs) h1 (by omega) (by omega) (by omega) (by decide) fun A' k' => ?_
 dsimp only [List.set, List.nil_append]
 refine XK.go ?_
 refine XK.still [] [] [0] (by simp) rfl (by decide) (by decide) fun q _ _ hfr => ?_
 exact XK.aI rfl rfl fun w1 st => ⟨⟨_, _, ⟨w1, q.Z⟩, rfl, rfl, ⟨_, _, rfl, rfl⟩, st.newR (by simp) (by simp) (hfr (by simp) (by simp))⟩, st.below (by simp)⟩
def Xi (n : Nat) (xs : List Value) (v : Value) (hs : List HP) (_ : Piece) : Prop := ∃ A c, v = .slice A n c ∧ hs = [HP.own 3 1 (.slice A n c) n xs]
theorem aAl (A : Option Addr) (n c : Nat) (xs : List Value) (w : World) (hs : aH (all w) 1 A n xs) (h1 : ∀ u ∈ xs, u.oneCell' = true) (hn : n ≤ 1000000) :
  Calls Tryz.prog 147 #[.slice A n c] w (fun y w' => (∃ v hs q, y = .returned v ∧ q.w = w' ∧ Xi n xs v hs q ∧ kA w hs q) ∧ Below w.heap.size w w') := by
 refine XK.enter (vs := [.slice A n c]) Tryz.func147 rfl Tryz.ntmps147 (by simp) ?_
 refine XK.go ?_
 refine XK.kN 3 1 ?_
 refine fI 0 1 8 n (n' := n) (v := .slice none 0 0) (el := 3) (by kernel_rfl) (by kernel_rfl) (by decide) rfl rfl rfl (qI (by simp) hs) h1 (by omega) (by omega) (by omega) (by decide) fun A' k' => ?_
 dsimp only [List.set, List.nil_append]
 refine XK.go ?_
 refine XK.still [] [] [0] (by simp) rfl (by decide) (by decide) fun q _ _ hfr => ?_
 exact XK.aI rfl rfl fun w1 st => ⟨⟨_, _, ⟨w1, q.Z⟩, rfl, rfl, ⟨_, _, rfl, rfl⟩, st.newR (by simp) (by simp) (hfr (by simp) (by simp))⟩, st.below (by simp)⟩
def aCi (n : Nat) (xs : List Value) (v : Value) (hs : List HP) (_ : Piece) : Prop := ∃ A c, v = .slice A n c ∧ hs = [HP.own 92 2 (.slice A n c) n xs]
theorem aEh (A : Option Addr) (n c : Nat) (xs : List Value) (w : World) (hs : aH (all w) 2 A n xs) (h1 : ∀ u ∈ xs, u.oneCell' = true) (hn : n ≤ 1000000) :
  Calls Tryz.prog 148 #[.slice A n c] w (fun y w' => (∃ v hs q, y = .returned v ∧ q.w = w' ∧ aCi n xs v hs q ∧ kA w hs q) ∧ Below w.heap.size w w') := by
 refine XK.enter (vs := [.slice A n c]) Tryz.func148 rfl Tryz.ntmps148 (by simp) ?_
 refine XK.go ?_
 refine XK.kN 92 2 ?_
 refine fI 0 2 8 n (n' := n) (v := .slice none 0 0) (el := 92) (by kernel_rfl) (by kernel_rfl) (by decide) rfl rfl rfl (qI (by simp) hs) h1 (by omega) (by omega) (by omega) (by decide) fun A' k' => ?_
 dsimp only [List.set, List.nil_append]
 refine XK.go ?_
 refine XK.still [] [] [0] (by simp) rfl (by decide) (by decide) fun q _ _ hfr => ?_
 exact XK.aI rfl rfl fun w1 st => ⟨⟨_, _, ⟨w1, q.Z⟩, rfl, rfl, ⟨_, _, rfl, rfl⟩, st.newR (by simp) (by simp) (hfr (by simp) (by simp))⟩, st.below (by simp)⟩
end
section
structure yP (p : Piece) (s : aC) (A1 : Option Addr) (n1 : Nat) (A2 : Option Addr) (n2 : Nat) (A3 : Option Addr) (n3 : Nat) (A4 : Option Addr) (n4 : Nat) : Prop where
 fH : eO (dU p) (iX (dU p)) 118 6 A1 n1 s.aB
 dom : eO (dU p) tS 75 3 A2 n2 s.domains
 rL : eO (dU p) tO 120 1 A3 n3 s.aW
 dev : eO (dU p) (jQ (dU p)) 78 6 A4 n4 s.aA
section
variable {p q : Piece} {w : World} {s : aC} {A1 A2 A3 A4 : Option Addr} {n1 n2 n3 n4 : Nat}
theorem yP.le (h : yP p s A1 n1 A2 n2 A3 n3 A4 n4) (hl : p.Le q) : yP q s A1 n1 A2 n2 A3 n3 A4 n4 :=
 ⟨h.fH.mono (gE hl) (fun _ _ => iX.mono (gE hl)), h.dom.mono (gE hl) (fun _ _ h => h), h.rL.mono (gE hl) (fun _ _ h => h), h.dev.mono (gE hl) (fun _ _ => jQ.mono (gE hl))⟩
theorem yP.W (h : yP p s A1 n1 A2 n2 A3 n3 A4 n4) (hl : p.Le (all w)) (hs : s.small) : fA w s A1 n1 A2 n2 A3 n3 A4 n4 := ⟨(h.le hl).fH, (h.le hl).dom, (h.le hl).rL, (h.le hl).dev, hs⟩
theorem yP.len (h : yP p s A1 n1 A2 n2 A3 n3 A4 n4) : n1 = s.aB.length ∧ n2 = s.domains.length ∧ n3 = s.aW.length ∧ n4 = s.aA.length := by
 obtain ⟨⟨_, _, h1, _⟩, ⟨_, _, h2, _⟩, ⟨_, _, h3, _⟩, ⟨_, _, h4, _⟩⟩ := h
 exact ⟨h1, h2, h3, h4⟩
theorem mW.Q {cs : Array Value} (h : mW (dU p) s cs) : ∃ A1 n1 k1 A2 n2 k2 A3 n3 k3 A4 n4 k4, cs = #[.slice A1 n1 k1, .slice A2 n2 k2, .slice A3 n3 k3, .slice A4 n4 k4] ∧ yP p s A1 n1 A2 n2 A3 n3 A4 n4 := by
 obtain ⟨A1, n1, k1, A2, n2, k2, A3, n3, k3, A4, n4, k4, h0, h1, h2, h3, h4⟩ := h
 exact ⟨A1, n1, k1, A2, n2, k2, A3, n3, k3, A4, n4, k4, h0, h1, h2, h3, h4⟩
end
theorem eO.Hv {α : Type} {p : Piece} {R : α → List Value → Prop} {t : TypeId} {sz n : Nat} {A : Option Addr} {es : List α} (h : eO (dU p) R t sz A n es) {k : Nat} {e : α} (hk : es[k]? = some e) :
  ∃ b off r, A = some ⟨b, off, none⟩ ∧ p.Z b ∧ r.length = sz ∧ R e r ∧ ∀ f u, r[f]? = some u → p.w.cell? ⟨b, off + k * sz + f, none⟩ = some u := by
 obtain ⟨rows, h1, h2, h3⟩ := h
 have hlt : k < n := by
  rw [h2]
  rcases Nat.lt_or_ge k es.length with h | h
  ·exact h
  ·rw [List.getElem?_eq_none h] at hk; cases hk
 obtain ⟨b, off, hA, hb, hc⟩ := aH.at_ h3 hlt
 obtain ⟨r, h4, h5, h6⟩ := h1.get hk
 refine ⟨b, off, r, hA, hb, h4, h5, fun f u hu => hc f u ?_⟩
 have hf : f < sz := by
  rw [← h4]
  rcases Nat.lt_or_ge f r.length with h | h
  ·exact h
  ·rw [List.getElem?_eq_none h] at hu; cases hu
 rw [h6 f hf, hu]
end
section
theorem XK.wS {N : cN} {w0 : World} {e : Env} {R : List Piece} {H : List HP} {K : Act → World → Prop} {p : HP} (hp : ∀ w, p.sat (fun _ => False) w) (h : XK N w0 K e R (p :: H)) : XK N w0 K e R H := fun a w hr st =>
 h a w hr (st.new (w' := w) (Below.refl _ _) (by
  rw [show (fresh w w).Z = fun _ => False from by funext b; simp only [fresh, eq_iff_iff, iff_false]; omega]
  exact hp w))
abbrev AC := Option Addr × Nat
def tJ (c : dG) (a : AC) : List Value := [.int .u8 c.kind, .slice a.1 c.src.length a.2, .int .u64 c.rate, .int .i64 c.mul, .int .i64 c.div, .int .i64 c.lock]
def tG (d : bB) (p : AC × AC) : List Value := [.int .i64 d.clock, .int .i64 d.domain, .int .i64 d.reset, .int .u32 d.eS, .slice p.1.1 d.aQ.length p.1.2, .slice p.2.1 d.iO.length p.2.2]
def Fp (s : aC) (fa : List AC) : List (List Value) := List.zipWith tJ s.aB fa
def Fl (s : aC) (da : List (AC × AC)) : List (List Value) := List.zipWith tG s.aA da
section
variable {α β : Type} {f : α → β → List Value} {sz : Nat}
theorem Mh {es : List α} {bs : List β} (hl : bs.length = es.length) (hf : ∀ e a, (f e a).length = sz) : (List.zipWith f es bs).length = es.length ∧ ∀ r ∈ List.zipWith f es bs, r.length = sz := by
 refine ⟨by simp; omega, fun r hr => ?_⟩
 obtain ⟨j, hj⟩ := List.getElem?_of_mem hr
 rw [List.getElem?_zipWith] at hj
 split at hj <;> cases hj
 exact hf _ _
theorem Gg {es : List α} {bs : List β} {i : Nat} {e : α} {a : β} (he : es[i]? = some e) (ha : bs[i]? = some a) : (List.zipWith f es bs)[i]? = some (f e a) := by rw [List.getElem?_zipWith, he, ha]
theorem Xx {es : List α} {bs : List β} {i : Nat} {e : α} {a : β} (he : es[i]? = some e) (hi : i < bs.length) : (List.zipWith f es bs).set i (f e a) = List.zipWith f es (bs.set i a) := by
 refine List.ext_getElem? fun j => ?_
 rw [List.getElem?_set]
 by_cases hj : i = j
 ·subst hj
  have h1 := (List.getElem?_eq_some_iff.1 he).1
  rw [if_pos rfl, Gg he (List.getElem?_set_self hi), if_pos (by simp; omega)]
 ·rw [if_neg hj, List.getElem?_zipWith, List.getElem?_zipWith, List.getElem?_set_ne hj]
theorem Xy {es : List α} {bs : List β} (hf : ∀ e a, ∀ u ∈ f e a, u.oneCell' = true) : ∀ u ∈ (List.zipWith f es bs).flatten, u.oneCell' = true := fun u hu => by
 obtain ⟨r, hr, hu⟩ := List.mem_flatten.1 hu
 obtain ⟨j, hj⟩ := List.getElem?_of_mem hr
 rw [List.getElem?_zipWith] at hj
 split at hj <;> cases hj
 exact hf _ _ u hu
end
theorem aHF (c : dG) (a : AC) : ∀ u ∈ tJ c a, u.oneCell' = true := by simp [tJ, Value.oneCell']
theorem aHv (d : bB) (p : AC × AC) : ∀ u ∈ tG d p, u.oneCell' = true := by simp [tG, Value.oneCell']
theorem Ws {S : oJ} : ∀ {cl : List dG} {rs : List (List Value)}, Rows (iX S) 6 cl rs → ∃ fa : List AC, fa.length = cl.length ∧ rs = List.zipWith tJ cl fa ∧ ∀ (i : Nat) (c : dG) (a : AC), cl[i]? = some c → fa[i]? = some a → S 3 1 a.1 c.src.length (aO c.src)
 | [], [], _ => ⟨[], rfl, rfl, fun i c a h => by simp at h⟩
 | e :: es, r :: rs, h => by
  obtain ⟨_, ⟨A, n, k, hr, hn, hS⟩, h3⟩ := h
  obtain ⟨fa, h4, h5, h6⟩ := Ws h3
  subst hn
  refine ⟨(A, k) :: fa, by simp [h4], by rw [hr, h5]; rfl, fun i c a hc ha => ?_⟩
  cases i with
  | zero => simp at hc ha; subst hc; subst ha; exact hS
  | succ i => exact h6 i c a (by simpa using hc) (by simpa using ha)
theorem Zy {S : oJ} : ∀ {cl : List dG} {fa : List AC}, fa.length = cl.length → (∀ (i : Nat) (c : dG) (a : AC), cl[i]? = some c → fa[i]? = some a → S 3 1 a.1 c.src.length (aO c.src)) → Rows (iX S) 6 cl (List.zipWith tJ cl fa)
 | [], [], _, _ => trivial
 | c :: cl, a :: fa, hl, h => ⟨rfl, ⟨a.1, _, a.2, rfl, rfl, h 0 c a rfl rfl⟩, Zy (by simpa using hl) fun i c' a' hc ha => h (i + 1) c' a' (by simpa using hc) (by simpa using ha)⟩
theorem Wl {S : oJ} : ∀ {cl : List bB} {rs : List (List Value)}, Rows (jQ S) 6 cl rs → ∃ da : List (AC × AC), da.length = cl.length ∧ rs = List.zipWith tG cl da ∧ ∀ (i : Nat) (d : bB) (p : AC × AC), cl[i]? = some d → da[i]? = some p → S 92 2 p.1.1 d.aQ.length (d.aQ.flatMap Rg.cells) ∧ S 3 1 p.2.1 d.iO.length (aO d.iO)
 | [], [], _ => ⟨[], rfl, rfl, fun i c a h => by simp at h⟩
 | e :: es, r :: rs, h => by
  obtain ⟨_, ⟨A, n, k, A', n', k', hr, hn, hn', hS, hS'⟩, h3⟩ := h
  obtain ⟨da, h4, h5, h6⟩ := Wl h3
  subst hn; subst hn'
  refine ⟨((A, k), (A', k')) :: da, by simp [h4], by rw [hr, h5]; rfl, fun i d p hc ha => ?_⟩
  cases i with
  | zero => simp at hc ha; subst hc; subst ha; exact ⟨hS, hS'⟩
  | succ i => exact h6 i d p (by simpa using hc) (by simpa using ha)
theorem Zx {S : oJ} : ∀ {cl : List bB} {da : List (AC × AC)}, da.length = cl.length → (∀ (i : Nat) (d : bB) (p : AC × AC), cl[i]? = some d → da[i]? = some p → S 92 2 p.1.1 d.aQ.length (d.aQ.flatMap Rg.cells) ∧ S 3 1 p.2.1 d.iO.length (aO d.iO)) → Rows (jQ S) 6 cl (List.zipWith tG cl da)
 | [], [], _, _ => trivial
 | c :: cl, a :: da, hl, h => ⟨rfl, ⟨a.1.1, _, a.1.2, a.2.1, _, a.2.2, rfl, rfl, rfl, (h 0 c a rfl rfl).1, (h 0 c a rfl rfl).2⟩, Zx (by simpa using hl) fun i c' a' hc ha => h (i + 1) c' a' (by simpa using hc) (by simpa using ha)⟩
theorem aHi {es : List Dom} {rs : List (List Value)} (h : Rows tS 3 es rs) : ∀ u ∈ rs.flatten, u.oneCell' = true := fun u hu => by
 obtain ⟨r, hr, hu⟩ := List.mem_flatten.1 hu
 obtain ⟨j, hj⟩ := List.getElem?_of_mem hr
 obtain ⟨e, _, _, hR⟩ := h.at_ hj
 unfold tS at hR
 subst hR
 simp only [List.mem_cons, List.not_mem_nil, or_false] at hu
 rcases hu with rfl | rfl | rfl <;> rfl
theorem aDx {es : List Int} {rs : List (List Value)} (h : Rows tO 1 es rs) : ∀ u ∈ rs.flatten, u.oneCell' = true := fun u hu => by
 obtain ⟨r, hr, hu⟩ := List.mem_flatten.1 hu
 obtain ⟨j, hj⟩ := List.getElem?_of_mem hr
 obtain ⟨e, _, _, hR⟩ := h.at_ hj
 unfold tO at hR
 subst hR
 simp only [List.mem_cons, List.not_mem_nil, or_false] at hu
 subst hu
 rfl
def sI (s : aC) (fa : List AC) (i : Nat) (p : Piece) : Prop := ∀ (j : Nat) (c : dG) (a : AC), j < i → s.aB[j]? = some c → fa[j]? = some a → aH p 1 a.1 c.src.length (aO c.src)
theorem sI.le {s : aC} {fa : List AC} {i : Nat} (p q : Piece) (hl : p.Le q) (h : sI s fa i p) : sI s fa i q := fun j c a hj hc ha => (h j c a hj hc ha).le hl
def vP (s : aC) (da : List (AC × AC)) (i : Nat) (p : Piece) : Prop := ∀ (j : Nat) (d : bB) (a : AC × AC), j < i → s.aA[j]? = some d → da[j]? = some a → aH p 2 a.1.1 d.aQ.length (d.aQ.flatMap Rg.cells) ∧ aH p 1 a.2.1 d.iO.length (aO d.iO)
theorem vP.le {s : aC} {da : List (AC × AC)} {i : Nat} (p q : Piece) (hl : p.Le q) (h : vP s da i p) : vP s da i q := fun j c a hj hc ha => ⟨(h j c a hj hc ha).1.le hl, (h j c a hj hc ha).2.le hl⟩
end
section
section
variable {P : Program} {ops : Array Oper} {Q : Exit → Act → World → Prop} {S : World → Prop} {Z : List Nat}
def Ba (ops : Array Oper) (Z : List Nat) (j : Nat) : Bool := match ops[j]? with
 | some o => Z.all fun z => (Lm ops ops.size (Nh o)).testBit z
 | none => true
def Nv (ops : Array Oper) (j : Nat) : Bool := match ops[j]? with
 | some o => (match o.op with
  | .move _ => true
  | _ => false)
 | none => false
def yX (P : Program) (ops : Array Oper) (Q : Exit → Act → World → Prop) (S : World → Prop) (Z : List Nat) : Nat → Array Bool → Act → World → Prop
 | 0, listed, a, w => Region.ready .any ops listed = [] ∧ Q .normal a w
 | fuel + 1, listed, a, w => (Region.ready .any ops listed = [] → Q .normal a w) ∧
  ∀ i ∈ Region.ready .any ops listed, wpOp P ops Q i (fun a' w' => (Ba ops Z i = false → (S w ∨ Nv ops i = false) → S w') ∧ yX P ops Q S Z fuel (listed.setIfInBounds i true) a' w') a w
theorem Yl : ∀ (fuel : Nat) (listed : Array Bool) (a : Act) (w : World), yX P ops Q S Z fuel listed a w → wpAny P .any ops Q fuel listed a w
 | 0, _, _, _, h => h
 | fuel + 1, _, _, _, h => ⟨h.1, fun i hi => wpOp_mono (fun a' w' h' => Yl fuel _ a' w' h'.2) (h.2 i hi)⟩
theorem Ym {i : Nat} {oi : Oper} {v : Value} (hi : ops[i]? = some oi) (hsel : ∀ (j : Nat) (o : Oper) cs b, ops[j]? = some o → o.op ≠ .select cs b)
  (hQ : ∀ c a w, Q (.panic c) (a.put oi.dst v) w → Q (.panic c) a w) (uN : i ∈ Z) :
  ∀ (fuel : Nat) (listed : Array Bool) (a : Act) (w : World), Down ops listed →
   (∀ j oj, ops[j]? = some oj → j ≠ i → listed.getD j true = false → (∀ e ∈ oj.after, Region.binds .any e = true → e.on ≠ i) → oi.apart ops oj = true) →
   i ∈ Region.ready .any ops listed → YieldsIf P ops S oi v a → S w →
   yX P ops Q S Z fuel (listed.setIfInBounds i true) (a.put oi.dst v) w → yX P ops Q S Z (fuel + 1) listed a w := by
 intro fuel
 induction fuel with
 | zero =>
  intro listed a w hdn _ hr hy hS H
  refine ⟨fun h => (by rw [h] at hr; cases hr), fun j hj => ?_⟩
  by_cases hji : j = i
  ·subst hji; exact hy.wpOp hi hS ⟨fun _ _ => hS, H⟩
  ·have := ready_mono hj hji
   rw [H.1] at this
   cases this
 | succ fuel ih =>
  intro listed a w hdn hfree hr hy hS H
  refine ⟨fun h => (by rw [h] at hr; cases hr), fun j hj => ?_⟩
  by_cases hji : j = i
  ·subst hji; exact hy.wpOp hi hS ⟨fun _ _ => hS, H⟩
  ·have h1 := H.2 j (ready_mono hj hji)
   obtain ⟨zK, oj, pK, hall⟩ := mem_ready.1 hj
   have hun : ∀ k, k ∈ Region.ready .any ops listed → listed.getD k false = true → False := fun k hk h => by
    have h0 := (mem_ready.1 hk).1
    rcases Nat.lt_or_ge k listed.size with h' | h'
    ·simp [h'] at h0 h; rw [h0] at h; cases h
    ·simp [Array.getElem?_eq_none h'] at h
   have Oy : Ba ops Z j = false := by
    cases hw : Ba ops Z j with
    | false => rfl
    | true =>
     exfalso
     unfold Ba at hw
     rw [pK] at hw
     exact hun i hr (Wr hdn ops.size _ (Sc (P := fun k => listed.getD k false = true) fun x hx hb => hall x hx hb) i (List.all_eq_true.1 hw i uN))
   have hnot : ∀ e ∈ oj.after, Region.binds .any e = true → e.on ≠ i := fun e he hb heq => hun i hr (heq ▸ hall e he hb)
   have h2 := wpOp_putIf pK (hfree j oj pK hji zK hnot) (fun cs b => hsel i oi cs b hi) (fun cs b => hsel j oj cs b pK) hQ hy h1
   have Ju : ∀ k ok, ops[k]? = some ok → k ≠ i → (listed.setIfInBounds j true).getD k true = false →
     (∀ e ∈ ok.after, Region.binds .any e = true → e.on ≠ i) → oi.apart ops ok = true := fun k ok hk hki hun hno => by
    refine hfree k ok hk hki ?_ hno
    by_cases jC : j = k
    ·subst jC; exact zK
    ·rw [getD_set_ne true jC] at hun; exact hun
   refine wpOp_mono (fun a' w' h3 => ⟨h3.2.1, ih (listed.setIfInBounds j true) a' w' (hdn.gH hj) Ju (ready_mono hr (Ne.symm hji)) h3.1 (h3.2.1 Oy (.inl hS)) ?_⟩) h2
   rw [Array.setIfInBounds_comm _ _ hji]
   exact h3.2.2
theorem aCE {i : Nat} {oi : Oper} {v : Value} (hi : ops[i]? = some oi) (uN : Nv ops i = true) (hsel : ∀ (j : Nat) (o : Oper) cs b, ops[j]? = some o → o.op ≠ .select cs b)
  (hQ : ∀ c a w, Q (.panic c) (a.put oi.dst v) w → Q (.panic c) a w) :
  ∀ (fuel : Nat) (listed : Array Bool) (a : Act) (w : World), Down ops listed →
   (∀ j oj, ops[j]? = some oj → j ≠ i → listed.getD j true = false → (∀ e ∈ oj.after, Region.binds .any e = true → e.on ≠ i) → oi.apart ops oj = true) →
   i ∈ Region.ready .any ops listed → YieldsIf P ops (fun _ => True) oi v a →
   yX P ops Q S Z fuel (listed.setIfInBounds i true) (a.put oi.dst v) w → yX P ops Q S Z (fuel + 1) listed a w := by
 intro fuel
 induction fuel with
 | zero =>
  intro listed a w hdn _ hr hy H
  refine ⟨fun h => (by rw [h] at hr; cases hr), fun j hj => ?_⟩
  by_cases hji : j = i
  ·subst hji; exact hy.wpOp hi trivial ⟨fun _ hw => hw.resolve_right (by rw [uN]; decide), H⟩
  ·have := ready_mono hj hji
   rw [H.1] at this
   cases this
 | succ fuel ih =>
  intro listed a w hdn hfree hr hy H
  refine ⟨fun h => (by rw [h] at hr; cases hr), fun j hj => ?_⟩
  by_cases hji : j = i
  ·subst hji; exact hy.wpOp hi trivial ⟨fun _ hw => hw.resolve_right (by rw [uN]; decide), H⟩
  ·have h1 := H.2 j (ready_mono hj hji)
   obtain ⟨zK, oj, pK, hall⟩ := mem_ready.1 hj
   have hun : ∀ k, k ∈ Region.ready .any ops listed → listed.getD k false = true → False := fun k hk h => by
    have h0 := (mem_ready.1 hk).1
    rcases Nat.lt_or_ge k listed.size with h' | h'
    ·simp [h'] at h0 h; rw [h0] at h; cases h
    ·simp [Array.getElem?_eq_none h'] at h
   have hnot : ∀ e ∈ oj.after, Region.binds .any e = true → e.on ≠ i := fun e he hb heq => hun i hr (heq ▸ hall e he hb)
   have h2 := wpOp_putIf pK (hfree j oj pK hji zK hnot) (fun cs b => hsel i oi cs b hi) (fun cs b => hsel j oj cs b pK) hQ hy h1
   have Ju : ∀ k ok, ops[k]? = some ok → k ≠ i → (listed.setIfInBounds j true).getD k true = false →
     (∀ e ∈ ok.after, Region.binds .any e = true → e.on ≠ i) → oi.apart ops ok = true := fun k ok hk hki hun hno => by
    refine hfree k ok hk hki ?_ hno
    by_cases jC : j = k
    ·subst jC; exact zK
    ·rw [getD_set_ne true jC] at hun; exact hun
   refine wpOp_mono (fun a' w' h3 => ⟨h3.2.1, ih (listed.setIfInBounds j true) a' w' (hdn.gH hj) Ju (ready_mono hr (Ne.symm hji)) h3.1 ?_⟩) h2
   rw [Array.setIfInBounds_comm _ _ hji]
   exact h3.2.2
end
section
variable {P : Program} {N : cN} {w0 : World} {e e' : Env} {R R' R0 : List Piece} {H H' H0 : List HP} {Q : Exit → Act → World → Prop} {ops : Array Oper} {Z : List Nat} {fuel : Nat} {listed : Array Bool}
structure Ly (ops : Array Oper) (listed : Array Bool) : Prop where
 down : Down ops listed
 xB : Region.noSelect ops = true
theorem Ly.gH {i : Nat} (h : Ly ops listed) (hi : i ∈ Region.ready .any ops listed) : Ly ops (listed.setIfInBounds i true) := ⟨h.down.gH hi, h.xB⟩
def XB (P : Program) (N : cN) (w0 : World) (ops : Array Oper) (Q : Exit → Act → World → Prop) (R0 : List Piece) (H0 : List HP) (Z : List Nat) (fuel : Nat) (listed : Array Bool) (e : Env) (R : List Piece) (H : List HP) : Prop :=
 Ly ops listed → XK N w0 (yX P ops Q (St w0 R0 H0) Z fuel listed) e R H
def Db (P : Program) (w0 : World) (ops : Array Oper) (Q : Exit → Act → World → Prop) (R0 : List Piece) (H0 : List HP) (Z : List Nat) (fuel : Nat) (listed : Array Bool) (i : Nat) : Act → World → Prop :=
 fun a' w' => (Ba ops Z i = false → St w0 R0 H0 w') ∧ (Ly ops (listed.setIfInBounds i true) → yX P ops Q (St w0 R0 H0) Z fuel (listed.setIfInBounds i true) a' w')
theorem XK.eR (Z : List Nat) {id : Nat} {l : List Oper} (h : XB P N w0 l.toArray Q R H Z l.length (Array.replicate l.length false) e R H) (hm : P.follows .mixedOrders = true := by kernel_rfl) (hc : Region.noSelect l.toArray = true := by kernel_rfl) : XK N w0 ((Code.region id l.toArray true).wp P Q) e R H := fun a w hr st => by
 have := h ⟨Down.start _ _, hc⟩ a w.drew hr st.drew
 refine wp_region_any hm (Yl (S := St w0 R H) (Z := Z) _ _ _ _ ?_)
 simpa using this
theorem XB.eH (i : Nat) {oi : Oper} {v : Value} {d : Nat} (hi : ops[i]? = some oi) (uQ : oi.dst = some d) (hg : oi.guard = none) (hd : d < N.n) (dN : bH P N w0 e R0 H0 oi v)
  (hc : (Region.free .any ops listed i && (Region.ready .any ops listed).contains i && Z.contains i) = true) (hQ : ∀ c a w, Q (.panic c) (a.put oi.dst v) w → Q (.panic c) a w)
  (hsub : ∀ w, St w0 R H w → St w0 R0 H0 w)
  (k : XB P N w0 ops Q R0 H0 Z fuel (listed.setIfInBounds i true) ((d, v) :: e) R H) : XB P N w0 ops Q R0 H0 Z (fuel + 1) listed e R H := by
 simp only [Bool.and_eq_true] at hc
 obtain ⟨⟨h2, h3⟩, h5⟩ := hc
 intro up a w hr st
 have hp := k (up.gH (by simpa using h3)) (a.put oi.dst v) w (by rw [uQ]; exact hr.put hd v) st
 refine Ym hi (Region.noSelect_spec up.xB) hQ (by simpa using h5) fuel listed a w up.down (Region.free_spec hi h2) (by simpa using h3) (.inl ⟨by simp [Region.wanted, hg], fun w' hw' => ?_⟩) (hsub w st) hp
 exact dN a w' hr hw'
theorem XB.pure (i : Nat) (hmv : Nv ops i = true) {oi : Oper} {v : Value} {d : Nat} (hi : ops[i]? = some oi) (uQ : oi.dst = some d) (hg : oi.guard = none) (hd : d < N.n) (dN : ∀ a w, cY N e a → (execOp a.eval oi).run P w = .ok (.value v) w)
  (hc : (Region.free .any ops listed i && (Region.ready .any ops listed).contains i) = true) (hQ : ∀ c a w, Q (.panic c) (a.put oi.dst v) w → Q (.panic c) a w)
  (k : XB P N w0 ops Q R0 H0 Z fuel (listed.setIfInBounds i true) ((d, v) :: e) R H) : XB P N w0 ops Q R0 H0 Z (fuel + 1) listed e R H := by
 simp only [Bool.and_eq_true] at hc
 obtain ⟨h2, h3⟩ := hc
 intro up a w hr st
 have hp := k (up.gH (by simpa using h3)) (a.put oi.dst v) w (by rw [uQ]; exact hr.put hd v) st
 refine aCE hi hmv (Region.noSelect_spec up.xB) hQ fuel listed a w up.down (Region.free_spec hi h2) (by simpa using h3) (.inl ⟨by simp [Region.wanted, hg], fun w' _ => ?_⟩) hp
 exact dN a w' hr
theorem XB.next (i : Nat) {oi : Oper} (hi : ops[i]? = some oi) (hr : Region.ready .any ops listed = [i]) (k : XK N w0 (wpList P ops (Exit.then (Db P w0 ops Q R0 H0 Z fuel listed i) Q) [oi]) e R H) : XB P N w0 ops Q R0 H0 Z (fuel + 1) listed e R H := by
 intro up a w bM st
 refine ⟨fun h => (by rw [hr] at h; cases h), fun j hj => ?_⟩
 rw [hr] at hj
 simp at hj
 subst hj
 exact vQ hi (fun a w h => ⟨fun hw _ => h.1 hw, h.2 (up.gH (by rw [hr]; simp))⟩) (k a w bM st)
theorem XB.either (i j : Nat) {oi oj : Oper} (hi : ops[i]? = some oi) (hj : ops[j]? = some oj) (hr : Region.ready .any ops listed = [i, j])
  (k1 : XK N w0 (wpList P ops (Exit.then (Db P w0 ops Q R0 H0 Z fuel listed i) Q) [oi]) e R H) (k2 : XK N w0 (wpList P ops (Exit.then (Db P w0 ops Q R0 H0 Z fuel listed j) Q) [oj]) e R H) : XB P N w0 ops Q R0 H0 Z (fuel + 1) listed e R H := by
 intro up a w bM st
 refine ⟨fun h => (by rw [hr] at h; cases h), fun q hq => ?_⟩
 have mE := hq
 rw [hr] at hq
 simp at hq
 rcases hq with rfl | rfl
 ·exact vQ hi (fun a w h => ⟨fun hw _ => h.1 hw, h.2 (up.gH mE)⟩) (k1 a w bM st)
 ·exact vQ hj (fun a w h => ⟨fun hw _ => h.1 hw, h.2 (up.gH mE)⟩) (k2 a w bM st)
theorem XB.back {i : Nat} (hS : ∀ w, St w0 R H w → St w0 R0 H0 w) (h : XB P N w0 ops Q R0 H0 Z fuel (listed.setIfInBounds i true) e R H) : XK N w0 (Db P w0 ops Q R0 H0 Z fuel listed i) e R H := fun a w hr st => ⟨fun _ => hS w st, fun up => h up a w hr st⟩
theorem XB.done (hr : Region.ready .any ops listed = []) (h : XK N w0 (Q .normal) e R H) : XB P N w0 ops Q R0 H0 Z fuel listed e R H := by
 intro up a w bM st
 cases fuel with
 | zero => exact ⟨hr, h a w bM st⟩
 | succ fuel => exact ⟨fun _ => h a w bM st, by rw [hr]; simp⟩
theorem XB.Wy {i : Nat} (h : XB P N w0 ops Q R0 H0 Z fuel (listed.setIfInBounds i true) e R H) (hl : Ba ops Z i = true := by kernel_rfl) : XK N w0 (Db P w0 ops Q R0 H0 Z fuel listed i) e R H := fun a w hr st => ⟨(fun h2 => by rw [hl] at h2; cases h2), fun up => h up a w hr st⟩
theorem XB.bt {i : Nat} (h : XB P N w0 ops Q R0 H0 Z fuel (listed.setIfInBounds i true) e R H) (hl : Ba ops Z i = true := by kernel_rfl) : XK N w0 (wpList P ops (Exit.then (Db P w0 ops Q R0 H0 Z fuel listed i) Q) []) e R H := XK.nil (XK.iU (XB.Wy h hl))
theorem XB.bk {i : Nat} (h : XB P N w0 ops Q R0 H0 Z fuel (listed.setIfInBounds i true) e R H) (hS : ∀ w, St w0 R H w → St w0 R0 H0 w := by first | exact fun _ h => h | exact fun _ h => h.tail | exact fun _ h => h.aN | exact fun _ h => h.tail.tail | exact fun _ h => h.aN.tail | exact fun _ h => h.aN.aN | exact fun _ h => h.aN.tail.tail | exact fun _ h => h.tail.tail.tail | exact fun _ h => h.aN.tail.aN.tail) : XK N w0 (wpList P ops (Exit.then (Db P w0 ops Q R0 H0 Z fuel listed i) Q) []) e R H := XK.nil (XK.iU (XB.back hS h))
end
section
variable {N : cN} {w0 : World} {e : Env} {R R0 : List Piece} {H H0 : List HP} {Q : Exit → Act → World → Prop} {ops : Array Oper} {Z : List Nat} {fuel : Nat} {listed : Array Bool}
variable {d : Nat} {ty : TypeId} {pos : String} {aJ : Array Edge} {op : Op} {v : Value}
theorem XB.q (i : Nat) (k : XB Tryz.prog N w0 ops Q R0 H0 Z fuel (listed.setIfInBounds i true) ((d, v) :: e) R H) (hi : ops[i]? = some ⟨some d, op, ty, pos, aJ, none⟩ := by rfl) (dN : bH Tryz.prog N w0 e R0 H0 ⟨some d, op, ty, pos, aJ, none⟩ v := by
  first
  | ((with_reducible apply Gx); exact cI rfl)
  | ((with_reducible apply Hi); exact yE rfl)
  | ((with_reducible apply Gy); (first | exact bR rfl | exact pR rfl | exact Ld rfl))
  | ((with_reducible apply He); exact Lh rfl)
  | ((with_reducible apply Gw); exact Kz rfl)
  | ((with_reducible apply Gv); (first | exact yB rfl rfl | exact yC rfl rfl))
  | ((with_reducible apply Hh); (first | exact La rfl rfl | exact Lc rfl rfl | exact Lf rfl rfl | exact Lg rfl rfl | exact zX rfl rfl | exact Cv rfl rfl | exact lN rfl rfl (bA (by omega)) | exact Fi rfl rfl (bA (by omega)) | exact Kw rfl | exact Kv rfl | exact Fj rfl))
  | ((with_reducible apply Gu); (first | exact Kx rfl | exact Ky rfl))
  | ((with_reducible apply Gz); exact Lb rfl)
  | ((with_reducible apply Hg); exact vI rfl rfl)
  | ((with_reducible apply Hf); exact Li rfl rfl)) (hd : d < N.n := by decide)
  (hc : (Region.free .any ops listed i && (Region.ready .any ops listed).contains i && Z.contains i) = true := by kernel_rfl) (hQ : ∀ c a w, Q (.panic c) (a.put (some d) v) w → Q (.panic c) a w := by exact fun _ _ _ h => h)
  (hsub : ∀ w, St w0 R H w → St w0 R0 H0 w := by first | exact fun _ h => h | exact fun _ h => h.tail | exact fun _ h => h.aN | exact fun _ h => h.tail.tail | exact fun _ h => h.aN.tail | exact fun _ h => h.aN.aN) : XB Tryz.prog N w0 ops Q R0 H0 Z (fuel + 1) listed e R H := XB.eH i hi rfl rfl hd dN hc hQ hsub k
theorem XB.mv (i : Nat) {y : Operand} (k : XB Tryz.prog N w0 ops Q R0 H0 Z fuel (listed.setIfInBounds i true) ((d, v) :: e) R H) (hi : ops[i]? = some ⟨some d, .move y, ty, pos, aJ, none⟩ := by rfl) (hx : e.ev y = some v := by rfl) (hd : d < N.n := by decide)
  (hc : (Region.free .any ops listed i && (Region.ready .any ops listed).contains i) = true := by kernel_rfl) (hQ : ∀ c a w, Q (.panic c) (a.put (some d) v) w → Q (.panic c) a w := by exact fun _ _ _ h => h)
  (hsub : ∀ w, St w0 R H w → St w0 R0 H0 w := by first | exact fun _ h => h | exact fun _ h => h.tail | exact fun _ h => h.aN | exact fun _ h => h.tail.tail | exact fun _ h => h.aN.tail | exact fun _ h => h.aN.aN | exact fun _ h => h.aN.tail.tail | exact fun _ h => h.tail.tail.tail | exact fun _ h => h.aN.tail.aN.tail) : XB Tryz.prog N w0 ops Q R0 H0 Z (fuel + 1) listed e R H := XB.pure i (by simp [Nv, hi]) hi rfl rfl hd (fun a w hr => by simp [execOp, hr.ev hx]) hc hQ k
end
end
section
set_option maxHeartbeats 4000000
set_option maxRecDepth 20000
theorem Du {l : List Rg} : ∀ u ∈ l.flatMap Rg.cells, u.oneCell' = true := fun u hu => by
 obtain ⟨r, _, hu⟩ := List.mem_flatMap.1 hu
 simp only [Rg.cells, List.mem_cons, List.not_mem_nil, or_false] at hu
 rcases hu with rfl | rfl <;> rfl
def Xs (s : aC) (v : Value) (w w' : World) : Prop := ∃ cs, v = .agg cs ∧ mW (dU (fresh w w')) s cs
theorem aBD (s : aC) (A1 A2 A3 A4 : Option Addr) (n1 k1 n2 k2 n3 k3 n4 k4 : Nat) (w : World) (hW : fA w s A1 n1 A2 n2 A3 n3 A4 n4) (Jd : ∀ d ∈ s.aA, d.aQ.length ≤ 1000000) :
  Calls Tryz.prog 67 #[.agg #[.slice A1 n1 k1, .slice A2 n2 k2, .slice A3 n3 k3, .slice A4 n4 k4]] w (fun y w' => (∃ v, y = .returned v ∧ Xs s v w w') ∧ Below w.heap.size w w') := by
 obtain ⟨rc, hrc, rS, hsc⟩ := hW.fH
 obtain ⟨rd, hrd, hn2, Tv⟩ := hW.dom
 obtain ⟨rr, cJ, qU, hst⟩ := hW.rL
 obtain ⟨rv, Tx, qS, Bp⟩ := hW.dev
 obtain ⟨zU, aFE, rfl, aFF⟩ := Ws hrc
 obtain ⟨yJ, aFH, rfl, aFI⟩ := Wl Tx
 obtain ⟨sm1, sm2, sm3, sm4, sm5, sm6⟩ := hW.small
 subst rS; subst hn2; subst qU; subst qS
 have ho1 := Xy (es := s.aB) (bs := zU) aHF
 have ho4 := Xy (es := s.aA) (bs := yJ) aHv
 refine XK.enter (vs := [.agg #[.slice A1 s.aB.length k1, .slice A2 s.domains.length k2, .slice A3 s.aW.length k3, .slice A4 s.aA.length k4]]) Tryz.func67 rfl Tryz.ntmps67 (by simp) ?_
 refine XK.seq ?_
 refine XK.region ?_
 refine bY rfl (by decide) fun g1 => ?_
 refine bZ (cs := [.slice none 0 0, .slice none 0 0, .slice none 0 0, .slice none 0 0]) (aM (by kernel_rfl)) (by decide) fun g2 => ?_
 refine XK.aE ?_
 refine XK.cut (fun e R H => ∃ C j1 D j2 E j3 V j4 g3, e = [(3, .pointer (some ⟨g3, 0, none⟩)), (2, .pointer (some ⟨g2, 0, none⟩))] ∧ R = [all w] ∧ H = [HP.own 118 6 (.slice C s.aB.length j1) s.aB.length (Fp s zU).flatten, HP.own 78 6 (.slice V s.aA.length j4) s.aA.length (Fl s yJ).flatten, HP.own 75 3 (.slice D s.domains.length j2) s.domains.length rd.flatten, HP.own 120 1 (.slice E s.aW.length j3) s.aW.length rr.flatten, HP.aF g3 29 [.slice C s.aB.length j1, .slice D s.domains.length j2, .slice E s.aW.length j3, .slice V s.aA.length j4], HP.aF g2 29 [.slice none 0 0, .slice none 0 0, .slice none 0 0, .slice none 0 0]]) ?_ ?_
 ·refine XK.draw 14 (by kernel_rfl) (by kernel_rfl) ?_
  refine XA.q 0 ?_
  refine XA.q 1 ?_
  refine XA.q 3 ?_
  refine XA.q 4 ?_
  refine XA.q 6 ?_
  refine XA.q 7 ?_
  refine XA.q 9 ?_
  refine XA.q 10 ?_
  refine XA.aER (j := 13) 3 29 [.slice none 0 0, .slice none 0 0, .slice none 0 0, .slice none 0 0] fun M => ?_
  refine XA.maybe 2 13 rfl rfl (aM (by kernel_rfl)) (by decide) (by kernel_rfl) (by kernel_rfl) (fun _ h => h) (fun M => ?_)
  refine dZ (f := 143) (fi := []) (ca := []) (by kernel_rfl) (Kr M rfl rfl) (Kq M rfl rfl) (by decide) (aCl s.aB.length (Fp s zU).flatten) (fun w1 st => aEk A1 _ k1 _ w1 (hsc.le (st.le (by simp))) ho1 sm1) ?_
  rintro _ _ q1 ⟨C, j1, rfl, rfl⟩ _
  dsimp only [List.cons_append, List.nil_append]
  refine XK.Mr ?_
  refine XK.nil ?_; refine XK.iU ?_; refine XA.Qf (by decide) rfl (fun _ h => h.aN.tail) ?_
  refine XA.maybe 5 13 rfl rfl (aM (by kernel_rfl)) (by decide) (by kernel_rfl) (by kernel_rfl) (fun _ h => h.aN.tail) (fun M => ?_)
  refine dZ (f := 144) (fi := []) (ca := []) (by kernel_rfl) (Kr M rfl rfl) (Kq M rfl rfl) (by decide) (aCj s.domains.length rd.flatten) (fun w1 st => aEi A2 _ k2 _ w1 (Tv.le (st.le (by simp))) (aHi hrd) sm2) ?_
  rintro _ _ q2 ⟨D, j2, rfl, rfl⟩ _
  dsimp only [List.cons_append, List.nil_append]
  refine XK.Mr ?_
  refine XK.nil ?_; refine XK.iU ?_; refine XA.Qf (by decide) rfl (fun _ h => h.aN.tail.aN.tail) ?_
  refine XA.maybe 8 13 rfl rfl (aM (by kernel_rfl)) (by decide) (by kernel_rfl) (by kernel_rfl) (fun _ h => h.aN.tail.aN.tail) (fun M => ?_)
  refine dZ (f := 145) (fi := []) (ca := []) (by kernel_rfl) (Kr M rfl rfl) (Kq M rfl rfl) (by decide) (aCh s.aW.length rr.flatten) (fun w1 st => aEg A3 _ k3 _ w1 (hst.le (st.le (by simp))) (aDx cJ) sm3) ?_
  rintro _ _ q3 ⟨E, j3, rfl, rfl⟩ _
  dsimp only [List.cons_append, List.nil_append]
  refine XK.Mr ?_
  refine XK.nil ?_; refine XK.iU ?_; refine XA.Qf (by decide) rfl (fun _ h => h.aN.tail.aN.tail.aN.tail) ?_
  refine XA.maybe 11 13 rfl rfl (aM (by kernel_rfl)) (by decide) (by kernel_rfl) (by kernel_rfl) (fun _ h => h.aN.tail.aN.tail.aN.tail) (fun M => ?_)
  refine dZ (f := 146) (fi := []) (ca := []) (by kernel_rfl) (Kr M rfl rfl) (Kq M rfl rfl) (by decide) (aCk s.aA.length (Fl s yJ).flatten) (fun w1 st => aEj A4 _ k4 _ w1 (Bp.le (st.le (by simp))) ho4 sm4) ?_
  rintro _ _ q4 ⟨V, j4, rfl, rfl⟩ _
  dsimp only [List.cons_append, List.nil_append]
  refine XK.Mr ?_
  refine XK.nil ?_; refine XK.iU ?_; refine XA.Qf (by decide) rfl (fun _ h => h.aN.tail.aN.tail.aN.tail.aN.tail) ?_
  cases M with
  | none =>
   dsimp only [tF, wF, xI, Cn]
   refine XA.eH 12 rfl rfl rfl (by decide) (gD (zs := [.slice none 0 0, .slice none 0 0, .slice none 0 0, .slice none 0 0]) (L := [(0, 1), (1, 1), (2, 1), (3, 1)]) (aM (by kernel_rfl)) (by kernel_rfl) rfl (by simp [aR, aU, Value.cells]; rfl)) (by kernel_rfl) (fun _ _ _ h => h) (fun _ h => h.aN.tail.aN.tail.aN.tail.aN.tail) ?_
   refine XA.next 13 rfl (by kernel_rfl) ?_
   refine bZ (cs := [.slice none 0 0, .slice none 0 0, .slice none 0 0, .slice none 0 0]) (aM (by kernel_rfl)) (by decide) fun g3 => ?_
   refine XK.nil ?_; refine XK.iU ?_; refine XA.back (fun _ h => h.tail.aN.tail.aN.tail.aN.tail.aN.tail) ?_
   refine XA.next 14 rfl (by kernel_rfl) ?_
   refine zH 0 rfl ?_
   dsimp only [List.set]
   refine XA.bt ?_
   refine XA.done (by kernel_rfl) ?_
   refine XK.norm ?_
   exact XK.weak [4, 1, 3, 2, 0, 5] rfl (by decide) (by simp) (XK.aK [(3, .pointer (some ⟨g3, 0, none⟩)), (2, .pointer (some ⟨g2, 0, none⟩))] (XK.meet ⟨C, j1, D, j2, E, j3, V, j4, g3, rfl, rfl, rfl⟩))
  | some g3 =>
   dsimp only [tF, wF, xI, Cn]
   refine XA.eH 12 rfl rfl rfl (by decide) (gD (zs := [.slice none 0 0, .slice none 0 0, .slice none 0 0, .slice none 0 0]) (L := [(0, 1), (1, 1), (2, 1), (3, 1)]) (aM (by kernel_rfl)) (by kernel_rfl) rfl (by simp [aR, aU, Value.cells]; rfl)) (by kernel_rfl) (fun _ _ _ h => h) (fun _ h => h.tail.aN.tail.aN.tail.aN.tail.aN.tail) ?_
   refine XA.next 14 rfl (by kernel_rfl) ?_
   refine zH 0 rfl ?_
   dsimp only [List.set]
   refine XA.bt ?_
   refine XA.done (by kernel_rfl) ?_
   refine XK.norm ?_
   exact XK.weak [4, 1, 3, 2, 0, 5] rfl (by decide) (by simp) (XK.aK [(3, .pointer (some ⟨g3, 0, none⟩)), (2, .pointer (some ⟨g2, 0, none⟩))] (XK.meet ⟨C, j1, D, j2, E, j3, V, j4, g3, rfl, rfl, rfl⟩))
 rintro _ _ _ ⟨C, j1, D, j2, E, j3, V, j4, g3, rfl, rfl, rfl⟩
 refine XK.wS (p := HP.dV (sI s zU 0) (sI.le (s := s) (fa := zU) (i := 0))) (fun w1 j c a hj => absurd hj (by omega)) ?_
 refine XK.go ?_
 refine XK.aK [(23, .int .i64 0), (22, .int .i64 s.aB.length), (3, .pointer (some ⟨g3, 0, none⟩)), (2, .pointer (some ⟨g2, 0, none⟩))] ?_
 refine XK.loop (fun m e R H => ∃ (i : Nat) (fa : List AC), i ≤ s.aB.length ∧ fa.length = s.aB.length ∧ (∀ j, i ≤ j → fa[j]? = zU[j]?) ∧ m = s.aB.length - i ∧ e = [(23, .int .i64 i), (22, .int .i64 s.aB.length), (3, .pointer (some ⟨g3, 0, none⟩)), (2, .pointer (some ⟨g2, 0, none⟩))] ∧ R = [all w] ∧ H = [HP.dV (sI s fa i) (sI.le (s := s) (fa := fa) (i := i)), HP.own 118 6 (.slice C s.aB.length j1) s.aB.length (Fp s fa).flatten, HP.own 78 6 (.slice V s.aA.length j4) s.aA.length (Fl s yJ).flatten, HP.own 75 3 (.slice D s.domains.length j2) s.domains.length rd.flatten, HP.own 120 1 (.slice E s.aW.length j3) s.aW.length rr.flatten, HP.aF g3 29 [.slice C s.aB.length j1, .slice D s.domains.length j2, .slice E s.aW.length j3, .slice V s.aA.length j4], HP.aF g2 29 [.slice none 0 0, .slice none 0 0, .slice none 0 0, .slice none 0 0]]) s.aB.length ⟨0, zU, by omega, aFE, fun _ _ => rfl, rfl, rfl, rfl, rfl⟩ fun m e R H hI => ?_
 obtain ⟨i, fa, hi, hfl, hsame, rfl, rfl, rfl, rfl⟩ := hI
 refine XK.go ?_
 refine XK.if_ rfl (fun hlt => ?_) (fun hge => ?_)
 ·have hlt : i < s.aB.length := by omega
  obtain ⟨c, hc⟩ := get_some hlt
  obtain ⟨a, ha⟩ := get_some (l := fa) (i := i) (by omega)
  have ha0 : zU[i]? = some a := by rw [← hsame i (Nat.le_refl _)]; exact ha
  have aFD := aFF i c a hc ha0
  have hcs := sm5 c (List.mem_of_getElem? hc)
  refine XK.weak [1, 0, 2, 3, 4, 5, 6] rfl (by decide) (fun _ h => h) ?_
  refine XK.Nj 0 rfl (by omega) fun gC hC => ?_
  subst hC
  refine XK.vY 0 rfl fun cs h1 h2 h3 h4 => ?_
  dsimp only [List.set]
  obtain ⟨gY, fM⟩ := Mh (f := tJ) (es := s.aB) (bs := fa) (sz := 6) hfl (fun _ _ => rfl)
  have hs := xY h2 gY fM (Gg hc ha)
  refine XK.go ?_
  refine XK.draw 10 (by kernel_rfl) (by kernel_rfl) ?_
  refine XA.q 0 ?_
  refine XA.q 1 ?_
  refine XA.q 2 ?_
  refine XA.q 3 ?_
  refine XA.q 4 ?_
  refine XA.q 5 ?_
  refine XA.q 6 ?_ (dN := dat (sz := 6) i (i * 6))
  refine XA.q 7 ?_
  refine XA.q 8 ?_
  refine XA.next 9 rfl (by kernel_rfl) ?_
  refine dZ (f := 147) (fi := []) (ca := []) (by kernel_rfl) rfl rfl (by decide) (Xi c.src.length (aO c.src)) (fun w1 st => aAl a.1 _ a.2 _ w1 (aH.le aFD (st.le (by simp))) (aAB _) hcs) ?_
  rintro _ _ q ⟨Af, kf, rfl, rfl⟩ _
  dsimp only [List.cons_append, List.nil_append]
  refine XA.bk ?_
  refine XA.next 10 rfl (by kernel_rfl) ?_
  refine kd (dat i (i * 6)) ?_
  refine XA.bt ?_
  refine XA.next 11 rfl (by kernel_rfl) ?_
  refine bJ ?_
  refine XA.bt ?_
  refine XA.next 12 rfl (by kernel_rfl) ?_
  refine iE rfl rfl ?_
  dsimp only [List.set]
  refine XA.bt ?_
  refine XA.done (by kernel_rfl) ?_
  have hs1 := hs.set 1 (.slice Af c.src.length kf) (by simp [tJ]) (by omega)
  have pH := (pT.refl cs (i * 6) 6).set 1 (.slice Af c.src.length kf) (by decide)
  have hf := wM (r' := tJ c (Af, kf)) h2 gY fM hlt (by omega) rfl hs1 pH
  rw [show (Fp s fa).set i (tJ c (Af, kf)) = Fp s (fa.set i (Af, kf)) from Xx hc (by omega)] at hf
  refine XK.vJ 1 (n := s.aB.length) (c := j1) (sz := 6) rfl (by simpa using h1) hf h3 h4 ?_
  dsimp only [List.set]
  refine XK.sN 0 (Φ := fun p => aH p 1 Af c.src.length (aO c.src)) (hm := fun p q hl h => aH.le h hl) rfl (fun p h => h) ?_
  dsimp only [List.set]
  refine XK.weak [0, 2, 1, 3, 4, 5, 6, 7] rfl (by decide) (fun _ h => h) ?_
  refine XK.Tf (X := sI s (fa.set i (Af, kf)) (i + 1)) (h3 := sI.le) (fun p h1 h2 j c' a' hj xR uZ => by
   rcases Nat.lt_or_ge j i with h | h
   ·rw [List.getElem?_set_ne (by omega)] at uZ
    exact h2 j c' a' h xR uZ
   ·obtain rfl : j = i := by omega
    rw [hc] at xR
    cases xR
    rw [List.getElem?_set_self (by omega)] at uZ
    cases uZ
    exact h1) ?_
  refine XK.go ?_
  refine XK.aK [(23, .int .i64 (i + 1 : Nat)), (22, .int .i64 s.aB.length), (3, .pointer (some ⟨g3, 0, none⟩)), (2, .pointer (some ⟨g2, 0, none⟩))] ?_
  refine XK.Dl (R' := [all w]) (by simp) ?_
  exact XK.round (s.aB.length - (i + 1)) (by omega) ⟨i + 1, fa.set i (Af, kf), hlt, by simpa using hfl, fun j hj => by rw [List.getElem?_set_ne (by omega)]; exact hsame j (by omega), rfl, rfl, rfl, rfl⟩
 ·obtain rfl : i = s.aB.length := by omega
  refine XK.wS (p := HP.dV (vP s yJ 0) (vP.le (s := s) (da := yJ) (i := 0))) (fun w1 j d a hj => absurd hj (by omega)) ?_
  refine XK.go ?_
  refine XK.aK [(42, .int .i64 0), (41, .int .i64 s.aA.length), (3, .pointer (some ⟨g3, 0, none⟩)), (2, .pointer (some ⟨g2, 0, none⟩))] ?_
  refine XK.loop (fun m e R H => ∃ (i : Nat) (da : List (AC × AC)), i ≤ s.aA.length ∧ da.length = s.aA.length ∧ (∀ j, i ≤ j → da[j]? = yJ[j]?) ∧ m = s.aA.length - i ∧ e = [(42, .int .i64 i), (41, .int .i64 s.aA.length), (3, .pointer (some ⟨g3, 0, none⟩)), (2, .pointer (some ⟨g2, 0, none⟩))] ∧ R = [all w] ∧ H = [HP.dV (vP s da i) (vP.le (s := s) (da := da) (i := i)), HP.dV (sI s fa s.aB.length) (sI.le (s := s) (fa := fa) (i := s.aB.length)), HP.own 118 6 (.slice C s.aB.length j1) s.aB.length (Fp s fa).flatten, HP.own 78 6 (.slice V s.aA.length j4) s.aA.length (Fl s da).flatten, HP.own 75 3 (.slice D s.domains.length j2) s.domains.length rd.flatten, HP.own 120 1 (.slice E s.aW.length j3) s.aW.length rr.flatten, HP.aF g3 29 [.slice C s.aB.length j1, .slice D s.domains.length j2, .slice E s.aW.length j3, .slice V s.aA.length j4], HP.aF g2 29 [.slice none 0 0, .slice none 0 0, .slice none 0 0, .slice none 0 0]]) s.aA.length ⟨0, yJ, by omega, aFH, fun _ _ => rfl, rfl, rfl, rfl, rfl⟩ fun m e R H hI => ?_
  obtain ⟨i, da, hi, jX, aAH, rfl, rfl, rfl, rfl⟩ := hI
  refine XK.go ?_
  refine XK.if_ rfl (fun hlt => ?_) (fun hge => ?_)
  ·have hlt : i < s.aA.length := by omega
   obtain ⟨d, hd⟩ := get_some hlt
   obtain ⟨⟨a1, a2⟩, ha⟩ := get_some (l := da) (i := i) (by omega)
   have ha0 : yJ[i]? = some (a1, a2) := by rw [← aAH i (Nat.le_refl _)]; exact ha
   obtain ⟨Uc, aAS⟩ := aFI i d _ hd ha0
   have dJ := Jd d (List.mem_of_getElem? hd)
   have eM := sm6 d (List.mem_of_getElem? hd)
   refine XK.weak [3, 0, 1, 2, 4, 5, 6, 7] rfl (by decide) (fun _ h => h) ?_
   refine XK.Nj 0 rfl (by omega) fun gV hV => ?_
   subst hV
   refine XK.vY 0 rfl fun cs h1 h2 h3 h4 => ?_
   dsimp only [List.set]
   obtain ⟨gY, fM⟩ := Mh (f := tG) (es := s.aA) (bs := da) (sz := 6) jX (fun _ _ => rfl)
   have hs := xY h2 gY fM (Gg hd ha)
   refine XK.go ?_
   refine kd (dat i (i * 6)) ?_
   refine XK.go ?_
   refine XK.eR [3, 4, 5, 8, 9, 10] ?_
   refine XB.mv 0 ?_
   refine XB.mv 1 ?_
   refine XB.mv 2 ?_
   refine XB.mv 7 ?_
   refine XB.q 3 ?_
   refine XB.q 4 ?_
   refine XB.q 5 ?_
   refine XB.q 8 ?_
   refine XB.q 9 ?_
   refine XB.q 10 ?_
   refine XB.next 6 rfl (by kernel_rfl) ?_
   refine dZ (f := 148) (fi := []) (ca := []) (by kernel_rfl) rfl rfl (by decide) (aCi d.aQ.length (d.aQ.flatMap Rg.cells)) (fun w1 st => aEh a1.1 _ a1.2 _ w1 (aH.le Uc (st.le (by simp))) Du dJ) ?_
   rintro _ _ q1 ⟨Ag, kg, rfl, rfl⟩ _
   dsimp only [List.cons_append, List.nil_append]
   refine XB.bk ?_
   refine XB.next 11 rfl (by kernel_rfl) ?_
   refine dZ (f := 147) (fi := []) (ca := []) (by kernel_rfl) rfl rfl (by decide) (Xi d.iO.length (aO d.iO)) (fun w1 st => aAl a2.1 _ a2.2 _ w1 (aH.le aAS (st.le (by simp))) (aAB _) eM) ?_
   rintro _ _ q2 ⟨An, kn, rfl, rfl⟩ _
   dsimp only [List.cons_append, List.nil_append]
   refine XB.bk ?_ (hS := fun _ h => h.aN.tail.aN.tail)
   refine XB.next 12 rfl (by kernel_rfl) ?_
   refine bJ ?_
   refine XB.bk ?_ (hS := fun _ h => h.aN.tail.aN.tail)
   refine XB.next 13 rfl (by kernel_rfl) ?_
   refine bJ ?_
   refine XB.bk ?_ (hS := fun _ h => h.aN.tail.aN.tail)
   refine XB.next 14 rfl (by kernel_rfl) ?_
   refine iE rfl rfl ?_
   dsimp only [List.set]
   refine XB.bt ?_
   refine XB.next 15 rfl (by kernel_rfl) ?_
   refine bJ ?_
   refine XB.bt ?_
   refine XB.next 16 rfl (by kernel_rfl) ?_
   refine bJ ?_
   refine XB.bt ?_
   refine XB.next 17 rfl (by kernel_rfl) ?_
   refine iE rfl rfl ?_
   dsimp only [List.set]
   refine XB.bt ?_
   refine XB.done (by kernel_rfl) ?_
   have hs1 := (hs.set 4 (.slice Ag d.aQ.length kg) (by simp [tG]) (by omega)).set 5 (.slice An d.iO.length kn) (by simp [tG]) (by simp; omega)
   have pH := ((pT.refl cs (i * 6) 6).set 4 (.slice Ag d.aQ.length kg) (by decide)).set 5 (.slice An d.iO.length kn) (by decide)
   have hf := wM (r' := tG d ((Ag, kg), (An, kn))) h2 gY fM hlt (by omega) rfl hs1 pH
   rw [show (Fl s da).set i (tG d ((Ag, kg), (An, kn))) = Fl s (da.set i ((Ag, kg), (An, kn))) from Xx hd (by omega)] at hf
   refine XK.vJ 2 (n := s.aA.length) (c := j4) (sz := 6) rfl (by simpa using h1) hf h3 h4 ?_
   dsimp only [List.set]
   refine XK.sN 0 (Φ := fun p => aH p 1 An d.iO.length (aO d.iO)) (hm := fun p q hl h => aH.le h hl) rfl (fun p h => h) ?_
   refine XK.sN 1 (Φ := fun p => aH p 2 Ag d.aQ.length (d.aQ.flatMap Rg.cells)) (hm := fun p q hl h => aH.le h hl) rfl (fun p h => h) ?_
   dsimp only [List.set]
   refine XK.Tf (X := fun p => aH p 1 An d.iO.length (aO d.iO) ∧ aH p 2 Ag d.aQ.length (d.aQ.flatMap Rg.cells)) (h3 := fun p q hl h => ⟨aH.le h.1 hl, aH.le h.2 hl⟩) (fun p h1 h2 => ⟨h1, h2⟩) ?_
   refine XK.weak [0, 2, 3, 4, 1, 5, 6, 7, 8] rfl (by decide) (fun _ h => h) ?_
   refine XK.Tf (X := vP s (da.set i ((Ag, kg), (An, kn))) (i + 1)) (h3 := vP.le) (fun p h1 h2 j d' a' hj hd' uZ => by
    rcases Nat.lt_or_ge j i with h | h
    ·rw [List.getElem?_set_ne (by omega)] at uZ
     exact h2 j d' a' h hd' uZ
    ·obtain rfl : j = i := by omega
     rw [hd] at hd'
     cases hd'
     rw [List.getElem?_set_self (by omega)] at uZ
     cases uZ
     exact ⟨h1.2, h1.1⟩) ?_
   refine XK.go ?_
   refine XK.aK [(42, .int .i64 (i + 1 : Nat)), (41, .int .i64 s.aA.length), (3, .pointer (some ⟨g3, 0, none⟩)), (2, .pointer (some ⟨g2, 0, none⟩))] ?_
   refine XK.Dl (R' := [all w]) (by simp) ?_
   exact XK.round (s.aA.length - (i + 1)) (by omega) ⟨i + 1, da.set i ((Ag, kg), (An, kn)), hlt, by simpa using jX, fun j hj => by rw [List.getElem?_set_ne (by omega)]; exact aAH j (by omega), rfl, rfl, rfl, rfl⟩
  ·obtain rfl : i = s.aA.length := by omega
   refine XK.weak [6, 7, 0, 1, 2, 3, 4, 5] rfl (by decide) (fun _ h => h) ?_
   refine XK.go ?_
   refine XK.still [] [2, 3, 4, 5, 6, 7] [1] (by simp) rfl (by decide) (by decide) fun q hq _ hfr => ?_
   obtain ⟨F0, s0, z0⟩ := hq 2 _ (by simp) rfl
   obtain ⟨F1, s1, z1⟩ := hq 3 _ (by simp) rfl
   have e0 : vP s da s.aA.length q := vP.le ⟨q.w, F0⟩ q (fun b hb => ⟨z0 b hb, rfl⟩) s0
   have e1 : sI s fa s.aB.length q := sI.le ⟨q.w, F1⟩ q (fun b hb => ⟨z1 b hb, rfl⟩) s1
   have e2 := aH.own (hq 4 _ (by simp) rfl)
   have e3 := aH.own (hq 5 _ (by simp) rfl)
   have e4 := aH.own (hq 6 _ (by simp) rfl)
   have e5 := aH.own (hq 7 _ (by simp) rfl)
   have hS : mW (dU q) s #[.slice C s.aB.length j1, .slice D s.domains.length j2, .slice E s.aW.length j3, .slice V s.aA.length j4] :=
    ⟨C, _, j1, D, _, j2, E, _, j3, V, _, j4, rfl, ⟨_, Zy hfl (fun i c a hc ha => e1 i c a (List.getElem?_eq_some_iff.1 hc).1 hc ha), rfl, e2⟩, ⟨rd, hrd, rfl, e4⟩, ⟨rr, cJ, rfl, e5⟩, ⟨_, Zx jX (fun i d p hd hp => e0 i d p (List.getElem?_eq_some_iff.1 hd).1 hd hp), rfl, e3⟩⟩
   exact XK.Dt (vs := [.slice C s.aB.length j1, .slice D s.domains.length j2, .slice E s.aW.length j3, .slice V s.aA.length j4]) rfl (by kernel_rfl) rfl rfl (by first | assumption | exact aD.whole 0 rfl | exact aD.whole 1 rfl | exact aD.whole 2 rfl | exact aD.whole 3 rfl | exact aD.whole 4 rfl | exact aD.whole 5 rfl | exact aD.whole 6 rfl | exact aD.whole 7 rfl | exact aD.whole 8 rfl | exact aD.fD (by simp) (by assumption)) fun w1 t => ⟨⟨_, rfl, _, rfl, hS.mono (gE (t.lK (by simp) (hfr (by simp) (by simp))))⟩, t.below (by simp)⟩
end
section
section
variable {P : Program} {N : cN} {w0 w : World} {K : Act → World → Prop} {e : Env} {R : List Piece} {H H' : List HP}
theorem XK.push {p : HP} {ps : List HP} (h : XK N w0 K e R (HP.many (ps ++ [p]) :: H)) : XK N w0 K e R (p :: HP.many ps :: H) := fun a w hr st => by
  obtain ⟨Z, F, hz, cJ, hs, cQ, cW⟩ := st.ex
  obtain ⟨G, hG1, Vm, hG3⟩ := hs 1 _ rfl
  refine h a w hr ⟨st.os, st.tape, st.output, st.size, Z, fun j => match j with | 0 => fun b => F 0 b ∨ F 1 b | j + 1 => F (j + 2), hz, cJ, fun j r hj => ?_, fun j b hb => ?_, fun j k b jC hj hk => ?_⟩
  · cases j with
    | zero =>
      simp at hj
      subst hj
      refine ⟨fun i b => if i < ps.length then G i b else i = ps.length ∧ F 0 b, fun i r hi => ?_, fun i b hb => ?_, fun i k b hik h1 h2 => ?_⟩
      · rcases Nat.lt_or_ge i ps.length with hl | hl
        · rw [List.getElem?_append_left hl] at hi
          show r.sat (fun b => if i < ps.length then G i b else i = ps.length ∧ F 0 b) w
          rw [show (fun b => if i < ps.length then G i b else i = ps.length ∧ F 0 b) = G i by funext b; rw [if_pos hl]]
          exact hG1 i r hi
        · rw [List.getElem?_append_right hl] at hi
          have h0 := tA hi
          have hil : i = ps.length := by simp at h0; omega
          subst hil
          simp at hi
          subst hi
          show p.sat (fun b => if ps.length < ps.length then G ps.length b else ps.length = ps.length ∧ F 0 b) w
          rw [show (fun b => if ps.length < ps.length then G ps.length b else ps.length = ps.length ∧ F 0 b) = F 0 by funext b; simp]
          exact hs 0 _ rfl
      · dsimp only at hb
        split at hb
        · exact .inr (Vm i b hb)
        · exact .inl hb.2
      · dsimp only at h1 h2
        split at h1 <;> split at h2
        · exact hG3 i k b hik h1 h2
        · exact cW 1 0 b (by omega) (Vm i b h1) h2.2
        · exact cW 0 1 b (by omega) h1.2 (Vm k b h2)
        · omega
    | succ j => exact hs (j + 2) r (by simpa using hj)
  · cases j with
    | zero => rcases hb with hb | hb <;> exact cQ _ b hb
    | succ j => exact cQ _ b hb
  · cases j with
    | zero => cases k with
      | zero => exact jC rfl
      | succ k => rcases hj with hj | hj
                  · exact cW 0 (k + 2) b (by omega) hj hk
                  · exact cW 1 (k + 2) b (by omega) hj hk
    | succ j => cases k with
      | zero => rcases hk with hk | hk
                · exact cW 0 (j + 2) b (by omega) hk hj
                · exact cW 1 (j + 2) b (by omega) hk hj
      | succ k => exact cW (j + 2) (k + 2) b (by omega) hj hk
end
theorem XK.three {N : cN} {w0 : World} {e : Env} {R : List Piece} {H : List HP} {K : Act → World → Prop} {p q r : HP} (h : XK N w0 K e R (HP.many [p, q, r] :: H)) : XK N w0 K e R (p :: q :: r :: H) := by
 refine XK.pair ?_
 refine fun a w hr st => ?_
 refine (XK.push (ps := [p, q]) (p := r) h) a w hr (st.weak (fun _ h => h) (fun i => match i with
  | 0 => 1
  | 1 => 0
  | i + 2 => i + 2) (fun i j _ _ he => by
   match i, j with
   | 0, 0 => rfl
   | 0, 1 => simp at he
   | 0, j + 2 => simp at he
   | 1, 0 => simp at he
   | 1, 1 => rfl
   | 1, j + 2 => simp at he
   | i + 2, 0 => simp at he
   | i + 2, 1 => simp at he
   | i + 2, j + 2 => simpa using he) (fun i p hi => by
   match i, hi with
   | 0, hi => simpa using hi
   | 1, hi => simpa using hi
   | i + 2, hi => simpa using hi))
end
end Go.Proofs.YticjkhagldkejaaGreatDoor
