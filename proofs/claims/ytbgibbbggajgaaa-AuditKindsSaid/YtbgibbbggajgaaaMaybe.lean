/- A region that draws its order, in which one alloc may come up at any time: the rest is walked once, whether it has come or not. -/
import Derived.Test.YtbgibbbggajgaaaNear
import Derived.Test.YtbgibbbggajgaaaSlices
namespace Go.Proofs.Ytbgibbbggajgaaa
set_option linter.all false
open Go.RowKit
/-- the alloc has come (its block is g), or not yet -/
def emM (M : Option Nat) (d : Nat) (e : Env) : Env := match M with
  | none => e
  | some g => (d, .pointer (some ⟨g, 0, none⟩)) :: e
def hmM (M : Option Nat) (t : TypeId) (cs : List Value) (H : List HP) : List HP := match M with
  | none => H
  | some g => HP.blk g t cs :: H
def lmM (M : Option Nat) (j : Nat) (l : Array Bool) : Array Bool := match M with
  | none => l
  | some _ => l.setIfInBounds j true
def fmM (M : Option Nat) (f : Nat) : Nat := match M with
  | none => f + 1
  | some _ => f
def neB (d : Nat) : Operand → Bool
  | .tmp t => !(Nat.beq d t)
  | _ => true
theorem get_M (M : Option Nat) {d t : Nat} {e : Env} {v : Value} (h : e.get t = some v) (hn : Nat.beq d t = false) : (emM M d e).get t = some v := by
  cases M with
  | none => exact h
  | some g =>
    show Env.get ((d, _) :: e) t = some v
    unfold Env.get
    rw [hn]
    exact h
theorem ev_M (M : Option Nat) {d : Nat} {e : Env} {x : Operand} {v : Value} (h : e.ev x = some v) (hn : neB d x = true) : (emM M d e).ev x = some v := by
  cases x with
  | tmp t => exact get_M M h (by simpa [neB] using hn)
  | _ => exact h
theorem evs_M (M : Option Nat) {d : Nat} {e : Env} : ∀ {xs : List Operand} {vs : List Value}, e.evs xs = some vs → xs.all (neB d) = true → (emM M d e).evs xs = some vs
  | [], vs, h, _ => by cases h; rfl
  | x :: xs, vs, h, hn => by
    simp only [List.all_cons, Bool.and_eq_true] at hn
    unfold Env.evs at h ⊢
    split at h
    · rename_i v r h1 h2
      cases h
      rw [ev_M M h1 hn.1, evs_M M h2 hn.2]
    · cases h
section
variable {P : Program} {N : Nat} {w0 w : World} {e : Env} {R R' R0 : List Piece} {H H0 : List HP} {Q : Exit → Act → World → Prop} {ops : Array Oper} {m fuel : Nat} {listed : Array Bool} {K : Act → World → Prop}
variable {d dA : Nat} {t ty : TypeId} {pos : String} {aft : Array Edge} {cs : List Value} {v : Value}
theorem XK.weakR (hR : ∀ p ∈ R', p ∈ R) (h : XK N w0 K e R' H) : XK N w0 K e R H := fun a w hr st => h a w hr (st.weak hR id (fun _ _ _ _ h => h) (fun _ _ h => h))
theorem St.unM {M : Option Nat} (h : St w0 R (hmM M t cs H) w) : St w0 R H w := by
  cases M with
  | none => exact h
  | some g => exact h.tail
theorem Rep.putM {M : Option Nat} {a : Act} (h : Rep N ((d, v) :: emM M dA e) a) (hd : Nat.beq d dA = false) : Rep N (emM M dA ((d, v) :: e)) a := by
  cases M with
  | none => exact h
  | some g =>
    refine ⟨h.size, h.defers, fun u x hu => h.get u x ?_⟩
    show Env.get ((d, v) :: (dA, _) :: e) u = some x
    have hu : Env.get ((dA, .pointer (some ⟨g, 0, none⟩)) :: (d, v) :: e) u = some x := hu
    unfold Env.get at hu ⊢
    cases h1 : Nat.beq d u with
    | true =>
      have := Nat.eq_of_beq_eq_true h1
      subst this
      rw [show Nat.beq dA d = false from (by rw [← hd]; cases h2 : Nat.beq dA d with
        | true => have := Nat.eq_of_beq_eq_true h2; subst this; rw [Nat.beq_refl] at hd; cases hd
        | false => exact hd.symm)] at hu
      unfold Env.get at hu
      rw [h1] at hu
      exact hu
    | false =>
      dsimp only
      unfold Env.get
      cases h2 : Nat.beq dA u with
      | true => rw [h2] at hu; exact hu
      | false =>
        rw [h2] at hu
        unfold Env.get at hu
        rw [h1] at hu
        exact hu
theorem XA.maybe (i j : Nat) {oi : Oper} {M : Option Nat} (hi : ops[i]? = some oi) (hj : ops[j]? = some ⟨some dA, .alloc t, ty, pos, aft, none⟩) (ht : zeroB P t cs) (hd : dA < N)
    (hr0 : Region.ready .any ops listed = [i, j]) (hr1 : Region.ready .any ops (listed.setIfInBounds j true) = [i]) (hS : ∀ w, St w0 R H w → St w0 R0 H0 w)
    (step : ∀ M, XK N w0 (wpList P ops (Exit.then (XAK P w0 ops Q R0 H0 m (fmM M fuel) (lmM M j listed) i) Q) [oi]) (emM M dA e) R (hmM M t cs H)) :
    XA P N w0 ops Q R0 H0 m (fmM M (fuel + 1)) (lmM M j listed) (emM M dA e) R (hmM M t cs H) := by
  cases M with
  | some g => exact XA.next i hi hr1 (step (some g))
  | none => exact XA.either i j hi hj hr0 (step none) (xk_alloc ht hd fun g => XK.nil (XK.thenN (XA.back (fun w h => hS w h.tail) (XA.next i hi hr1 (step (some g))))))
theorem XA.maybe0 {j : Nat} (dA : Nat) (t : TypeId) (cs : List Value) (h : ∀ M : Option Nat, XA P N w0 ops Q R0 H0 m (fmM M fuel) (lmM M j listed) (emM M dA e) R (hmM M t cs H)) : XA P N w0 ops Q R0 H0 m (fuel + 1) listed e R H := h none
theorem XA.backM {i j : Nat} {M : Option Nat} (hij : i ≠ j) (hd : Nat.beq d dA = false) (hS : ∀ w, St w0 R H w → St w0 R0 H0 w)
    (h : XA P N w0 ops Q R0 H0 m (fmM M fuel) (lmM M j (listed.setIfInBounds i true)) (emM M dA ((d, v) :: e)) R (hmM M t cs H)) : XK N w0 (XAK P w0 ops Q R0 H0 m (fmM M fuel) (lmM M j listed) i) ((d, v) :: emM M dA e) R (hmM M t cs H) := by
  refine XA.back (fun w h => hS w h.unM) ?_
  have hl : (lmM M j listed).setIfInBounds i true = lmM M j (listed.setIfInBounds i true) := by
    cases M with
    | none => rfl
    | some g => exact Array.setIfInBounds_comm _ _ (Ne.symm hij)
  rw [hl]
  exact fun up a w hr st => h up a w (hr.putM hd) st
theorem XK.swapM {M : Option Nat} {p : HP} (h : XK N w0 K e R (hmM M t cs (p :: H))) : XK N w0 K e R (p :: hmM M t cs H) := by
  cases M with
  | none => exact h
  | some g => exact fun a w hr st => h a w hr (st.weak (fun _ hp => hp) (fun i => match i with | 0 => 1 | 1 => 0 | i + 2 => i + 2) (fun i j _ _ he => by
      match i, j with
      | 0, 0 => rfl
      | 0, 1 => cases he
      | 0, j + 2 => simp at he
      | 1, 0 => cases he
      | 1, 1 => rfl
      | 1, j + 2 => simp at he
      | i + 2, 0 => simp at he
      | i + 2, 1 => simp at he
      | i + 2, j + 2 => simpa using he) (fun i q hq => by
      match i, hq with
      | 0, hq => exact hq
      | 1, hq => exact hq
      | i + 2, hq => exact hq))
/-! a bool that was reckoned by parts -/
theorem get_iff {p q : Prop} [Decidable p] [Decidable q] {u : Nat} (h : e.get u = some (.bool (decide p))) (hpq : p ↔ q) : e.get u = some (.bool (decide q)) := by
  rw [h, decide_eq_decide.2 hpq]
theorem get_false {q : Prop} [Decidable q] {u : Nat} (h : e.get u = some (.bool false)) (hq : ¬ q) : e.get u = some (.bool (decide q)) := by rw [h, decide_eq_false hq]
theorem get_true {q : Prop} [Decidable q] {u : Nat} (h : e.get u = some (.bool true)) (hq : q) : e.get u = some (.bool (decide q)) := by rw [h, decide_eq_true hq]
theorem Rep.sub_cons {e0 : Env} {a : Act} {u : Nat} {x : Value} (h : Rep N e a) (hs : e0.Sub e) (hu : e.get u = some x) : Rep N ((u, x) :: e0) a := h.sub (e' := (u, x) :: e0) ⟨hu, hs⟩
theorem XK.cutB {x y : Code} {Q : Exit → Act → World → Prop} (u : Nat) (p : Prop) [Decidable p] (h : XK N w0 (x.wp P (Exit.then (fun a' w' => Rep N ((u, .bool (decide p)) :: e) a' ∧ St w0 R H w') Q)) e R H)
    (hy : XK N w0 (y.wp P Q) ((u, .bool (decide p)) :: e) R H) : XK N w0 ((Code.seq x y).wp P Q) e R H := fun a w hr st => by
  refine wp_seq (wp_mono (h a w hr st) fun x a' w' hq => ?_)
  cases x with
  | normal => exact hy a' w' hq.1 hq.2
  | _ => exact hq
theorem XK.meetB {e0 : Env} {u : Nat} {p : Prop} [Decidable p] (hs : e0.Sub e) (hu : e.get u = some (.bool (decide p))) : XK N w0 (fun a' w' => Rep N ((u, .bool (decide p)) :: e0) a' ∧ St w0 R H w') e R H := fun _ _ hr st => ⟨hr.sub_cons hs hu, st⟩
/-- the row of the call's own that is not empty has a block -/
theorem XK.ownHead (i : Nat) {el : TypeId} {sz n c : Nat} {A : Option Addr} {xs : List Value} (hi : H[i]? = some (HP.own el sz (.slice A n c) n xs)) (hn : 0 < n) (h : ∀ g, A = some ⟨g, 0, none⟩ → XK N w0 K e R H) : XK N w0 K e R H := fun a w hr st => by
  have ho := st.own hi
  rcases ho.2 with ⟨_, h0⟩ | ⟨g, cap, cur, hv, _⟩
  · omega
  · injection hv with hA
    exact h g hA a w hr st
theorem xk_storeOwn (i k : Nat) {x y : Operand} {s ty : TypeId} {pos : String} {aft : Array Edge} {g n c o : Nat} {el : TypeId} {xs : List Value} {v : Value} {rest : List Oper} {ops : Array Oper} {Q : Exit → Act → World → Prop} (hi : H[i]? = some (HP.own el 1 (.slice (some ⟨g, 0, none⟩) n c) n xs)) (hs : oneB P s = true) (hx : e.ev x = some (.pointer (some ⟨g, o, none⟩))) (ho : o = k) (hy : e.ev y = some v)
    (h1 : v.oneCell' = true) (hl : k < n) (kk : XK N w0 (wpList P ops Q rest) e R (H.set i (HP.own el 1 (.slice (some ⟨g, 0, none⟩) n c) n (xs.set k v)))) :
    XK N w0 (wpList P ops Q (⟨none, .store s x y, ty, pos, aft, none⟩ :: rest)) e R H := by
  subst ho
  have hlt : i < H.length := by
    rcases Nat.lt_or_ge i H.length with h | h
    · exact h
    · rw [List.getElem?_eq_none h] at hi; cases hi
  refine XK.openOwn i hi fun cs hc1 hc2 hc3 hc4 => ?_
  rw [Nat.mul_one] at hc1 hc2
  refine xk_store i (g := g) (t := el) (cs := cs) (by simp [hlt]) hs hx hy h1 (by omega) ?_
  refine XK.closeOwn i (n := n) (c := c) (sz := 1) (xs := xs.set o v) (cs := cs.set o v) (el := el) (g := g) (by simp [hlt]) (by simpa using hc1) (by rw [Nat.mul_one]; exact take_set hc2) hc3 hc4 ?_
  simpa using kk
end
end Go.Proofs.Ytbgibbbggajgaaa
