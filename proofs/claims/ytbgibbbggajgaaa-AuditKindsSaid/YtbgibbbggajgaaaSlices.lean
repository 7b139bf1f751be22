/- slices: Clone, Reverse. -/
import Derived.Test.YtbgibbbggajgaaaPlan1
import Derived.Laws.Cover3
namespace Go.Proofs.Ytbgibbbggajgaaa
set_option linter.all false
open Go.RowKit
section
variable {P : Program} {N : Nat} {w0 : World} {e : Env} {R : List Piece} {H : List HP} {Q : Exit → Act → World → Prop} {ops : Array Oper} {rest : List Oper}
variable {d : Nat} {ty : TypeId} {pos : String} {aft : Array Edge}
theorem xk_eqNil {x : Operand} {t el u : TypeId} {A : Option Addr} {n c : Nat} (ht : P.underlying t = some (.slice el)) (hx : e.ev x = some (.slice A n c)) (hd : d < N)
    (k : XK N w0 (wpList P ops Q rest) ((d, .bool A.isNone) :: e) R H) : XK N w0 (wpList P ops Q (⟨some d, .binOp .eql t x (.const (.slice none 0 0)) u, ty, pos, aft, none⟩ :: rest)) e R H :=
  xk_pure hd (fun a w hr => by
    have h1 := hr.ev hx
    have h2 := hr.ev (show e.ev (.const (.slice none 0 0)) = some (.slice none 0 0) from rfl)
    simp [execOp, h1, h2, eqGuard, binOp, run_equal_slice_nil _ t el A n c ht]) k
theorem xk_slice0 {t el : TypeId} {sz : Nat} (ht : P.underlying t = some (.slice el)) (hsz : (P.info? el).map (·.size) = some sz) (hd : d < N)
    (k : ∀ g, XK N w0 (wpList P ops Q rest) ((d, .slice (some ⟨g, 0, none⟩) 0 0) :: e) R (HP.blk g el [] :: H)) : XK N w0 (wpList P ops Q (⟨some d, .buildSlice t 0 #[], ty, pos, aft, none⟩ :: rest)) e R H :=
  xk_buildSlice (ps := []) (vs := []) rfl (fun w => by
    obtain ⟨i, hi, hs⟩ := Option.map_eq_some_iff.1 hsz
    simp [Instr.buildSlice, Sem.run_bind, run_underlying ht, Result.andThen_ok, sizeOf, typeInfo, hi, newRow, Instr.fill]
    congr 2
    exact Array.eq_empty_of_size_eq_zero (by simp)) hd k
theorem St.bare {w : World} (h : St w0 R H w) : St w0 [] [] w := h.weak (fun _ hp => by cases hp) id (fun _ _ _ _ h => h) (fun i p hi => by simp at hi)
/-- .. where what is taken first asks nothing of memory -/
theorem XK.draw0 (m : Nat) {id : Nat} {l : List Oper} (hm : P.follows .mixedOrders = true) (hc : (Region.noSelect l.toArray && tlB l.toArray m) = true) (h : XA P N w0 l.toArray Q [] [] m l.length (Array.replicate l.length false) e R H) : XK N w0 ((Code.region id l.toArray true).wp P Q) e R H := fun a w hr st => by
  simp only [Bool.and_eq_true] at hc
  have := h ⟨Down.start _ _, hc.1, hc.2⟩ a w.drew hr st.drew
  refine wp_region_any hm (wpAny_of_x (S := St w0 [] []) (m := m) _ _ _ _ ?_)
  simpa using this
/-- a row of the call's own, as a block -/
theorem XK.openOwn (i : Nat) {K : Act → World → Prop} {g n c sz : Nat} {el : TypeId} {xs : List Value} (hi : H[i]? = some (HP.own el sz (.slice (some ⟨g, 0, none⟩) n c) n xs))
    (h : ∀ cs : List Value, cs.length = c * sz → cs.take (n * sz) = xs → n ≤ c → c ≤ maxLen → XK N w0 K e R (H.set i (HP.blk g el cs))) : XK N w0 K e R H := fun a w hr st => by
  obtain ⟨_, h2⟩ := st.own hi
  rcases h2 with ⟨h2, _⟩ | ⟨g', cap, cur, hv, _, hg, hn, hm, hsz, htk⟩
  · cases h2
  · cases hv
    refine h cur.toList (by simpa using hsz) htk hn hm a w hr (st.turn hi (Nat.le_refl _) rfl rfl rfl fun F hF hlt => ⟨F, ⟨hF.1 g rfl, by simpa [Blk] using hg⟩, fun b hb => ⟨.inl hb, hlt b hb⟩, fun _ _ _ => rfl⟩)
theorem XK.closeOwn (i : Nat) {K : Act → World → Prop} {g n c sz : Nat} {el : TypeId} {cs xs : List Value} (hi : H[i]? = some (HP.blk g el cs)) (h1 : cs.length = c * sz) (h2 : cs.take (n * sz) = xs) (hn : n ≤ c) (hm : c ≤ maxLen)
    (h : XK N w0 K e R (H.set i (HP.own el sz (.slice (some ⟨g, 0, none⟩) n c) n xs))) : XK N w0 K e R H := fun a w hr st =>
  h a w hr (st.turn hi (Nat.le_refl _) rfl rfl rfl fun F hF hlt => ⟨F, ⟨fun g' hg' => by simp [Value.ownBlock] at hg'; exact hg' ▸ hF.1, by rw [← h2, List.length_take, h1]; exact Nat.min_eq_left (Nat.mul_le_mul_right _ hn), .inr ⟨g, c, cs.toArray, rfl, Nat.zero_le _, hF.2, hn, hm, by simpa using h1, by simpa using h2⟩⟩, fun b hb => ⟨.inl hb, hlt b hb⟩, fun _ _ _ => rfl⟩)
end
/-- the first k, and the last k, have changed places -/
def RevTo (xs : List Value) (k : Nat) (l : List Value) : Prop := l.length = xs.length ∧ ∀ t, t < xs.length → l[t]? = if t < k ∨ xs.length - k ≤ t then xs[xs.length - 1 - t]? else xs[t]?
theorem RevTo.zero (xs : List Value) : RevTo xs 0 xs := ⟨rfl, fun t ht => by rw [if_neg (by omega)]⟩
theorem RevTo.all {xs l : List Value} {k : Nat} (h : RevTo xs k l) (hk : xs.length ≤ 2 * k + 1) : l = xs.reverse := by
  apply List.ext_getElem?
  intro t
  rcases Nat.lt_or_ge t xs.length with ht | ht
  · rw [h.2 t ht, List.getElem?_reverse ht]
    split
    · rfl
    · congr 1; omega
  · rw [List.getElem?_eq_none (by rw [h.1]; exact ht), List.getElem?_eq_none (by simpa using ht)]
theorem RevTo.next {xs l : List Value} {k : Nat} {u v : Value} (h : RevTo xs k l) (hk : 2 * k + 1 < xs.length) (hu : l[xs.length - 1 - k]? = some u) (hv : l[k]? = some v) : RevTo xs (k + 1) ((l.set k u).set (xs.length - 1 - k) v) := by
  have h1 := h.2 k (by omega)
  have h2 := h.2 (xs.length - 1 - k) (by omega)
  rw [if_neg (by omega), hv] at h1
  rw [if_neg (by omega), hu] at h2
  refine ⟨by simpa using h.1, fun t ht => ?_⟩
  have hl := h.1
  rw [List.getElem?_set, List.getElem?_set]
  by_cases e1 : xs.length - 1 - k = t
  · rw [if_pos e1, if_pos (by simp; omega), if_pos (by omega), show xs.length - 1 - t = k by omega]
    exact h1
  · rw [if_neg e1]
    by_cases e2 : k = t
    · rw [if_pos e2, if_pos (by omega), if_pos (by omega), ← e2]
      exact h2
    · rw [if_neg e2, h.2 t ht]
      by_cases e3 : t < k ∨ xs.length - k ≤ t
      · rw [if_pos e3, if_pos (by omega)]
      · rw [if_neg e3, if_neg (by omega)]
theorem take_set {cs l : List Value} {n k : Nat} {u : Value} (h : cs.take n = l) : (cs.set k u).take n = l.set k u := by rw [← h, List.take_set]
theorem take_get {cs l : List Value} {n k : Nat} {u : Value} (h : cs.take n = l) (hu : l[k]? = some u) : cs[k]? = some u := by
  rw [← h, List.getElem?_take] at hu
  split at hu
  · exact hu
  · cases hu

def CloneOk_clone_int (n : Nat) (xs : List Value) (v : Value) (hs : List HP) (_ : Piece) : Prop := ∃ A c, v = .slice A n c ∧ hs = [HP.own 3 1 (.slice A n c) n xs]
theorem clone_int (A : Option Addr) (n c : Nat) (xs : List Value) (w : World) (hs : SlS (all w) 1 A n xs) (h1 : ∀ u ∈ xs, u.oneCell' = true) (hn : n ≤ 1000000) :
    Calls Try.prog 93 #[.slice A n c] w (fun y w' => (∃ v hs q, y = .returned v ∧ q.w = w' ∧ CloneOk_clone_int n xs v hs q ∧ New w hs q) ∧ Below w.heap.size w w') := by
  refine XK.enter (vs := [.slice A n c]) Try.func93 rfl Try.ntmps93 (by simp) ?_
  refine XK.seq ?_

  refine XK.region ?_
  refine xk_assign rfl (by decide) ?_
  refine XK.nil ?_
  (repeat (first | refine XK.thenN ?_ | refine XK.thenE ?_ | refine XK.thenR ?_ | refine XK.inN ?_ | refine XK.inE ?_ | refine XK.inR ?_ | refine XK.inF rfl ?_))
  refine XK.seq ?_
  refine XK.seq ?_

  refine XK.region ?_
  refine xk_move rfl (by decide) ?_
  refine xk_eqNil (el := 3) (by kernel_rfl) rfl (by decide) ?_
  refine XK.nil ?_
  (repeat (first | refine XK.thenN ?_ | refine XK.thenE ?_ | refine XK.thenR ?_ | refine XK.inN ?_ | refine XK.inE ?_ | refine XK.inR ?_ | refine XK.inF rfl ?_))
  refine XK.cond rfl (fun hA => ?_) (fun hA => ?_)
  ·
    refine XK.seq ?_

    refine XK.region ?_
    refine xk_assign rfl (by decide) ?_
    refine XK.nil ?_
    (repeat (first | refine XK.thenN ?_ | refine XK.thenE ?_ | refine XK.thenR ?_ | refine XK.inN ?_ | refine XK.inE ?_ | refine XK.inR ?_ | refine XK.inF rfl ?_))
    refine XK.ret ?_
    (repeat (first | refine XK.thenN ?_ | refine XK.thenE ?_ | refine XK.thenR ?_ | refine XK.inN ?_ | refine XK.inE ?_ | refine XK.inR ?_ | refine XK.inF rfl ?_))
    have hn0 : n = 0 := by
      rcases Nat.eq_zero_or_pos n with h | h
      · exact h
      · obtain ⟨b, off, rfl, _⟩ := hs.2 h
        cases hA
    subst hn0
    have hx : xs = [] := List.eq_nil_of_length_eq_zero (by simpa using hs.1)
    subst hx
    refine XK.nilrow 3 1 ?_
    refine XK.still [] [] [0] (by simp) rfl (by decide) (by decide) fun q _ _ hfr => ?_
    exact XK.ret1 rfl rfl fun w1 st => ⟨⟨_, _, ⟨w1, q.Z⟩, rfl, rfl, ⟨_, _, rfl, rfl⟩, st.newR (by simp) (by simp) (hfr (by simp) (by simp))⟩, st.below (by simp)⟩
  ·
    refine XK.skip ?_
    (repeat (first | refine XK.thenN ?_ | refine XK.thenE ?_ | refine XK.thenR ?_ | refine XK.inN ?_ | refine XK.inE ?_ | refine XK.inR ?_ | refine XK.inF rfl ?_))
    refine XK.seq ?_

    refine XK.region ?_
    refine xk_slice0 (el := 3) (sz := 1) (by kernel_rfl) (by kernel_rfl) (by decide) fun g => ?_
    refine XK.asOwn 0 1 0 rfl rfl (by omega) ?_
    dsimp only [List.set]
    refine xk_move rfl (by decide) ?_
    refine xk_appendT 0 1 8 n (n' := n) (el := 3) (by kernel_rfl) (by kernel_rfl) (by decide) rfl rfl rfl (sl_ro (by simp) hs) h1 (by omega) (by omega) (by omega) (by decide) fun A' k' => ?_
    dsimp only [List.set, List.nil_append]
    refine xk_assign rfl (by decide) ?_
    refine XK.nil ?_
    (repeat (first | refine XK.thenN ?_ | refine XK.thenE ?_ | refine XK.thenR ?_ | refine XK.inN ?_ | refine XK.inE ?_ | refine XK.inR ?_ | refine XK.inF rfl ?_))
    refine XK.ret ?_
    (repeat (first | refine XK.thenN ?_ | refine XK.thenE ?_ | refine XK.thenR ?_ | refine XK.inN ?_ | refine XK.inE ?_ | refine XK.inR ?_ | refine XK.inF rfl ?_))
    refine XK.still [] [] [0] (by simp) rfl (by decide) (by decide) fun q _ _ hfr => ?_
    exact XK.ret1 rfl rfl fun w1 st => ⟨⟨_, _, ⟨w1, q.Z⟩, rfl, rfl, ⟨_, _, rfl, rfl⟩, st.newR (by simp) (by simp) (hfr (by simp) (by simp))⟩, st.below (by simp)⟩

def CloneOk_clone_bool (n : Nat) (xs : List Value) (v : Value) (hs : List HP) (_ : Piece) : Prop := ∃ A c, v = .slice A n c ∧ hs = [HP.own 4 1 (.slice A n c) n xs]
theorem clone_bool (A : Option Addr) (n c : Nat) (xs : List Value) (w : World) (hs : SlS (all w) 1 A n xs) (h1 : ∀ u ∈ xs, u.oneCell' = true) (hn : n ≤ 1000000) :
    Calls Try.prog 48 #[.slice A n c] w (fun y w' => (∃ v hs q, y = .returned v ∧ q.w = w' ∧ CloneOk_clone_bool n xs v hs q ∧ New w hs q) ∧ Below w.heap.size w w') := by
  refine XK.enter (vs := [.slice A n c]) Try.func48 rfl Try.ntmps48 (by simp) ?_
  refine XK.seq ?_

  refine XK.region ?_
  refine xk_assign rfl (by decide) ?_
  refine XK.nil ?_
  (repeat (first | refine XK.thenN ?_ | refine XK.thenE ?_ | refine XK.thenR ?_ | refine XK.inN ?_ | refine XK.inE ?_ | refine XK.inR ?_ | refine XK.inF rfl ?_))
  refine XK.seq ?_
  refine XK.seq ?_

  refine XK.region ?_
  refine xk_move rfl (by decide) ?_
  refine xk_eqNil (el := 4) (by kernel_rfl) rfl (by decide) ?_
  refine XK.nil ?_
  (repeat (first | refine XK.thenN ?_ | refine XK.thenE ?_ | refine XK.thenR ?_ | refine XK.inN ?_ | refine XK.inE ?_ | refine XK.inR ?_ | refine XK.inF rfl ?_))
  refine XK.cond rfl (fun hA => ?_) (fun hA => ?_)
  ·
    refine XK.seq ?_

    refine XK.region ?_
    refine xk_assign rfl (by decide) ?_
    refine XK.nil ?_
    (repeat (first | refine XK.thenN ?_ | refine XK.thenE ?_ | refine XK.thenR ?_ | refine XK.inN ?_ | refine XK.inE ?_ | refine XK.inR ?_ | refine XK.inF rfl ?_))
    refine XK.ret ?_
    (repeat (first | refine XK.thenN ?_ | refine XK.thenE ?_ | refine XK.thenR ?_ | refine XK.inN ?_ | refine XK.inE ?_ | refine XK.inR ?_ | refine XK.inF rfl ?_))
    have hn0 : n = 0 := by
      rcases Nat.eq_zero_or_pos n with h | h
      · exact h
      · obtain ⟨b, off, rfl, _⟩ := hs.2 h
        cases hA
    subst hn0
    have hx : xs = [] := List.eq_nil_of_length_eq_zero (by simpa using hs.1)
    subst hx
    refine XK.nilrow 4 1 ?_
    refine XK.still [] [] [0] (by simp) rfl (by decide) (by decide) fun q _ _ hfr => ?_
    exact XK.ret1 rfl rfl fun w1 st => ⟨⟨_, _, ⟨w1, q.Z⟩, rfl, rfl, ⟨_, _, rfl, rfl⟩, st.newR (by simp) (by simp) (hfr (by simp) (by simp))⟩, st.below (by simp)⟩
  ·
    refine XK.skip ?_
    (repeat (first | refine XK.thenN ?_ | refine XK.thenE ?_ | refine XK.thenR ?_ | refine XK.inN ?_ | refine XK.inE ?_ | refine XK.inR ?_ | refine XK.inF rfl ?_))
    refine XK.seq ?_

    refine XK.region ?_
    refine xk_slice0 (el := 4) (sz := 1) (by kernel_rfl) (by kernel_rfl) (by decide) fun g => ?_
    refine XK.asOwn 0 1 0 rfl rfl (by omega) ?_
    dsimp only [List.set]
    refine xk_move rfl (by decide) ?_
    refine xk_appendT 0 1 1 n (n' := n) (el := 4) (by kernel_rfl) (by kernel_rfl) (by decide) rfl rfl rfl (sl_ro (by simp) hs) h1 (by omega) (by omega) (by omega) (by decide) fun A' k' => ?_
    dsimp only [List.set, List.nil_append]
    refine xk_assign rfl (by decide) ?_
    refine XK.nil ?_
    (repeat (first | refine XK.thenN ?_ | refine XK.thenE ?_ | refine XK.thenR ?_ | refine XK.inN ?_ | refine XK.inE ?_ | refine XK.inR ?_ | refine XK.inF rfl ?_))
    refine XK.ret ?_
    (repeat (first | refine XK.thenN ?_ | refine XK.thenE ?_ | refine XK.thenR ?_ | refine XK.inN ?_ | refine XK.inE ?_ | refine XK.inR ?_ | refine XK.inF rfl ?_))
    refine XK.still [] [] [0] (by simp) rfl (by decide) (by decide) fun q _ _ hfr => ?_
    exact XK.ret1 rfl rfl fun w1 st => ⟨⟨_, _, ⟨w1, q.Z⟩, rfl, rfl, ⟨_, _, rfl, rfl⟩, st.newR (by simp) (by simp) (hfr (by simp) (by simp))⟩, st.below (by simp)⟩

theorem reverse_int (A : Option Addr) (n c : Nat) (xs : List Value) (w : World) (F : Nat → Prop) (hp : (HP.own 3 1 (.slice A n c) n xs).sat F w) (hF : ∀ b, F b → b < w.heap.size) (h1 : ∀ u ∈ xs, u.oneCell' = true) (hn : xs.length = n) (hn2 : n ≤ 1000000) (hA : 0 < n → ∃ g, A = some ⟨g, 0, none⟩) :
    Calls Try.prog 94 #[.slice A n c] w (fun y w' => y = .returned (.tuple #[]) ∧ ∃ F', (HP.own 3 1 (.slice A n c) n xs.reverse).sat F' w' ∧ Turns w w' F F') := by
  refine XK.enterM (p := HP.own 3 1 (.slice A n c) n xs) (F := F) (vs := [.slice A n c]) Try.func94 rfl Try.ntmps94 (by simp) hp hF ?_
  refine XK.seq ?_

  refine XK.region ?_
  refine xk_move rfl (by decide) ?_
  refine xk_len (el := 3) (by kernel_rfl) rfl (by decide) ?_
  refine xk_sub rfl rfl (wrap_in (by omega)) (by decide) ?_
  refine xk_assign rfl (by decide) ?_
  refine xk_assign rfl (by decide) ?_
  refine XK.nil ?_
  (repeat (first | refine XK.thenN ?_ | refine XK.thenE ?_ | refine XK.thenR ?_ | refine XK.inN ?_ | refine XK.inE ?_ | refine XK.inR ?_ | refine XK.inF rfl ?_))
  refine XK.env [(3, .int .i64 ((n : Int) - 1)), (2, .int .i64 0), (0, .slice A n c)] ⟨rfl, rfl, rfl, trivial⟩ ?_
  refine XK.block ?_
  refine XK.loop (fun m e R H => ∃ (k : Nat) (l : List Value), m = n - k ∧ 2 * k ≤ n ∧ RevTo xs k l ∧ e = [(3, .int .i64 ((n : Int) - 1 - k)), (2, .int .i64 k), (0, .slice A n c)] ∧ R = [⟨w, fun b => b < w.heap.size ∧ ¬ F b⟩] ∧ H = [HP.own 3 1 (.slice A n c) n l]) n ⟨0, xs, by omega, by omega, .zero xs, by simp, rfl, rfl⟩ fun m e R H hI => ?_
  obtain ⟨k, l, rfl, hk, hl, rfl, rfl, rfl⟩ := hI
  refine XK.seq ?_
  refine XK.seq ?_

  refine XK.region ?_
  refine xk_move rfl (by decide) ?_
  refine xk_move rfl (by decide) ?_
  refine xk_lss rfl rfl (by decide) ?_
  refine XK.nil ?_
  (repeat (first | refine XK.thenN ?_ | refine XK.thenE ?_ | refine XK.thenR ?_ | refine XK.inN ?_ | refine XK.inE ?_ | refine XK.inR ?_ | refine XK.inF rfl ?_))
  refine XK.if_ rfl (fun h => ?_) (fun h => ?_)
  ·
    refine XK.skip ?_
    (repeat (first | refine XK.thenN ?_ | refine XK.thenE ?_ | refine XK.thenR ?_ | refine XK.inN ?_ | refine XK.inE ?_ | refine XK.inR ?_ | refine XK.inF rfl ?_))
    refine XK.seq ?_
    have h' : (k : Int) < (n : Int) - 1 - k := h
    have hln := hl.1
    obtain ⟨g, rfl⟩ : ∃ g, A = some ⟨g, 0, none⟩ := hA (by omega)
    obtain ⟨u, hu⟩ : ∃ u, l[xs.length - 1 - k]? = some u := ⟨_, List.getElem?_eq_getElem (by omega)⟩
    obtain ⟨v, hv⟩ : ∃ u, l[k]? = some u := ⟨_, List.getElem?_eq_getElem (by omega)⟩
    have hou : u.oneCell' = true := by
      have := hl.2 _ (by omega : xs.length - 1 - k < xs.length); rw [hu] at this
      split at this <;> exact h1 _ (List.mem_of_getElem? this.symm)
    have hov : v.oneCell' = true := by
      have := hl.2 _ (by omega : k < xs.length); rw [hv] at this
      split at this <;> exact h1 _ (List.mem_of_getElem? this.symm)
    refine XK.openOwn 0 rfl fun cs hc1 hc2 hc3 hc4 => ?_
    dsimp only [List.set]
    rw [Nat.mul_one] at hc1 hc2
    have hcu := take_get hc2 hu
    have hcv := take_get hc2 hv
    refine XK.block ?_

    refine XK.draw0 16 (by kernel_rfl) (by kernel_rfl) ?_
    refine XA.do_ 0 rfl rfl rfl (by decide) (does_move rfl) (by kernel_rfl) (fun _ _ _ h => h) (fun _ h => h.bare) ?_
    refine XA.do_ 1 rfl rfl rfl (by decide) (does_move rfl) (by kernel_rfl) (fun _ _ _ h => h) (fun _ h => h.bare) ?_
    refine XA.do_ 2 rfl rfl rfl (by decide) (does_move rfl) (by kernel_rfl) (fun _ _ _ h => h) (fun _ h => h.bare) ?_
    refine XA.do_ 3 rfl rfl rfl (by decide) (does_move rfl) (by kernel_rfl) (fun _ _ _ h => h) (fun _ h => h.bare) ?_
    refine XA.do_ 4 rfl rfl rfl (by decide) (does_move rfl) (by kernel_rfl) (fun _ _ _ h => h) (fun _ h => h.bare) ?_
    refine XA.do_ 5 rfl rfl rfl (by decide) (does_move rfl) (by kernel_rfl) (fun _ _ _ h => h) (fun _ h => h.bare) ?_
    refine XA.do_ 8 rfl rfl rfl (by decide) (does_move rfl) (by kernel_rfl) (fun _ _ _ h => h) (fun _ h => h.bare) ?_
    refine XA.do_ 9 rfl rfl rfl (by decide) (does_move rfl) (by kernel_rfl) (fun _ _ _ h => h) (fun _ h => h.bare) ?_
    refine XA.do_ 6 rfl rfl rfl (by decide) (does_at (n - 1 - k) (n - 1 - k) (el := 3) (sz := 1) (by kernel_rfl) (by kernel_rfl) rfl rfl (by omega) (by omega) (by omega)) (by kernel_rfl) (fun _ _ _ h => h) (fun _ h => h.bare) ?_
    refine XA.do_ 10 rfl rfl rfl (by decide) (does_at (k) (k) (el := 3) (sz := 1) (by kernel_rfl) (by kernel_rfl) rfl rfl (by omega) (by omega) (by omega)) (by kernel_rfl) (fun _ _ _ h => h) (fun _ h => h.bare) ?_
    refine XA.either 7 11 rfl rfl (by kernel_rfl) ?_ ?_
    · refine xk_load (by kernel_rfl) rfl (Rd.blk 0 rfl (by rw [← hn]; exact hcu)) (by decide) ?_
      refine XK.nil ?_; refine XK.thenN ?_; refine XA.back (fun _ h => h.bare) ?_
      refine XA.next 11 rfl (by kernel_rfl) ?_
      refine xk_load (by kernel_rfl) rfl (Rd.blk 0 rfl hcv) (by decide) ?_
      refine XK.nil ?_; refine XK.thenN ?_; refine XA.back (fun _ h => h.bare) ?_
      refine XA.next 12 rfl (by kernel_rfl) ?_
      refine xk_at (k) (k) (el := 3) (sz := 1) (by kernel_rfl) (by kernel_rfl) rfl rfl (by omega) (by omega) (by omega) (by decide) ?_
      refine XK.nil ?_; refine XK.thenN ?_; refine XA.back (fun _ h => h.bare) ?_
      refine XA.next 13 rfl (by kernel_rfl) ?_
      refine xk_store 0 rfl (by kernel_rfl) rfl rfl hou (by omega) ?_; dsimp only [List.set]
      refine XK.nil ?_; refine XK.thenN ?_; refine XA.back (fun _ h => h.bare) ?_
      refine XA.next 14 rfl (by kernel_rfl) ?_
      refine xk_at (n - 1 - k) (n - 1 - k) (el := 3) (sz := 1) (by kernel_rfl) (by kernel_rfl) rfl rfl (by omega) (by omega) (by omega) (by decide) ?_
      refine XK.nil ?_; refine XK.thenN ?_; refine XA.back (fun _ h => h.bare) ?_
      refine XA.next 15 rfl (by kernel_rfl) ?_
      refine xk_store 0 rfl (by kernel_rfl) rfl rfl hov (by simp; omega) ?_; dsimp only [List.set]
      refine XK.nil ?_; refine XK.thenN ?_; refine XA.back (fun _ h => h.bare) ?_
      refine XA.done (by kernel_rfl) ?_
      (repeat (first | refine XK.thenN ?_ | refine XK.thenE ?_ | refine XK.thenR ?_ | refine XK.inN ?_ | refine XK.inE ?_ | refine XK.inR ?_ | refine XK.inF rfl ?_))

      refine XK.region ?_
      refine xk_move rfl (by decide) ?_
      refine xk_add rfl rfl (wrap_in (by omega)) (by decide) ?_
      refine xk_move rfl (by decide) ?_
      refine xk_sub rfl rfl (wrap_in (by omega)) (by decide) ?_
      refine xk_assign rfl (by decide) ?_
      refine xk_assign rfl (by decide) ?_
      refine XK.nil ?_
      (repeat (first | refine XK.thenN ?_ | refine XK.thenE ?_ | refine XK.thenR ?_ | refine XK.inN ?_ | refine XK.inE ?_ | refine XK.inR ?_ | refine XK.inF rfl ?_))
      refine XK.closeOwn 0 (n := n) (c := c) (sz := 1) (xs := (l.set k u).set (xs.length - 1 - k) v) rfl (by simp; omega) (by rw [Nat.mul_one, hn]; exact take_set (take_set hc2)) hc3 hc4 ?_
      dsimp only [List.set]
      exact XK.env [(3, .int .i64 ((n : Int) - 1 - k - 1)), (2, .int .i64 ((k : Int) + 1)), (0, .slice (some ⟨g, 0, none⟩) n c)] ⟨rfl, rfl, rfl, trivial⟩ (XK.round (n - (k + 1)) (by omega) ⟨k + 1, _, rfl, by omega, hl.next (by omega) hu hv, (by rw [show (n : Int) - 1 - k - 1 = (n : Int) - 1 - ((k + 1 : Nat) : Int) by omega]; rfl), rfl, rfl⟩)
    · refine xk_load (by kernel_rfl) rfl (Rd.blk 0 rfl hcv) (by decide) ?_
      refine XK.nil ?_; refine XK.thenN ?_; refine XA.back (fun _ h => h.bare) ?_
      refine XA.next 7 rfl (by kernel_rfl) ?_
      refine xk_load (by kernel_rfl) rfl (Rd.blk 0 rfl (by rw [← hn]; exact hcu)) (by decide) ?_
      refine XK.nil ?_; refine XK.thenN ?_; refine XA.back (fun _ h => h.bare) ?_
      refine XA.next 12 rfl (by kernel_rfl) ?_
      refine xk_at (k) (k) (el := 3) (sz := 1) (by kernel_rfl) (by kernel_rfl) rfl rfl (by omega) (by omega) (by omega) (by decide) ?_
      refine XK.nil ?_; refine XK.thenN ?_; refine XA.back (fun _ h => h.bare) ?_
      refine XA.next 13 rfl (by kernel_rfl) ?_
      refine xk_store 0 rfl (by kernel_rfl) rfl rfl hou (by omega) ?_; dsimp only [List.set]
      refine XK.nil ?_; refine XK.thenN ?_; refine XA.back (fun _ h => h.bare) ?_
      refine XA.next 14 rfl (by kernel_rfl) ?_
      refine xk_at (n - 1 - k) (n - 1 - k) (el := 3) (sz := 1) (by kernel_rfl) (by kernel_rfl) rfl rfl (by omega) (by omega) (by omega) (by decide) ?_
      refine XK.nil ?_; refine XK.thenN ?_; refine XA.back (fun _ h => h.bare) ?_
      refine XA.next 15 rfl (by kernel_rfl) ?_
      refine xk_store 0 rfl (by kernel_rfl) rfl rfl hov (by simp; omega) ?_; dsimp only [List.set]
      refine XK.nil ?_; refine XK.thenN ?_; refine XA.back (fun _ h => h.bare) ?_
      refine XA.done (by kernel_rfl) ?_
      (repeat (first | refine XK.thenN ?_ | refine XK.thenE ?_ | refine XK.thenR ?_ | refine XK.inN ?_ | refine XK.inE ?_ | refine XK.inR ?_ | refine XK.inF rfl ?_))

      refine XK.region ?_
      refine xk_move rfl (by decide) ?_
      refine xk_add rfl rfl (wrap_in (by omega)) (by decide) ?_
      refine xk_move rfl (by decide) ?_
      refine xk_sub rfl rfl (wrap_in (by omega)) (by decide) ?_
      refine xk_assign rfl (by decide) ?_
      refine xk_assign rfl (by decide) ?_
      refine XK.nil ?_
      (repeat (first | refine XK.thenN ?_ | refine XK.thenE ?_ | refine XK.thenR ?_ | refine XK.inN ?_ | refine XK.inE ?_ | refine XK.inR ?_ | refine XK.inF rfl ?_))
      refine XK.closeOwn 0 (n := n) (c := c) (sz := 1) (xs := (l.set k u).set (xs.length - 1 - k) v) rfl (by simp; omega) (by rw [Nat.mul_one, hn]; exact take_set (take_set hc2)) hc3 hc4 ?_
      dsimp only [List.set]
      exact XK.env [(3, .int .i64 ((n : Int) - 1 - k - 1)), (2, .int .i64 ((k : Int) + 1)), (0, .slice (some ⟨g, 0, none⟩) n c)] ⟨rfl, rfl, rfl, trivial⟩ (XK.round (n - (k + 1)) (by omega) ⟨k + 1, _, rfl, by omega, hl.next (by omega) hu hv, (by rw [show (n : Int) - 1 - k - 1 = (n : Int) - 1 - ((k + 1 : Nat) : Int) by omega]; rfl), rfl, rfl⟩)

  ·
    refine XK.exit ?_
    (repeat (first | refine XK.thenN ?_ | refine XK.thenE ?_ | refine XK.thenR ?_ | refine XK.inN ?_ | refine XK.inE ?_ | refine XK.inR ?_ | refine XK.inF rfl ?_))
    have h' : ¬ (k : Int) < (n : Int) - 1 - k := h
    have := hl.all (by omega)
    subst this
    exact XK.ret0 (.inr rfl) rfl fun w1 st => ⟨rfl, st.turns hF (by simp) (i := 0) rfl⟩

end Go.Proofs.Ytbgibbbggajgaaa
