/- slices: Clone, Reverse. -/
import Derived.Laws.Cover3
import Derived.Laws.StructEq
import Derived.Test.YtbgibbbggajgaaaGreatPlanTellsK2
namespace Go.Proofs.YtbgibbbggajgaaaGreat
set_option linter.all false
open Go.RowKit
section
variable {P : Program} {N : Nat} {w0 : World} {e : Env} {R : List Piece} {H : List HP} {Q : Exit → Act → World → Prop} {ops : Array Oper} {rest : List Oper}
variable {d : Nat} {ty : TypeId} {pos : String} {aft : Array Edge}
theorem xk_eqNil {x : Operand} {t el u : TypeId} {A : Option Addr} {n c : Nat} (ht : P.underlying t = some (.slice el)) (hx : e.ev x = some (.slice A n c)) (hd : d < N)
    (k : XK N w0 (wpList P ops Q rest) ((d, .bool A.isNone) :: e) R H) : XK N w0 (wpList P ops Q (⟨some d, .binOp .eql t x (.const (.slice none 0 0)) u, ty, pos, aft, none⟩ :: rest)) e R H :=
  xk_pure hd (fun a w hr => by
    have h1 := hr.ev hx
    have h2 := hr.ev (show e.ev (.const (.slice none 0 0)) = some (.slice none 0 0) from rfl)
    simp [execOp, h1, h2, eqGuard, binOp, run_equal_slice_nil _ t el A n c ht]) k
theorem xk_slice0 {t el : TypeId} {sz : Nat} (ht : P.underlying t = some (.slice el)) (hsz : (P.info? el).map (·.size) = some sz) (hd : d < N)
    (k : ∀ g, XK N w0 (wpList P ops Q rest) ((d, .slice (some ⟨g, 0, none⟩) 0 0) :: e) R (HP.blk g el [] :: H)) : XK N w0 (wpList P ops Q (⟨some d, .buildSlice t 0 #[], ty, pos, aft, none⟩ :: rest)) e R H :=
  xk_buildSlice (ps := []) (vs := []) rfl (fun w => by
    obtain ⟨i, hi, hs⟩ := Option.map_eq_some_iff.1 hsz
    simp [Instr.buildSlice, Sem.run_bind, run_underlying ht, Result.andThen_ok, sizeOf, typeInfo, hi, newRow, Instr.fill]
    congr 2
    exact Array.eq_empty_of_size_eq_zero (by simp)) hd k
theorem St.bare {w : World} (h : St w0 R H w) : St w0 [] [] w := h.weak (fun _ hp => by cases hp) id (fun _ _ _ _ h => h) (fun i p hi => by simp at hi)
/-- .. where what is taken first asks nothing of memory -/
theorem XK.draw0 (m : Nat) {id : Nat} {l : List Oper} (hm : P.follows .mixedOrders = true) (hc : (Region.noSelect l.toArray && tlB l.toArray m) = true) (h : XA P N w0 l.toArray Q [] [] m l.length (Array.replicate l.length false) e R H) : XK N w0 ((Code.region id l.toArray true).wp P Q) e R H := fun a w hr st => by
  simp only [Bool.and_eq_true] at hc
  have := h ⟨Down.start _ _, hc.1, hc.2⟩ a w.drew hr st.drew
  refine wp_region_any hm (wpAny_of_x (S := St w0 [] []) (m := m) _ _ _ _ ?_)
  simpa using this
/-- a row of the call's own, as a block -/
theorem XK.openOwn (i : Nat) {K : Act → World → Prop} {g n c sz : Nat} {el : TypeId} {xs : List Value} (hi : H[i]? = some (HP.own el sz (.slice (some ⟨g, 0, none⟩) n c) n xs))
    (h : ∀ cs : List Value, cs.length = c * sz → cs.take (n * sz) = xs → n ≤ c → c ≤ maxLen → XK N w0 K e R (H.set i (HP.blk g el cs))) : XK N w0 K e R H := fun a w hr st => by
  obtain ⟨_, h2⟩ := st.own hi
  rcases h2 with ⟨h2, _⟩ | ⟨g', cap, cur, hv, _, hg, hn, hm, hsz, htk⟩
  · cases h2
  · cases hv
    refine h cur.toList (by simpa using hsz) htk hn hm a w hr (st.turn hi (Nat.le_refl _) rfl rfl rfl fun F hF hlt => ⟨F, ⟨hF.1 g rfl, by simpa [Blk] using hg⟩, fun b hb => ⟨.inl hb, hlt b hb⟩, fun _ _ _ => rfl⟩)
theorem XK.closeOwn (i : Nat) {K : Act → World → Prop} {g n c sz : Nat} {el : TypeId} {cs xs : List Value} (hi : H[i]? = some (HP.blk g el cs)) (h1 : cs.length = c * sz) (h2 : cs.take (n * sz) = xs) (hn : n ≤ c) (hm : c ≤ maxLen)
    (h : XK N w0 K e R (H.set i (HP.own el sz (.slice (some ⟨g, 0, none⟩) n c) n xs))) : XK N w0 K e R H := fun a w hr st =>
  h a w hr (st.turn hi (Nat.le_refl _) rfl rfl rfl fun F hF hlt => ⟨F, ⟨fun g' hg' => by simp [Value.ownBlock] at hg'; exact hg' ▸ hF.1, by rw [← h2, List.length_take, h1]; exact Nat.min_eq_left (Nat.mul_le_mul_right _ hn), .inr ⟨g, c, cs.toArray, rfl, Nat.zero_le _, hF.2, hn, hm, by simpa using h1, by simpa using h2⟩⟩, fun b hb => ⟨.inl hb, hlt b hb⟩, fun _ _ _ => rfl⟩)
end
/-- the first k, and the last k, have changed places -/
def RevTo (xs : List Value) (k : Nat) (l : List Value) : Prop := l.length = xs.length ∧ ∀ t, t < xs.length → l[t]? = if t < k ∨ xs.length - k ≤ t then xs[xs.length - 1 - t]? else xs[t]?
theorem RevTo.zero (xs : List Value) : RevTo xs 0 xs := ⟨rfl, fun t ht => by rw [if_neg (by omega)]⟩
theorem RevTo.all {xs l : List Value} {k : Nat} (h : RevTo xs k l) (hk : xs.length ≤ 2 * k + 1) : l = xs.reverse := by
  apply List.ext_getElem?
  intro t
  rcases Nat.lt_or_ge t xs.length with ht | ht
  · rw [h.2 t ht, List.getElem?_reverse ht]
    split
    · rfl
    · congr 1; omega
  · rw [List.getElem?_eq_none (by rw [h.1]; exact ht), List.getElem?_eq_none (by simpa using ht)]
theorem RevTo.next {xs l : List Value} {k : Nat} {u v : Value} (h : RevTo xs k l) (hk : 2 * k + 1 < xs.length) (hu : l[xs.length - 1 - k]? = some u) (hv : l[k]? = some v) : RevTo xs (k + 1) ((l.set k u).set (xs.length - 1 - k) v) := by
  have h1 := h.2 k (by omega)
  have h2 := h.2 (xs.length - 1 - k) (by omega)
  rw [if_neg (by omega), hv] at h1
  rw [if_neg (by omega), hu] at h2
  refine ⟨by simpa using h.1, fun t ht => ?_⟩
  have hl := h.1
  rw [List.getElem?_set, List.getElem?_set]
  by_cases e1 : xs.length - 1 - k = t
  · rw [if_pos e1, if_pos (by simp; omega), if_pos (by omega), show xs.length - 1 - t = k by omega]
    exact h1
  · rw [if_neg e1]
    by_cases e2 : k = t
    · rw [if_pos e2, if_pos (by omega), if_pos (by omega), ← e2]
      exact h2
    · rw [if_neg e2, h.2 t ht]
      by_cases e3 : t < k ∨ xs.length - k ≤ t
      · rw [if_pos e3, if_pos (by omega)]
      · rw [if_neg e3, if_neg (by omega)]
theorem take_set {cs l : List Value} {n k : Nat} {u : Value} (h : cs.take n = l) : (cs.set k u).take n = l.set k u := by rw [← h, List.take_set]
theorem take_get {cs l : List Value} {n k : Nat} {u : Value} (h : cs.take n = l) (hu : l[k]? = some u) : cs[k]? = some u := by
  rw [← h, List.getElem?_take] at hu
  split at hu
  · exact hu
  · cases hu

def CloneOk_clone_int (n : Nat) (xs : List Value) (v : Value) (hs : List HP) (_ : Piece) : Prop := ∃ A c, v = .slice A n c ∧ hs = [HP.own 3 1 (.slice A n c) n xs]
theorem clone_int (A : Option Addr) (n c : Nat) (xs : List Value) (w : World) (hs : SlS (all w) 1 A n xs) (h1 : ∀ u ∈ xs, u.oneCell' = true) (hn : n ≤ 1000000) :
    Calls Tryz.prog 105 #[.slice A n c] w (fun y w' => (∃ v hs q, y = .returned v ∧ q.w = w' ∧ CloneOk_clone_int n xs v hs q ∧ New w hs q) ∧ Below w.heap.size w w') := by
  refine XK.enter (vs := [.slice A n c]) Tryz.func105 rfl Tryz.ntmps105 (by simp) ?_
  refine XK.seq ?_

  refine XK.region ?_
  refine xk_assign rfl (by decide) ?_
  refine XK.nilN ?_
  refine XK.seq ?_
  refine XK.seq ?_

  refine XK.region ?_
  refine xk_move rfl (by decide) ?_
  refine xk_eqNil (el := 3) (by kernel_rfl) rfl (by decide) ?_
  refine XK.nilN ?_
  refine XK.cond rfl (fun hA => ?_) (fun hA => ?_)
  ·
    refine XK.seq ?_

    refine XK.region ?_
    refine xk_assign rfl (by decide) ?_
    refine XK.nilN ?_
    refine XK.ret ?_
    refine XK.norm ?_
    have hn0 : n = 0 := by
      rcases Nat.eq_zero_or_pos n with h | h
      · exact h
      · obtain ⟨b, off, rfl, _⟩ := hs.2 h
        cases hA
    subst hn0
    have hx : xs = [] := List.eq_nil_of_length_eq_zero (by simpa using hs.1)
    subst hx
    refine XK.nilrow 3 1 ?_
    refine XK.still [] [] [0] (by simp) rfl (by decide) (by decide) fun q _ _ hfr => ?_
    exact XK.ret1 rfl rfl fun w1 st => ⟨⟨_, _, ⟨w1, q.Z⟩, rfl, rfl, ⟨_, _, rfl, rfl⟩, st.newR (by simp) (by simp) (hfr (by simp) (by simp))⟩, st.below (by simp)⟩
  ·
    refine XK.skip ?_
    refine XK.norm ?_
    refine XK.seq ?_

    refine XK.region ?_
    refine xk_slice0 (el := 3) (sz := 1) (by kernel_rfl) (by kernel_rfl) (by decide) fun g => ?_
    refine XK.asOwn 0 1 0 rfl rfl (by omega) ?_
    dsimp only [List.set]
    refine xk_move rfl (by decide) ?_
    refine xk_appendT 0 1 8 n (n' := n) (el := 3) (by kernel_rfl) (by kernel_rfl) (by decide) rfl rfl rfl (sl_ro (by simp) hs) h1 (by omega) (by omega) (by omega) (by decide) fun A' k' => ?_
    dsimp only [List.set, List.nil_append]
    refine xk_assign rfl (by decide) ?_
    refine XK.nilN ?_
    refine XK.ret ?_
    refine XK.norm ?_
    refine XK.still [] [] [0] (by simp) rfl (by decide) (by decide) fun q _ _ hfr => ?_
    exact XK.ret1 rfl rfl fun w1 st => ⟨⟨_, _, ⟨w1, q.Z⟩, rfl, rfl, ⟨_, _, rfl, rfl⟩, st.newR (by simp) (by simp) (hfr (by simp) (by simp))⟩, st.below (by simp)⟩

def CloneOk_clone_bool (n : Nat) (xs : List Value) (v : Value) (hs : List HP) (_ : Piece) : Prop := ∃ A c, v = .slice A n c ∧ hs = [HP.own 4 1 (.slice A n c) n xs]
theorem clone_bool (A : Option Addr) (n c : Nat) (xs : List Value) (w : World) (hs : SlS (all w) 1 A n xs) (h1 : ∀ u ∈ xs, u.oneCell' = true) (hn : n ≤ 1000000) :
    Calls Tryz.prog 62 #[.slice A n c] w (fun y w' => (∃ v hs q, y = .returned v ∧ q.w = w' ∧ CloneOk_clone_bool n xs v hs q ∧ New w hs q) ∧ Below w.heap.size w w') := by
  refine XK.enter (vs := [.slice A n c]) Tryz.func62 rfl Tryz.ntmps62 (by simp) ?_
  refine XK.seq ?_

  refine XK.region ?_
  refine xk_assign rfl (by decide) ?_
  refine XK.nilN ?_
  refine XK.seq ?_
  refine XK.seq ?_

  refine XK.region ?_
  refine xk_move rfl (by decide) ?_
  refine xk_eqNil (el := 4) (by kernel_rfl) rfl (by decide) ?_
  refine XK.nilN ?_
  refine XK.cond rfl (fun hA => ?_) (fun hA => ?_)
  ·
    refine XK.seq ?_

    refine XK.region ?_
    refine xk_assign rfl (by decide) ?_
    refine XK.nilN ?_
    refine XK.ret ?_
    refine XK.norm ?_
    have hn0 : n = 0 := by
      rcases Nat.eq_zero_or_pos n with h | h
      · exact h
      · obtain ⟨b, off, rfl, _⟩ := hs.2 h
        cases hA
    subst hn0
    have hx : xs = [] := List.eq_nil_of_length_eq_zero (by simpa using hs.1)
    subst hx
    refine XK.nilrow 4 1 ?_
    refine XK.still [] [] [0] (by simp) rfl (by decide) (by decide) fun q _ _ hfr => ?_
    exact XK.ret1 rfl rfl fun w1 st => ⟨⟨_, _, ⟨w1, q.Z⟩, rfl, rfl, ⟨_, _, rfl, rfl⟩, st.newR (by simp) (by simp) (hfr (by simp) (by simp))⟩, st.below (by simp)⟩
  ·
    refine XK.skip ?_
    refine XK.norm ?_
    refine XK.seq ?_

    refine XK.region ?_
    refine xk_slice0 (el := 4) (sz := 1) (by kernel_rfl) (by kernel_rfl) (by decide) fun g => ?_
    refine XK.asOwn 0 1 0 rfl rfl (by omega) ?_
    dsimp only [List.set]
    refine xk_move rfl (by decide) ?_
    refine xk_appendT 0 1 1 n (n' := n) (el := 4) (by kernel_rfl) (by kernel_rfl) (by decide) rfl rfl rfl (sl_ro (by simp) hs) h1 (by omega) (by omega) (by omega) (by decide) fun A' k' => ?_
    dsimp only [List.set, List.nil_append]
    refine xk_assign rfl (by decide) ?_
    refine XK.nilN ?_
    refine XK.ret ?_
    refine XK.norm ?_
    refine XK.still [] [] [0] (by simp) rfl (by decide) (by decide) fun q _ _ hfr => ?_
    exact XK.ret1 rfl rfl fun w1 st => ⟨⟨_, _, ⟨w1, q.Z⟩, rfl, rfl, ⟨_, _, rfl, rfl⟩, st.newR (by simp) (by simp) (hfr (by simp) (by simp))⟩, st.below (by simp)⟩

theorem reverse_int (A : Option Addr) (n c : Nat) (xs : List Value) (w : World) (F : Nat → Prop) (hp : (HP.own 3 1 (.slice A n c) n xs).sat F w) (hF : ∀ b, F b → b < w.heap.size) (h1 : ∀ u ∈ xs, u.oneCell' = true) (hn : xs.length = n) (hn2 : n ≤ 1000000) (hA : 0 < n → ∃ g, A = some ⟨g, 0, none⟩) :
    Calls Tryz.prog 106 #[.slice A n c] w (fun y w' => y = .returned (.tuple #[]) ∧ ∃ F', (HP.own 3 1 (.slice A n c) n xs.reverse).sat F' w' ∧ Turns w w' F F') := by
  refine XK.enterM (p := HP.own 3 1 (.slice A n c) n xs) (F := F) (vs := [.slice A n c]) Tryz.func106 rfl Tryz.ntmps106 (by simp) hp hF ?_
  refine XK.seq ?_

  refine XK.region ?_
  refine xk_move rfl (by decide) ?_
  refine xk_len (el := 3) (by kernel_rfl) rfl (by decide) ?_
  refine xk_sub rfl rfl (wrap_in (by omega)) (by decide) ?_
  refine xk_assign rfl (by decide) ?_
  refine xk_assign rfl (by decide) ?_
  refine XK.nilN ?_
  refine XK.envS [(3, .int .i64 ((n : Int) - 1)), (2, .int .i64 0), (0, .slice A n c)] ?_
  refine XK.block ?_
  refine XK.loop (fun m e R H => ∃ (k : Nat) (l : List Value), m = n - k ∧ 2 * k ≤ n ∧ RevTo xs k l ∧ e = [(3, .int .i64 ((n : Int) - 1 - k)), (2, .int .i64 k), (0, .slice A n c)] ∧ R = [⟨w, fun b => b < w.heap.size ∧ ¬ F b⟩] ∧ H = [HP.own 3 1 (.slice A n c) n l]) n ⟨0, xs, by omega, by omega, .zero xs, by simp, rfl, rfl⟩ fun m e R H hI => ?_
  obtain ⟨k, l, rfl, hk, hl, rfl, rfl, rfl⟩ := hI
  refine XK.seq ?_
  refine XK.seq ?_

  refine XK.region ?_
  refine xk_move rfl (by decide) ?_
  refine xk_move rfl (by decide) ?_
  refine xk_lss rfl rfl (by decide) ?_
  refine XK.nilN ?_
  refine XK.if_ rfl (fun h => ?_) (fun h => ?_)
  ·
    refine XK.skip ?_
    refine XK.norm ?_
    refine XK.seq ?_
    have h' : (k : Int) < (n : Int) - 1 - k := h
    have hln := hl.1
    obtain ⟨g, rfl⟩ : ∃ g, A = some ⟨g, 0, none⟩ := hA (by omega)
    obtain ⟨u, hu⟩ : ∃ u, l[xs.length - 1 - k]? = some u := ⟨_, List.getElem?_eq_getElem (by omega)⟩
    obtain ⟨v, hv⟩ : ∃ u, l[k]? = some u := ⟨_, List.getElem?_eq_getElem (by omega)⟩
    have hou : u.oneCell' = true := by
      have := hl.2 _ (by omega : xs.length - 1 - k < xs.length); rw [hu] at this
      split at this <;> exact h1 _ (List.mem_of_getElem? this.symm)
    have hov : v.oneCell' = true := by
      have := hl.2 _ (by omega : k < xs.length); rw [hv] at this
      split at this <;> exact h1 _ (List.mem_of_getElem? this.symm)
    refine XK.openOwn 0 rfl fun cs hc1 hc2 hc3 hc4 => ?_
    dsimp only [List.set]
    rw [Nat.mul_one] at hc1 hc2
    have hcu := take_get hc2 hu
    have hcv := take_get hc2 hv
    refine XK.block ?_

    refine XK.draw0 16 (by kernel_rfl) (by kernel_rfl) ?_
    refine XA.do_ 0 rfl rfl rfl (by decide) (does_move rfl) (by kernel_rfl) (fun _ _ _ h => h) (fun _ h => h.bare) ?_
    refine XA.do_ 1 rfl rfl rfl (by decide) (does_move rfl) (by kernel_rfl) (fun _ _ _ h => h) (fun _ h => h.bare) ?_
    refine XA.do_ 2 rfl rfl rfl (by decide) (does_move rfl) (by kernel_rfl) (fun _ _ _ h => h) (fun _ h => h.bare) ?_
    refine XA.do_ 3 rfl rfl rfl (by decide) (does_move rfl) (by kernel_rfl) (fun _ _ _ h => h) (fun _ h => h.bare) ?_
    refine XA.do_ 4 rfl rfl rfl (by decide) (does_move rfl) (by kernel_rfl) (fun _ _ _ h => h) (fun _ h => h.bare) ?_
    refine XA.do_ 5 rfl rfl rfl (by decide) (does_move rfl) (by kernel_rfl) (fun _ _ _ h => h) (fun _ h => h.bare) ?_
    refine XA.do_ 8 rfl rfl rfl (by decide) (does_move rfl) (by kernel_rfl) (fun _ _ _ h => h) (fun _ h => h.bare) ?_
    refine XA.do_ 9 rfl rfl rfl (by decide) (does_move rfl) (by kernel_rfl) (fun _ _ _ h => h) (fun _ h => h.bare) ?_
    refine XA.do_ 6 rfl rfl rfl (by decide) (does_at (n - 1 - k) (n - 1 - k) (el := 3) (sz := 1) (by kernel_rfl) (by kernel_rfl) rfl rfl (by omega) (by omega) (by omega)) (by kernel_rfl) (fun _ _ _ h => h) (fun _ h => h.bare) ?_
    refine XA.do_ 10 rfl rfl rfl (by decide) (does_at (k) (k) (el := 3) (sz := 1) (by kernel_rfl) (by kernel_rfl) rfl rfl (by omega) (by omega) (by omega)) (by kernel_rfl) (fun _ _ _ h => h) (fun _ h => h.bare) ?_
    refine XA.either 7 11 rfl rfl (by kernel_rfl) ?_ ?_
    · refine xk_load (by kernel_rfl) rfl (Rd.blk 0 rfl (by rw [← hn]; exact hcu)) (by decide) ?_
      refine XK.nil ?_; refine XK.thenN ?_; refine XA.back (fun _ h => h.bare) ?_
      refine XA.next 11 rfl (by kernel_rfl) ?_
      refine xk_load (by kernel_rfl) rfl (Rd.blk 0 rfl hcv) (by decide) ?_
      refine XK.nil ?_; refine XK.thenN ?_; refine XA.back (fun _ h => h.bare) ?_
      refine XA.next 12 rfl (by kernel_rfl) ?_
      refine xk_at (k) (k) (el := 3) (sz := 1) (by kernel_rfl) (by kernel_rfl) rfl rfl (by omega) (by omega) (by omega) (by decide) ?_
      refine XK.nil ?_; refine XK.thenN ?_; refine XA.back (fun _ h => h.bare) ?_
      refine XA.next 13 rfl (by kernel_rfl) ?_
      refine xk_store 0 rfl (by kernel_rfl) rfl rfl hou (by omega) ?_; dsimp only [List.set]
      refine XK.nil ?_; refine XK.thenN ?_; refine XA.back (fun _ h => h.bare) ?_
      refine XA.next 14 rfl (by kernel_rfl) ?_
      refine xk_at (n - 1 - k) (n - 1 - k) (el := 3) (sz := 1) (by kernel_rfl) (by kernel_rfl) rfl rfl (by omega) (by omega) (by omega) (by decide) ?_
      refine XK.nil ?_; refine XK.thenN ?_; refine XA.back (fun _ h => h.bare) ?_
      refine XA.next 15 rfl (by kernel_rfl) ?_
      refine xk_store 0 rfl (by kernel_rfl) rfl rfl hov (by simp; omega) ?_; dsimp only [List.set]
      refine XK.nil ?_; refine XK.thenN ?_; refine XA.back (fun _ h => h.bare) ?_
      refine XA.done (by kernel_rfl) ?_
      refine XK.norm ?_

      refine XK.region ?_
      refine xk_move rfl (by decide) ?_
      refine xk_add rfl rfl (wrap_in (by omega)) (by decide) ?_
      refine xk_move rfl (by decide) ?_
      refine xk_sub rfl rfl (wrap_in (by omega)) (by decide) ?_
      refine xk_assign rfl (by decide) ?_
      refine xk_assign rfl (by decide) ?_
      refine XK.nilN ?_
      refine XK.closeOwn 0 (n := n) (c := c) (sz := 1) (xs := (l.set k u).set (xs.length - 1 - k) v) rfl (by simp; omega) (by rw [Nat.mul_one, hn]; exact take_set (take_set hc2)) hc3 hc4 ?_
      dsimp only [List.set]
      exact XK.envS [(3, .int .i64 ((n : Int) - 1 - k - 1)), (2, .int .i64 ((k : Int) + 1)), (0, .slice (some ⟨g, 0, none⟩) n c)] (XK.round (n - (k + 1)) (by omega) ⟨k + 1, _, rfl, by omega, hl.next (by omega) hu hv, (by rw [show (n : Int) - 1 - k - 1 = (n : Int) - 1 - ((k + 1 : Nat) : Int) by omega]; rfl), rfl, rfl⟩)
    · refine xk_load (by kernel_rfl) rfl (Rd.blk 0 rfl hcv) (by decide) ?_
      refine XK.nil ?_; refine XK.thenN ?_; refine XA.back (fun _ h => h.bare) ?_
      refine XA.next 7 rfl (by kernel_rfl) ?_
      refine xk_load (by kernel_rfl) rfl (Rd.blk 0 rfl (by rw [← hn]; exact hcu)) (by decide) ?_
      refine XK.nil ?_; refine XK.thenN ?_; refine XA.back (fun _ h => h.bare) ?_
      refine XA.next 12 rfl (by kernel_rfl) ?_
      refine xk_at (k) (k) (el := 3) (sz := 1) (by kernel_rfl) (by kernel_rfl) rfl rfl (by omega) (by omega) (by omega) (by decide) ?_
      refine XK.nil ?_; refine XK.thenN ?_; refine XA.back (fun _ h => h.bare) ?_
      refine XA.next 13 rfl (by kernel_rfl) ?_
      refine xk_store 0 rfl (by kernel_rfl) rfl rfl hou (by omega) ?_; dsimp only [List.set]
      refine XK.nil ?_; refine XK.thenN ?_; refine XA.back (fun _ h => h.bare) ?_
      refine XA.next 14 rfl (by kernel_rfl) ?_
      refine xk_at (n - 1 - k) (n - 1 - k) (el := 3) (sz := 1) (by kernel_rfl) (by kernel_rfl) rfl rfl (by omega) (by omega) (by omega) (by decide) ?_
      refine XK.nil ?_; refine XK.thenN ?_; refine XA.back (fun _ h => h.bare) ?_
      refine XA.next 15 rfl (by kernel_rfl) ?_
      refine xk_store 0 rfl (by kernel_rfl) rfl rfl hov (by simp; omega) ?_; dsimp only [List.set]
      refine XK.nil ?_; refine XK.thenN ?_; refine XA.back (fun _ h => h.bare) ?_
      refine XA.done (by kernel_rfl) ?_
      refine XK.norm ?_

      refine XK.region ?_
      refine xk_move rfl (by decide) ?_
      refine xk_add rfl rfl (wrap_in (by omega)) (by decide) ?_
      refine xk_move rfl (by decide) ?_
      refine xk_sub rfl rfl (wrap_in (by omega)) (by decide) ?_
      refine xk_assign rfl (by decide) ?_
      refine xk_assign rfl (by decide) ?_
      refine XK.nilN ?_
      refine XK.closeOwn 0 (n := n) (c := c) (sz := 1) (xs := (l.set k u).set (xs.length - 1 - k) v) rfl (by simp; omega) (by rw [Nat.mul_one, hn]; exact take_set (take_set hc2)) hc3 hc4 ?_
      dsimp only [List.set]
      exact XK.envS [(3, .int .i64 ((n : Int) - 1 - k - 1)), (2, .int .i64 ((k : Int) + 1)), (0, .slice (some ⟨g, 0, none⟩) n c)] (XK.round (n - (k + 1)) (by omega) ⟨k + 1, _, rfl, by omega, hl.next (by omega) hu hv, (by rw [show (n : Int) - 1 - k - 1 = (n : Int) - 1 - ((k + 1 : Nat) : Int) by omega]; rfl), rfl, rfl⟩)

  ·
    refine XK.exit ?_
    refine XK.norm ?_
    have h' : ¬ (k : Int) < (n : Int) - 1 - k := h
    have := hl.all (by omega)
    subst this
    exact XK.ret0 (.inr rfl) rfl fun w1 st => ⟨rfl, st.turns hF (by simp) (i := 0) rfl⟩

end Go.Proofs.YtbgibbbggajgaaaGreat
/- The reference's graphs of a chip. -/
namespace Go.Proofs.YtbgibbbggajgaaaGreat
set_option linter.all false
open Go.RowKit
theorem GrS.ofOwn {q q2 : Piece} {g : List (List Int)} {vs : List Value} {A : Option Addr} {n c : Nat} (h : Rows (LstR (slq q)) 1 g (vs.map fun v => [v])) (hl : q.Le q2) (h1 : ∃ F, (HP.own 22 1 (.slice A n c) n vs).sat F q2.w ∧ ∀ b, F b → q2.Z b) (hn : n = g.length) : GrS q2 A n g := by
  obtain ⟨F, hs, hz⟩ := h1
  refine ⟨_, h.mono (fun _ _ => LstR.mono (slq_le hl)), hn, ?_⟩
  rw [show (vs.map fun v => [v]).flatten = vs by clear h hs; induction vs <;> simp_all]
  obtain ⟨A', c', e, hS⟩ := SlS.of_own (Y := q2.Z) hs hz
  injection e with e1 e2 e3
  subst e1
  exact hS

theorem refClocks_any (s : Soc) (A1 A2 A3 A4 : Option Addr) (n1 k1 n2 k2 n3 k3 n4 k4 : Nat) (w : World) (hW : SocW w s A1 n1 A2 n2 A3 n3 A4 n4) :
    Calls Tryz.prog 58 #[.agg #[.slice A1 n1 k1, .slice A2 n2 k2, .slice A3 n3 k3, .slice A4 n4 k4]] w (fun y w' => (∃ v, y = .returned v ∧ GrOk (clocksG s) v w w') ∧ Below w.heap.size w w') := by
  have hn := hW.len1
  have hsm := hW.small
  unfold Soc.small at hsm
  obtain ⟨hs1, hs2, hs3, hs4, hs5, hs6⟩ := hsm
  refine XK.enter (vs := [.agg #[.slice A1 n1 k1, .slice A2 n2 k2, .slice A3 n3 k3, .slice A4 n4 k4]]) Tryz.func58 rfl Tryz.ntmps58 (by simp) ?_
  refine XK.seq ?_

  refine XK.region ?_
  refine xk_box rfl (by decide) fun g1 => ?_
  refine xk_assign rfl (by decide) ?_
  refine XK.nilN ?_
  refine XK.seq ?_

  refine XK.region ?_
  refine xk_assign rfl (by decide) ?_
  refine XK.nilN ?_
  refine XK.seq ?_
  refine XK.seq ?_

  refine XK.region ?_
  refine xk_assign rfl (by decide) ?_
  refine XK.nilN ?_
  refine XK.envS [(4, .int .i64 0), (3, .slice none 0 0), (1, .pointer (some ⟨g1, 0, none⟩))] ?_
  refine XK.nilrow 22 1 ?_
  refine XK.still [] [] [0, 1] (by simp) rfl (by decide) (by decide) fun q0 _ _ hfr0 => ?_
  refine XK.block ?_
  refine XK.loop (fun m e R H => ∃ (k : Nat) (vs : List Value) (q : Piece) (Ag : Option Addr) (cg : Nat), k ≤ n1 ∧ m = n1 - k ∧ Fresh w q ∧ Rows (LstR (slq q)) 1 ((clocksG s).take k) (vs.map fun v => [v]) ∧ e = [(4, .int .i64 k), (3, .slice Ag k cg), (1, .pointer (some ⟨g1, 0, none⟩))] ∧ R = [q, all w] ∧ H = [HP.own 22 1 (.slice Ag k cg) k vs, HP.blk g1 30 [.slice A1 n1 k1, .slice A2 n2 k2, .slice A3 n3 k3, .slice A4 n4 k4]]) n1 ⟨0, [], _, none, 0, by omega, rfl, hfr0 (by simp) (by simp), trivial, rfl, rfl, rfl⟩ fun m e R H hI => ?_
  obtain ⟨k, vs, q, Ag, cg, hk, rfl, hfq, hrows, rfl, rfl, rfl⟩ := hI
  refine XK.seq ?_
  refine XK.seq ?_

  refine XK.region ?_
  refine xk_move rfl (by decide) ?_
  refine xk_field (off := 0) (by kernel_rfl) rfl (by decide) ?_
  refine xk_ld rfl ?_
  refine xk_len (el := 87) (by kernel_rfl) rfl (by decide) ?_
  refine xk_lss rfl rfl (by decide) ?_
  refine XK.nilN ?_
  refine XK.if_ rfl (fun h => ?_) (fun h => ?_)
  ·
    refine XK.skip ?_
    refine XK.norm ?_
    refine XK.seq ?_
    refine XK.block ?_
    have hkn : k < s.clocks.length := by omega
    obtain ⟨e, he⟩ : ∃ e, s.clocks[k]? = some e := ⟨_, List.getElem?_eq_getElem hkn⟩
    obtain ⟨b, off, r, rfl, hrl, hR, hro⟩ := hW.clk.row he
    obtain ⟨Af, nf, kf, rfl, hnf, hsf⟩ := hR
    have hgk : (clocksG s)[k]? = some (e.src) := by simp [clocksG, he]

    refine XK.region ?_
    refine xk_move rfl (by decide) ?_
    refine xk_slice0 (el := 3) (sz := 1) (by kernel_rfl) (by kernel_rfl) (by decide) fun g4 => ?_
    refine XK.asOwn 0 1 0 rfl rfl (by omega) ?_
    dsimp only [List.set]
    refine xk_field (off := 0) (by kernel_rfl) rfl (by decide) ?_
    refine xk_ld rfl ?_
    refine xk_move rfl (by decide) ?_
    refine xk_at k (off + k * 6) (el := 87) (sz := 6) (by kernel_rfl) (by kernel_rfl) rfl rfl (by omega) (by omega) (by omega) (by decide) ?_
    refine xk_field (off := 1) (by kernel_rfl) rfl (by decide) ?_
    refine xk_load (by kernel_rfl) rfl (Rd.roc (by simp) (hro.at_ (j := 1) rfl)) (by decide) ?_
    refine xk_appendT 0 1 8 nf (n' := nf) (el := 3) (by kernel_rfl) (by kernel_rfl) (by decide) rfl rfl rfl (sl_ro (p := all w) (by simp) hsf) (by simp [intCells, Value.oneCell']) (by omega) (by have := hs5 e (List.mem_of_getElem? he); omega) (by have := hs5 e (List.mem_of_getElem? he); omega) (by decide) fun A5 c5 => ?_
    dsimp only [List.set, List.nil_append]
    refine xk_slice (el := 22) (sz := 1) (zs := [.slice none 0 0]) (by kernel_rfl) (zeroB_of (by kernel_rfl)) (by kernel_rfl) rfl (by decide) (by decide) rfl (by simp [fillL, setN, Value.cells, List.range_succ, List.set]; rfl) (by decide) fun g3 => ?_
    refine xk_appendT 2 1 24 1 (n' := k + 1) (el := 22) (by kernel_rfl) (by kernel_rfl) (by decide) rfl rfl rfl (sl_blk 0 rfl rfl) (by simp [Value.oneCell']) rfl (by omega) (by omega) (by decide) fun A6 c6 => ?_
    dsimp only [List.set]
    refine xk_assign rfl (by decide) ?_
    refine XK.nilN ?_

    refine XK.region ?_
    refine xk_move rfl (by decide) ?_
    refine xk_add rfl rfl (wrap_in (by omega)) (by decide) ?_
    refine xk_assign rfl (by decide) ?_
    refine XK.nilN ?_
    refine XK.still [q] [1] [2, 3] (by simp) rfl (by decide) (by decide) fun q' hq' hle hfr' => ?_
    obtain ⟨Fg, hsg, hzg⟩ := hq' 1 _ (by simp) rfl
    obtain ⟨A7, c7, e7, hso⟩ := SlS.of_own (Y := q'.Z) hsg hzg
    injection e7 with f1 f2 f3
    subst f1
    exact XK.weak [0, 1] rfl (by decide) (by simp) (XK.envS [(4, .int .i64 (k + 1)), (3, .slice A6 (k + 1) c6), (1, .pointer (some ⟨g1, 0, none⟩))] (XK.round (n1 - (k + 1)) (by omega) ⟨k + 1, vs ++ [_], q', A6, c6, by omega, rfl, hfr' (by simp) (by simpa using hfq), rows_next hrows (hle q (by simp)) hgk ⟨A5, nf, c5, rfl, hnf, hso⟩, rfl, rfl, rfl⟩))
  ·
    refine XK.exit ?_
    refine XK.norm ?_
    refine XK.seq ?_
    obtain rfl : k = n1 := by omega
    rw [List.take_of_length_le (by simp [clocksG]; omega)] at hrows

    refine XK.region ?_
    refine xk_move rfl (by decide) ?_
    refine xk_assign rfl (by decide) ?_
    refine XK.nilN ?_
    refine XK.ret ?_
    refine XK.norm ?_
    refine XK.still [q] [0] [] (by simp) rfl (by decide) (by decide) fun q2 hq hle hfr => ?_
    have hgl : k = (clocksG s).length := by simp [clocksG]; omega
    exact XK.ret1 rfl rfl fun w1 st => ⟨⟨_, rfl, Ag, cg, by rw [← hgl], by rw [← hgl]; exact (GrS.ofOwn hrows (hle q (by simp)) (hq 0 _ (by simp) rfl) hgl).le (st.fresh_le (by simp) (hfr (by simp) (by simpa using hfq)))⟩, st.below (by simp)⟩

theorem refDoms_any (s : Soc) (A1 A2 A3 A4 : Option Addr) (n1 k1 n2 k2 n3 k3 n4 k4 : Nat) (w : World) (hW : SocW w s A1 n1 A2 n2 A3 n3 A4 n4) :
    Calls Tryz.prog 57 #[.agg #[.slice A1 n1 k1, .slice A2 n2 k2, .slice A3 n3 k3, .slice A4 n4 k4]] w (fun y w' => (∃ v, y = .returned v ∧ GrOk (domsG s) v w w') ∧ Below w.heap.size w w') := by
  have hn := hW.len2
  have hsm := hW.small
  unfold Soc.small at hsm
  obtain ⟨hs1, hs2, hs3, hs4, hs5, hs6⟩ := hsm
  refine XK.enter (vs := [.agg #[.slice A1 n1 k1, .slice A2 n2 k2, .slice A3 n3 k3, .slice A4 n4 k4]]) Tryz.func57 rfl Tryz.ntmps57 (by simp) ?_
  refine XK.seq ?_

  refine XK.region ?_
  refine xk_box rfl (by decide) fun g1 => ?_
  refine xk_assign rfl (by decide) ?_
  refine XK.nilN ?_
  refine XK.seq ?_

  refine XK.region ?_
  refine xk_assign rfl (by decide) ?_
  refine XK.nilN ?_
  refine XK.seq ?_
  refine XK.seq ?_

  refine XK.region ?_
  refine xk_assign rfl (by decide) ?_
  refine XK.nilN ?_
  refine XK.envS [(4, .int .i64 0), (3, .slice none 0 0), (1, .pointer (some ⟨g1, 0, none⟩))] ?_
  refine XK.nilrow 22 1 ?_
  refine XK.still [] [] [0, 1] (by simp) rfl (by decide) (by decide) fun q0 _ _ hfr0 => ?_
  refine XK.block ?_
  refine XK.loop (fun m e R H => ∃ (k : Nat) (vs : List Value) (q : Piece) (Ag : Option Addr) (cg : Nat), k ≤ n2 ∧ m = n2 - k ∧ Fresh w q ∧ Rows (LstR (slq q)) 1 ((domsG s).take k) (vs.map fun v => [v]) ∧ e = [(4, .int .i64 k), (3, .slice Ag k cg), (1, .pointer (some ⟨g1, 0, none⟩))] ∧ R = [q, all w] ∧ H = [HP.own 22 1 (.slice Ag k cg) k vs, HP.blk g1 30 [.slice A1 n1 k1, .slice A2 n2 k2, .slice A3 n3 k3, .slice A4 n4 k4]]) n2 ⟨0, [], _, none, 0, by omega, rfl, hfr0 (by simp) (by simp), trivial, rfl, rfl, rfl⟩ fun m e R H hI => ?_
  obtain ⟨k, vs, q, Ag, cg, hk, rfl, hfq, hrows, rfl, rfl, rfl⟩ := hI
  refine XK.seq ?_
  refine XK.seq ?_

  refine XK.region ?_
  refine xk_move rfl (by decide) ?_
  refine xk_field (off := 1) (by kernel_rfl) rfl (by decide) ?_
  refine xk_ld rfl ?_
  refine xk_len (el := 89) (by kernel_rfl) rfl (by decide) ?_
  refine xk_lss rfl rfl (by decide) ?_
  refine XK.nilN ?_
  refine XK.if_ rfl (fun h => ?_) (fun h => ?_)
  ·
    refine XK.skip ?_
    refine XK.norm ?_
    refine XK.seq ?_
    refine XK.block ?_
    refine XK.seq ?_
    have hkn : k < s.domains.length := by omega
    obtain ⟨e, he⟩ : ∃ e, s.domains[k]? = some e := ⟨_, List.getElem?_eq_getElem hkn⟩
    obtain ⟨b, off, r, rfl, hrl, hR, hro⟩ := hW.dom.row he
    obtain rfl := hR
    have hgk : (domsG s)[k]? = some (if e.above = -1 then [] else [e.above]) := by simp [domsG, he]

    refine XK.region ?_
    refine xk_assign rfl (by decide) ?_
    refine XK.nilN ?_
    refine XK.seq ?_
    refine XK.seq ?_

    refine XK.region ?_
    refine xk_field (off := 1) (by kernel_rfl) rfl (by decide) ?_
    refine xk_ld rfl ?_
    refine xk_move rfl (by decide) ?_
    refine xk_at k (off + k * 3) (el := 89) (sz := 3) (by kernel_rfl) (by kernel_rfl) rfl rfl (by omega) (by omega) (by omega) (by decide) ?_
    refine xk_field (off := 0) (by kernel_rfl) rfl (by decide) ?_
    refine xk_load (by kernel_rfl) rfl (Rd.roc (by simp) (hro.at_ (j := 0) rfl)) (by decide) ?_
    refine xk_neq rfl rfl (by decide) ?_
    refine XK.nilN ?_
    refine XK.if_ rfl (fun hab => ?_) (fun hab => ?_)
    ·
      refine XK.nilrow 3 1 ?_

      refine XK.region ?_
      refine xk_move rfl (by decide) ?_
      refine xk_field (off := 1) (by kernel_rfl) rfl (by decide) ?_
      refine xk_ld rfl ?_
      refine xk_move rfl (by decide) ?_
      refine xk_at k (off + k * 3) (el := 89) (sz := 3) (by kernel_rfl) (by kernel_rfl) rfl rfl (by omega) (by omega) (by omega) (by decide) ?_
      refine xk_field (off := 0) (by kernel_rfl) rfl (by decide) ?_
      refine xk_load (by kernel_rfl) rfl (Rd.roc (by simp) (hro.at_ (j := 0) rfl)) (by decide) ?_
      refine xk_slice (el := 3) (sz := 1) (zs := [.int .i64 0]) (by kernel_rfl) (zeroB_of (by kernel_rfl)) (by kernel_rfl) rfl (by decide) (by decide) rfl (by simp [fillL, setN, Value.cells, List.range_succ, List.set]; rfl) (by decide) fun g2 => ?_
      refine xk_appendT 1 1 8 1 (n' := 1) (v := .slice none 0 0) (el := 3) (by kernel_rfl) (by kernel_rfl) (by decide) rfl rfl rfl (sl_blk 0 rfl rfl) (by simp [Value.oneCell']) rfl (by omega) (by omega) (by decide) fun A5 c5 => ?_
      dsimp only [List.set, List.nil_append]
      refine xk_assign rfl (by decide) ?_
      refine XK.nilN ?_

      refine XK.region ?_
      refine xk_move rfl (by decide) ?_
      refine xk_move rfl (by decide) ?_
      refine xk_slice (el := 22) (sz := 1) (zs := [.slice none 0 0]) (by kernel_rfl) (zeroB_of (by kernel_rfl)) (by kernel_rfl) rfl (by decide) (by decide) rfl (by simp [fillL, setN, Value.cells, List.range_succ, List.set]; rfl) (by decide) fun g3 => ?_
      refine xk_appendT 3 1 24 1 (n' := k + 1) (el := 22) (by kernel_rfl) (by kernel_rfl) (by decide) rfl rfl rfl (sl_blk 0 rfl rfl) (by simp [Value.oneCell']) rfl (by omega) (by omega) (by decide) fun A6 c6 => ?_
      dsimp only [List.set]
      refine xk_assign rfl (by decide) ?_
      refine XK.nilN ?_

      refine XK.region ?_
      refine xk_move rfl (by decide) ?_
      refine xk_add rfl rfl (wrap_in (by omega)) (by decide) ?_
      refine xk_assign rfl (by decide) ?_
      refine XK.nilN ?_
      refine XK.still [q] [2] [3, 4] (by simp) rfl (by decide) (by decide) fun q' hq' hle hfr' => ?_
      obtain ⟨Fg, hsg, hzg⟩ := hq' 2 _ (by simp) rfl
      obtain ⟨A7, c7, e7, hso⟩ := SlS.of_own (Y := q'.Z) hsg hzg
      injection e7 with f1 f2 f3
      subst f1
      exact XK.weak [0, 1] rfl (by decide) (by simp) (XK.envS [(4, .int .i64 (k + 1)), (3, .slice A6 (k + 1) c6), (1, .pointer (some ⟨g1, 0, none⟩))] (XK.round (n2 - (k + 1)) (by omega) ⟨k + 1, vs ++ [_], q', A6, c6, by omega, rfl, hfr' (by simp) (by simpa using hfq), rows_next hrows (hle q (by simp)) hgk (by rw [if_neg hab]; exact ⟨A5, 1, c5, rfl, rfl, hso⟩), rfl, rfl, rfl⟩))
    ·
      refine XK.skip ?_
      refine XK.norm ?_

      refine XK.region ?_
      refine xk_move rfl (by decide) ?_
      refine xk_move rfl (by decide) ?_
      refine xk_slice (el := 22) (sz := 1) (zs := [.slice none 0 0]) (by kernel_rfl) (zeroB_of (by kernel_rfl)) (by kernel_rfl) rfl (by decide) (by decide) rfl (by simp [fillL, setN, Value.cells, List.range_succ, List.set]; rfl) (by decide) fun g4 => ?_
      refine xk_appendT 1 1 24 1 (n' := k + 1) (el := 22) (by kernel_rfl) (by kernel_rfl) (by decide) rfl rfl rfl (sl_blk 0 rfl rfl) (by simp [Value.oneCell']) rfl (by omega) (by omega) (by decide) fun A6 c6 => ?_
      dsimp only [List.set]
      refine xk_assign rfl (by decide) ?_
      refine XK.nilN ?_

      refine XK.region ?_
      refine xk_move rfl (by decide) ?_
      refine xk_add rfl rfl (wrap_in (by omega)) (by decide) ?_
      refine xk_assign rfl (by decide) ?_
      refine XK.nilN ?_
      exact XK.weak [1, 2] rfl (by decide) (by simp) (XK.envS [(4, .int .i64 (k + 1)), (3, .slice A6 (k + 1) c6), (1, .pointer (some ⟨g1, 0, none⟩))] (XK.round (n2 - (k + 1)) (by omega) ⟨k + 1, vs ++ [_], q, A6, c6, by omega, rfl, hfq, rows_next hrows (fun b hb => ⟨hb, rfl⟩) hgk (by rw [if_pos (Classical.not_not.1 hab)]; exact ⟨_, 0, 0, rfl, rfl, SlS.nil _ 1⟩), rfl, rfl, rfl⟩))
  ·
    refine XK.exit ?_
    refine XK.norm ?_
    refine XK.seq ?_
    obtain rfl : k = n2 := by omega
    rw [List.take_of_length_le (by simp [domsG]; omega)] at hrows

    refine XK.region ?_
    refine xk_move rfl (by decide) ?_
    refine xk_assign rfl (by decide) ?_
    refine XK.nilN ?_
    refine XK.ret ?_
    refine XK.norm ?_
    refine XK.still [q] [0] [] (by simp) rfl (by decide) (by decide) fun q2 hq hle hfr => ?_
    have hgl : k = (domsG s).length := by simp [domsG]; omega
    exact XK.ret1 rfl rfl fun w1 st => ⟨⟨_, rfl, Ag, cg, by rw [← hgl], by rw [← hgl]; exact (GrS.ofOwn hrows (hle q (by simp)) (hq 0 _ (by simp) rfl) hgl).le (st.fresh_le (by simp) (hfr (by simp) (by simpa using hfq)))⟩, st.below (by simp)⟩

end Go.Proofs.YtbgibbbggajgaaaGreat
/- A graph in which all sources are lesser ones: its order is 0, 1, 2, .. No program in sight. -/
namespace Go.Proofs.YtbgibbbggajgaaaGreat
set_option linter.all false
def LessG (g : List (List Int)) : Prop := ∀ (k : Nat) (l : List Int), g[k]? = some l → ∀ u ∈ l, 0 ≤ u ∧ u < (k : Int)
theorem LessG.in {g : List (List Int)} (h : LessG g) : InG g := by
  intro l hl u hu
  obtain ⟨k, hk⟩ := List.getElem?_of_mem hl
  have := h k l hk u hu
  have := (List.getElem?_eq_some_iff.1 hk).1
  omega
theorem LessG.next {g : List (List Int)} (h : LessG g) {k : Nat} (hk : k < g.length) : nextG g (List.range k) = some k := by
  refine nextG_some hk (fun j hj => okN_met (by simpa using hj)) ?_
  unfold okN
  obtain ⟨l, hl⟩ : ∃ l, g[k]? = some l := ⟨_, List.getElem?_eq_getElem hk⟩
  rw [hl]
  simp only [Option.getD_some, Bool.and_eq_true, Bool.not_eq_true', List.all_eq_true]
  refine ⟨by simp, fun u hu => ?_⟩
  have := h k l hl u hu
  simp; omega
theorem LessG.order {g : List (List Int)} (h : LessG g) : ∀ (m k : Nat), k + m = g.length → orderG g m (List.range k) = some (List.range g.length)
  | 0, k, hk => by rw [orderG]; simp at hk; rw [hk]
  | m + 1, k, hk => by
    rw [orderG, h.next (by omega)]
    have := LessG.order h m (k + 1) (by omega)
    rw [List.range_succ] at this
    exact this
theorem LessG.orderE {g : List (List Int)} (h : LessG g) (hl : g.length ≤ 100) : orderE g = (0, List.range g.length) := by
  have h1 : badG g = false := badG_no fun k l hk j u hj => by
    have := h.in l (List.mem_of_getElem? hk) u (List.mem_of_getElem? hj)
    exact this
  have h2 : numbersG g = 0 := by unfold numbersG; rw [if_neg (by omega), h1]; rfl
  have h3 := h.order g.length 0 (by omega)
  unfold Go.Proofs.YtbgibbbggajgaaaGreat.orderE
  rw [if_neg (by simp [h2])]
  simp only [List.range_zero] at h3
  rw [h3]
end Go.Proofs.YtbgibbbggajgaaaGreat
/- A region that draws its order, in a round: what comes up in any order, and then the rest, one behind the other. -/
namespace Go.Proofs.YtbgibbbggajgaaaGreat
set_option linter.all false
open Go.RowKit

def edgesB (ops : Array Oper) : Bool := (List.range ops.size).all fun j => match ops[j]? with
  | some o => o.after.toList.all fun x => !(Region.binds .any x) || decide (x.on < j)
  | none => true
def guardsB (l : List Oper) (m : Nat) : Bool := (l.take m).all fun o => match o.guard with
  | some (j, _) => decide (j < m)
  | none => true
theorem edges_lt {ops : Array Oper} (h : edgesB ops = true) {j : Nat} {o : Oper} (ho : ops[j]? = some o) : ∀ x ∈ o.after, Region.binds .any x = true → x.on < j := fun x hx hb => by
  have hj := (Array.getElem?_eq_some_iff.1 ho).1
  unfold edgesB at h
  simp only [List.all_eq_true, List.mem_range] at h
  have := h j hj
  rw [ho] at this
  simp only [List.all_eq_true] at this
  have := this x (by simpa using hx)
  simpa [hb] using this
theorem getD_tf {l : Array Bool} {i : Nat} (h : i < l.size) : l.getD i true = l.getD i false := by simp [h]
/-- all ahead of number k are listed, and no more -/
def Upto (k : Nat) (listed : Array Bool) : Prop := (∀ i, i < k → listed.getD i false = true) ∧ ∀ i, k ≤ i → listed.getD i false = false
theorem ready_upto {ops : Array Oper} {k : Nat} {listed : Array Bool} (hE : edgesB ops = true) (hd : Down ops listed) (hk : k < ops.size) (ht : ∀ j, k ≤ j → j < ops.size → tailB ops j = true) (hsz : listed.size = ops.size) (hu : Upto k listed) : k ∈ Region.ready .any ops listed ∧ ∀ i ∈ Region.ready .any ops listed, i = k := by
  constructor
  · refine mem_ready.2 ⟨?_, _, Array.getElem?_eq_getElem hk, fun x hx hb => hu.1 _ (edges_lt hE (Array.getElem?_eq_getElem hk) x hx hb)⟩
    rw [getD_tf (by omega)]
    exact hu.2 k (Nat.le_refl _)
  · intro i hi
    obtain ⟨h1, o, ho, h2⟩ := mem_ready.1 hi
    have hlt := (Array.getElem?_eq_some_iff.1 ho).1
    rw [getD_tf (by omega)] at h1
    rcases Nat.lt_trichotomy i k with h | h | h
    · rw [hu.1 i h] at h1; cases h1
    · exact h
    · have := tail_listed hd hi (ht i (by omega) hlt) h
      rw [hu.2 k (Nat.le_refl _)] at this; cases this
theorem Upto.next {k : Nat} {listed : Array Bool} (h : Upto k listed) (hk : k < listed.size) : Upto (k + 1) (listed.setIfInBounds k true) := by
  refine ⟨fun i hi => ?_, fun i hi => ?_⟩
  · by_cases e : k = i
    · subst e; simp [hk]
    · rw [getD_set_ne false e]; exact h.1 i (by omega)
  · rw [getD_set_ne false (by omega)]; exact h.2 i (by omega)
section
variable {P : Program} {N : Nat} {w0 : World} {e : Env} {R : List Piece} {H : List HP} {Q : Exit → Act → World → Prop} {r : Option Nat} {L : List Nat}
theorem tail_sound {ops : Array Oper} (hE : edgesB ops = true) : ∀ (fuel k : Nat) (listed : Array Bool) (a : Act) (w : World), k ≤ ops.size → ops.size ≤ k + fuel → Down ops listed → (∀ j, k ≤ j → j < ops.size → tailB ops j = true) → listed.size = ops.size → Upto k listed →
    wpListIn (Fr r) 9 P ops Q (ops.toList.drop k) a w → wpAnyIn (Fr r) 9 P .any ops Q fuel listed a w := by
  have none : ∀ (k : Nat) (listed : Array Bool), k = ops.size → listed.size = ops.size → Upto k listed → Region.ready .any ops listed = [] := by
    intro k listed hk hsz hu
    cases hr : Region.ready .any ops listed with
    | nil => rfl
    | cons i is =>
      exfalso
      obtain ⟨h1, o, ho, _⟩ := mem_ready.1 (by rw [hr]; simp : i ∈ Region.ready .any ops listed)
      have hlt := (Array.getElem?_eq_some_iff.1 ho).1
      rw [getD_tf (by omega), hu.1 i (by omega)] at h1
      cases h1
  intro fuel
  induction fuel with
  | zero =>
    intro k listed a w hk hk2 hd ht hsz hu h
    rw [List.drop_eq_nil_of_le (by simp; omega)] at h
    exact ⟨none k listed (by omega) hsz hu, h⟩
  | succ fuel ih =>
    intro k listed a w hk hk2 hd ht hsz hu h
    by_cases hkn : k < ops.size
    · obtain ⟨h1, h2⟩ := ready_upto hE hd hkn ht hsz hu
      refine ⟨fun hn => absurd h1 (by rw [hn]; simp), fun i hi => ?_⟩
      have := h2 i hi
      subst this
      have hget : ops[i]? = some (ops[i]'hkn) := Array.getElem?_eq_getElem hkn
      have hdrop : ops.toList.drop i = ops[i]'hkn :: ops.toList.drop (i + 1) := by
        rw [← List.getElem_cons_drop (by simpa using hkn)]; simp
      rw [hdrop] at h
      unfold wpListIn at h
      unfold wpOpIn
      rw [hget]
      have key : ∀ a w, wpListIn (Fr r) 9 P ops Q (ops.toList.drop (i + 1)) a w → wpAnyIn (Fr r) 9 P .any ops Q fuel (listed.setIfInBounds i true) a w := fun a w h => ih (i + 1) _ a w (by omega) (by omega) (hd.set_ hi) (fun j hj => ht j (by omega)) (by simpa using hsz) (hu.next (by omega)) h
      dsimp only
      split
      · rename_i hw
        rw [if_pos hw] at h
        exact Oper.wpIn_mono key h
      · rename_i hw
        rw [if_neg hw] at h
        exact ⟨h.1, key _ _ h.2⟩
    · rw [List.drop_eq_nil_of_le (by simp; omega)] at h
      have hn := none k listed (by omega) hsz hu
      exact ⟨fun _ => h, fun i hi => by rw [hn] at hi; cases hi⟩
/-- the first m, by themselves -/
structure Rel (ops : Array Oper) (m : Nat) (listed l' : Array Bool) : Prop where
  lo : ∀ i, i < m → listed.getD i false = l'.getD i false
  hi : ∀ i, m ≤ i → listed.getD i false = false
  s1 : listed.size = ops.size
  s2 : l'.size = m
  le : m ≤ ops.size
theorem Rel.set_ {ops : Array Oper} {m i : Nat} {listed l' : Array Bool} (h : Rel ops m listed l') (hi : i < m) : Rel ops m (listed.setIfInBounds i true) (l'.setIfInBounds i true) := by
  have hle := h.le
  have hs := h.s1
  have hs2 := h.s2
  refine ⟨fun j hj => ?_, fun j hj => ?_, by simpa using h.s1, by simpa using h.s2, h.le⟩
  · by_cases e : i = j
    · subst e
      have h1 : i < l'.size := by omega
      have h2 : i < listed.size := by omega
      simp [h1, h2]
    · rw [getD_set_ne false e, getD_set_ne false e]; exact h.lo j hj
  · rw [getD_set_ne false (by omega)]; exact h.hi j hj
theorem wp_fx {o : Oper} {a : Act} {w : World} {K K1 K2 : Act → World → Prop} (h : o.wp P a w K (Fx K1)) : o.wp P a w K (Fx K2) := by
  unfold Oper.wp at h ⊢
  generalize (execOp a.eval o).run P w = res at h ⊢
  cases res with
  | ok n w' => cases n <;> first | exact h | exact Calls.mono h (fun x w'' hx => by cases x <;> first | exact hx | exact hx.elim | (obtain ⟨_, _, hf⟩ := hx; exact hf.elim))
  | halt x w' => cases x <;> exact h
theorem any_sound {l : List Oper} {m : Nat} (hm : m ≤ l.length) (hE : edgesB l.toArray = true) (hT : tlB l.toArray m = true) (hG : guardsB l m = true) (hp : (l.take m).all plainOp = true) :
    ∀ (fuel : Nat) (listed l' : Array Bool) (a : Act) (w : World), Rel l.toArray m listed l' → Down l.toArray listed → wpAny P .any (l.take m).toArray (Fx (KI r L P l.toArray Q (l.drop m))) fuel l' a w →
      wpAnyIn (Fr r) 9 P .any l.toArray Q (fuel + (l.length - m)) listed (mk L a) w := by
  have hget : ∀ i, i < m → (l.take m).toArray[i]? = l.toArray[i]? := fun i hi => by simp [List.getElem?_take, hi]
  have hready : ∀ {listed l' : Array Bool}, Rel l.toArray m listed l' → ∀ i, i < m → (i ∈ Region.ready .any l.toArray listed ↔ i ∈ Region.ready .any (l.take m).toArray l') := by
    intro listed l' hr i hi
    have hs1 := hr.s1
    have hs2 := hr.s2
    have hle := hr.le
    rw [mem_ready, mem_ready, getD_tf (l := listed) (by omega), getD_tf (l := l') (by omega), hr.lo i hi, hget i hi]
    constructor
    · rintro ⟨h1, o, ho, h2⟩
      exact ⟨h1, o, ho, fun x hx hb => by have := edges_lt hE ho x hx hb; rw [← hr.lo _ (by omega)]; exact h2 x hx hb⟩
    · rintro ⟨h1, o, ho, h2⟩
      exact ⟨h1, o, ho, fun x hx hb => by have := edges_lt hE ho x hx hb; rw [hr.lo _ (by omega)]; exact h2 x hx hb⟩
  have htl : ∀ j, m ≤ j → j < l.toArray.size → tailB l.toArray j = true := fun j hj hlt => by
    unfold tlB at hT
    simp only [List.all_eq_true, List.mem_range, Bool.or_eq_true, decide_eq_true_eq] at hT
    exact (hT j hlt).resolve_left (by omega)
  have hdone : ∀ {listed l' : Array Bool}, Rel l.toArray m listed l' → Region.ready .any (l.take m).toArray l' = [] → Upto m listed := by
    intro listed l' hr hn
    refine ⟨fun i => ?_, hr.hi⟩
    induction i using Nat.strongRecOn with
    | _ i ih =>
      intro hi
      cases hb : listed.getD i false with
      | true => rfl
      | false =>
        exfalso
        have hs1 := hr.s1
        have hle := hr.le
        have hil : i < l.toArray.size := by omega
        have : i ∈ Region.ready .any l.toArray listed := mem_ready.2 ⟨by rw [getD_tf (by omega)]; exact hb, _, Array.getElem?_eq_getElem hil, fun x hx hxb => by
          have := edges_lt hE (Array.getElem?_eq_getElem hil) x hx hxb
          exact ih x.on this (by omega)⟩
        rw [hready hr i hi, hn] at this
        cases this
  have fin : ∀ {fuel : Nat} {listed l' : Array Bool} {a : Act} {w : World}, Rel l.toArray m listed l' → Down l.toArray listed → Region.ready .any (l.take m).toArray l' = [] → KI r L P l.toArray Q (l.drop m) a w → wpAnyIn (Fr r) 9 P .any l.toArray Q (fuel + (l.length - m)) listed (mk L a) w := by
    intro fuel listed l' a w hr hd hn hk
    refine tail_sound hE _ m listed _ w (by simpa using hm) (by simp; omega) hd htl hr.s1 (hdone hr hn) ?_
    unfold KI at hk
    simpa using hk
  intro fuel
  induction fuel with
  | zero =>
    intro listed l' a w hr hd h
    exact fin hr hd h.1 h.2
  | succ fuel ih =>
    intro listed l' a w hr hd h
    cases hne : Region.ready .any (l.take m).toArray l' with
    | nil => exact fin hr hd hne (h.1 hne)
    | cons i0 is =>
      have hi0 : i0 ∈ Region.ready .any (l.take m).toArray l' := by rw [hne]; simp
      have hi0m : i0 < m := by
        obtain ⟨_, o, ho, _⟩ := mem_ready.1 hi0
        have := (Array.getElem?_eq_some_iff.1 ho).1
        simp at this
        omega
      have hi0l := (hready hr i0 hi0m).2 hi0
      rw [show fuel + 1 + (l.length - m) = (fuel + (l.length - m)) + 1 by omega]
      refine ⟨fun hn => absurd hi0l (by rw [hn]; simp), fun i hi => ?_⟩
      obtain ⟨h1, o, ho, _⟩ := mem_ready.1 hi
      have hlt := (Array.getElem?_eq_some_iff.1 ho).1
      by_cases him : i < m
      · have hi' := (hready hr i him).1 hi
        have h2 := h.2 i hi'
        unfold wpOp at h2
        unfold wpOpIn
        rw [hget i him, ho] at h2
        rw [ho]
        dsimp only at h2 ⊢
        have hwant : Region.wanted o (yielded l.toArray (mk L a).tmps) = Region.wanted o (yielded (l.take m).toArray a.tmps) := by
          show Region.wanted o (yielded l.toArray a.tmps) = _
          cases hgd : o.guard with
          | none => simp [Region.wanted, hgd]
          | some g =>
            obtain ⟨j, b⟩ := g
            have hj : j < m := by
              unfold guardsB at hG
              simp only [List.all_eq_true] at hG
              have hmem : o ∈ l.take m := by
                have : (l.take m)[i]? = some o := by simpa [List.getElem?_take, him] using ho
                exact List.mem_of_getElem? this
              have := hG o hmem
              rw [hgd] at this
              simpa using this
            simp only [Region.wanted, hgd, yielded, hget j hj]
        rw [hwant]
        have hpo : plainOp o = true := by
          simp only [List.all_eq_true] at hp
          have : (l.take m)[i]? = some o := by simpa [List.getElem?_take, him] using ho
          exact hp o (List.mem_of_getElem? this)
        have key : ∀ a' w', wpAny P .any (l.take m).toArray (Fx (KI r L P l.toArray Q (l.drop m))) fuel (l'.setIfInBounds i true) a' w' → wpAnyIn (Fr r) 9 P .any l.toArray Q (fuel + (l.length - m)) (listed.setIfInBounds i true) (mk L a') w' := fun a' w' hh => ih _ _ a' w' (hr.set_ him) (hd.set_ hi) hh
        split
        · rename_i hw
          rw [if_pos hw] at h2
          rcases h2 with h2 | ⟨_, _, _, h2⟩
          · exact operIn hpo key (wp_fx h2)
          · exact h2.elim
        · rename_i hw
          rw [if_neg hw] at h2
          refine ⟨fun _ _ => trivial, ?_⟩
          rw [mk_put]
          exact key _ _ h2
      · exfalso
        have := tail_listed hd hi (htl i (by omega) hlt) (show i0 < i by omega)
        obtain ⟨h3, _⟩ := mem_ready.1 hi0l
        have hs1 := hr.s1
        rw [getD_tf (by omega), this] at h3
        cases h3
/-- a region that draws its order: the first m in any order, the rest one behind the other -/
theorem XC.draw (m : Nat) {id : Nat} {l : List Oper} (hm : P.follows .mixedOrders = true) (hc : (Region.noSelect (l.take m).toArray && edgesB l.toArray && tlB l.toArray m && tlB (l.take m).toArray m && guardsB l m && (l.take m).all plainOp && decide (m ≤ l.length)) = true)
    (h : XA P N w0 (l.take m).toArray (Fx (KI r L P l.toArray Q (l.drop m))) R H m m (Array.replicate m false) e R H) : XK N w0 (KC r L P (Code.region id l.toArray true) Q) e R H := fun a w hr st => by
  simp only [Bool.and_eq_true, decide_eq_true_eq] at hc
  obtain ⟨⟨⟨⟨⟨⟨c1, c2⟩, c3⟩, c4⟩, c5⟩, c6⟩, c7⟩ := hc
  have h1 := h ⟨Down.start _ _, c1, c4⟩ a w.drew hr st.drew
  have h2 := any_sound (r := r) (L := L) (Q := Q) c7 c2 c3 c5 c6 m (Array.replicate l.length false) _ a w.drew ⟨fun i hi => by simp [hi, Nat.lt_of_lt_of_le hi c7], fun i hi => by simp [Array.getElem?_replicate]; split <;> rfl, by simp, by simp, by simpa using c7⟩ (Down.start _ _) (wpAny_of_x _ _ _ _ h1)
  unfold KC
  refine wpIn_region_any hm ?_
  rw [show m + (l.length - m) = l.length by omega] at h2
  simpa using h2
end
end Go.Proofs.YtbgibbbggajgaaaGreat
/- plan: what makes iterators; the iterator of steps. -/
namespace Go.Proofs.YtbgibbbggajgaaaGreat
set_option linter.all false
open Go.RowKit
attribute [local irreducible] KC KI KQ
def StepV (pr msg i v : Int) : Value := .agg #[.int .i64 pr, .int .i64 msg, .int .u32 i, .int .u32 v]
def stepCells (pr msg : Int) (val : Nat → Int) (ids : List Nat) : List (List Value) := ids.map fun (i : Nat) => [StepV pr msg i (val i)]
/-- what a value function tells of each of them -/
def ValOk (p : Piece) (vid : FuncId) (vcap : List Value) (ids : List Nat) (val : Nat → Int) : Prop := ∀ i ∈ ids, ∀ w', p.Le (all w') → Calls Tryz.prog vid (Value.int .i64 (i : Int) :: vcap).toArray w' (Rt (.int .u32 (val i)) w')
theorem Piece.Le.trans' {p q r : Piece} (h : p.Le q) (k : q.Le r) : p.Le r := fun b hb => ⟨(k b (h b hb).1).1, (k b (h b hb).1).2.trans (h b hb).2⟩
theorem ValOk.le {p q : Piece} {vid : FuncId} {vcap : List Value} {ids : List Nat} {val : Nat → Int} (h : ValOk p vid vcap ids val) (hl : p.Le q) : ValOk q vid vcap ids val := fun i hi w' hq => h i hi w' (hl.trans' hq)
theorem RP.of_blk {q : Piece} {g o : Nat} {t : TypeId} {cs : List Value} {v : Value} (h : ∃ F, (HP.blk g t cs).sat F q.w ∧ ∀ b, F b → q.Z b) (hv : cs[o]? = some v) : RP q g o v := by
  obtain ⟨F, hs, hz⟩ := h
  refine ⟨hz g hs.1, ?_⟩
  have : Blk q.w g t cs.toArray := hs.2
  rw [this.cell]
  simpa using hv

theorem always1_any (i v : Int) (g : Nat) (w : World) (h : ROc w g 0 (.int .u32 v)) : Calls Tryz.prog 143 #[.int .i64 i, .pointer (some ⟨g, 0, none⟩)] w (Rt (.int .u32 v) w) := by
  refine XK.enter (vs := [.int .i64 i, .pointer (some ⟨g, 0, none⟩)]) Tryz.func143 rfl Tryz.ntmps143 (by simp) ?_
  refine XK.seq ?_

  refine XK.region ?_
  refine xk_assign rfl (by decide) ?_
  refine XK.nilN ?_
  refine XK.seq ?_

  refine XK.region ?_
  refine xk_ld rfl ?_
  refine xk_assign rfl (by decide) ?_
  refine XK.nilN ?_
  refine XK.ret ?_
  refine XK.norm ?_
  exact XK.ret1 rfl rfl fun w1 st => ⟨rfl, st.below (by simp)⟩

/-- v, whatever is asked -/
def AlwaysOk (v : Int) (y : Value) (w w' : World) : Prop := ∃ g, y = .func (.func 143) #[] #[.pointer (some ⟨g, 0, none⟩)] ∧ ∀ q, (fresh w w').Le q → ∀ ids, ValOk q 143 [.pointer (some ⟨g, 0, none⟩)] ids fun _ => v
theorem always_any (v : Int) (w : World) : Calls Tryz.prog 109 #[.int .u32 v] w (fun y w' => (∃ x, y = .returned x ∧ AlwaysOk v x w w') ∧ Below w.heap.size w w') := by
  refine XK.enter (vs := [.int .u32 v]) Tryz.func109 rfl Tryz.ntmps109 (by simp) ?_
  refine XK.seq ?_

  refine XK.region ?_
  refine xk_box rfl (by decide) fun g1 => ?_
  refine xk_assign rfl (by decide) ?_
  refine XK.nilN ?_
  refine XK.seq ?_

  refine XK.region ?_
  refine xk_func (vf := []) (vc := [.pointer (some ⟨g1, 0, none⟩)]) rfl rfl (by decide) ?_
  refine xk_assign rfl (by decide) ?_
  refine XK.nilN ?_
  refine XK.ret ?_
  refine XK.norm ?_
  refine XK.still [] [0] [] (by simp) rfl (by decide) (by decide) fun q hq _ hfr => ?_
  refine XK.ret1 rfl rfl fun w1 st => ⟨⟨_, rfl, g1, rfl, fun q2 hf ids i hi => ?_⟩, st.below (by simp)⟩
  have hrp := (RP.of_blk (o := 0) (v := .int .u32 v) (hq 0 _ (by simp) rfl) rfl).le ((st.fresh_le (by simp) (hfr (by simp) (by simp))).trans' hf)
  intro w' hw'
  have := hrp.le hw'
  exact always1_any _ v g1 w' this

def MoreOk (p0 : Piece) (ids : List Nat) (y : Value) (w w' : World) : Prop := ∃ g1 g2 g3, y = .func (.func 142) #[] #[.pointer (some ⟨g1, 0, none⟩), .pointer (some ⟨g2, 0, none⟩), .pointer (some ⟨g3, 0, none⟩)] ∧ ∀ q, p0.Le q → (fresh w w').Le q → Iter Tryz.prog 142 [.pointer (some ⟨g1, 0, none⟩), .pointer (some ⟨g2, 0, none⟩), .pointer (some ⟨g3, 0, none⟩)] (idCells ids) q
theorem more_any (p0 : Piece) (n nt' nf c ct cf : Nat) (A At Af : Option Addr) (order : List Nat) (fr to : List Bool) (w : World)
    (hs : SlS p0 1 A n (intCells (natI order))) (hn : n = order.length) (hn2 : (n : Int) ≤ 9223372036854775806) (hst : SlS p0 1 At nt' (boolCells to)) (hnt : nt' = to.length) (hsf : SlS p0 1 Af nf (boolCells fr)) (hnf : nf = fr.length) (hord : ∀ i ∈ order, (i : Int) ≤ 9223372036854775807) :
    Calls Tryz.prog 108 #[.slice A n c, .slice Af nf cf, .slice At nt' ct] w (fun y w' => (∃ x, y = .returned x ∧ MoreOk p0 (moreL order fr to) x w w') ∧ Below w.heap.size w w') := by
  refine XK.enter (vs := [.slice A n c, .slice Af nf cf, .slice At nt' ct]) Tryz.func108 rfl Tryz.ntmps108 (by simp) ?_
  refine XK.seq ?_

  refine XK.region ?_
  refine xk_box rfl (by decide) fun g1 => ?_
  refine xk_box rfl (by decide) fun g2 => ?_
  refine xk_box rfl (by decide) fun g3 => ?_
  refine xk_assign rfl (by decide) ?_
  refine XK.nilN ?_
  refine XK.seq ?_

  refine XK.region ?_
  refine xk_func (vf := []) (vc := [.pointer (some ⟨g1, 0, none⟩), .pointer (some ⟨g3, 0, none⟩), .pointer (some ⟨g2, 0, none⟩)]) rfl rfl (by decide) ?_
  refine xk_assign rfl (by decide) ?_
  refine XK.nilN ?_
  refine XK.ret ?_
  refine XK.norm ?_
  refine XK.still [] [0, 1, 2] [] (by simp) rfl (by decide) (by decide) fun q hq _ hfr => ?_
  refine XK.ret1 rfl rfl fun w1 st => ⟨⟨_, rfl, g1, g3, g2, rfl, fun q2 hp0 hf => ?_⟩, st.below (by simp)⟩
  have hle := (st.fresh_le (by simp) (hfr (by simp) (by simp))).trans' hf
  exact more1_iter q2 g1 g3 g2 n nt' nf c ct cf A At Af order fr to ((RP.of_blk (hq 2 _ (by simp) rfl) rfl).le hle) ((RP.of_blk (hq 0 _ (by simp) rfl) rfl).le hle) ((RP.of_blk (hq 1 _ (by simp) rfl) rfl).le hle) (hs.le hp0) hn hn2 (hst.le hp0) hnt (hsf.le hp0) hnf hord

theorem steps1_iter (p : Piece) (g1 g2 g3 g4 : Nat) (gf vid : FuncId) (lb vcap : List Value) (pr msg : Int) (val : Nat → Int) (ids : List Nat) (h1 : RP p g1 0 (.func (.func gf) #[] lb.toArray)) (h2 : RP p g2 0 (.int .i64 pr)) (h3 : RP p g3 0 (.int .i64 msg)) (h4 : RP p g4 0 (.func (.func vid) #[] vcap.toArray))
    (hit : Iter Tryz.prog gf lb (idCells ids) p) (hgc : callB Tryz.prog gf = true) (hvc : callB Tryz.prog vid = true) (hval : ValOk p vid vcap ids val) (hids : ∀ i ∈ ids, i < 4294967296) :
    Iter Tryz.prog 141 [.pointer (some ⟨g1, 0, none⟩), .pointer (some ⟨g2, 0, none⟩), .pointer (some ⟨g3, 0, none⟩), .pointer (some ⟨g4, 0, none⟩)] (stepCells pr msg val ids) p := by
  unfold Iter
  intro l J Jx W F hp hd hJ hF hY
  refine XC.enter (vs := [.func (.yield l) #[] #[], .pointer (some ⟨g1, 0, none⟩), .pointer (some ⟨g2, 0, none⟩), .pointer (some ⟨g3, 0, none⟩), .pointer (some ⟨g4, 0, none⟩)]) Tryz.func141 rfl Tryz.ntmps141 (by simp) (St.iter hp hd hJ hF) ?_
  dsimp only [List.cons_append, List.nil_append]
  refine XC.seq ?_
  refine XC.regionW (by kernel_rfl) ?_
  refine xk_box rfl (by decide) fun g5 => ?_
  refine XC.endW ?_
  refine XC.norm ?_
  refine XC.seq ?_
  refine XC.regionW (by kernel_rfl) ?_
  refine xk_load (by kernel_rfl) rfl (h1.rd (by simp)) (by decide) ?_
  refine XC.endW ?_
  refine XC.norm ?_
  refine XK.envS [(7, .func (.func gf) #[] lb.toArray), (5, .pointer (some ⟨g5, 0, none⟩)), (4, .pointer (some ⟨g4, 0, none⟩)), (3, .pointer (some ⟨g3, 0, none⟩)), (2, .pointer (some ⟨g2, 0, none⟩))] ?_
  refine XC.block ?_
  refine XC.range (gf := gf) (lb := lb) (encs := idCells ids) (p := p) rfl hgc hit (by simp) (fun vs hvs => ?_) (by decide) (fun k => [HP.blk g5 180 [.func (.yield l) #[] #[]], J k]) (fun k => [HP.blk g5 180 [.func (.yield l) #[] #[]], Jx k])
    (fun k vs e1 H1 => e1 = [(6, vs.headD (.tuple #[])), (5, .pointer (some ⟨g5, 0, none⟩)), (4, .pointer (some ⟨g4, 0, none⟩)), (3, .pointer (some ⟨g3, 0, none⟩)), (2, .pointer (some ⟨g2, 0, none⟩))] ∧ H1 = [HP.blk g5 180 [.func (.yield l) #[] #[]], J k]) rfl ?_ ?_ ?_ ?_
  · simp only [idCells, List.mem_map] at hvs
    obtain ⟨i, _, rfl⟩ := hvs
    rfl
  ·
    intro l2 k vs W1 q X hvs hsm
    obtain ⟨i, hi, rfl⟩ : ∃ i, ids[k]? = some i ∧ vs = [.int .i64 (i : Int)] := by
      simp only [idCells, List.getElem?_map, Option.map_eq_some_iff] at hvs
      obtain ⟨i, h, e⟩ := hvs
      exact ⟨i, h, e.symm⟩
    refine XC.regionW (by kernel_rfl) ?_
    refine xk_assign rfl (by decide) ?_
    refine XC.endW ?_
    refine XK.envS [(6, .int .i64 (i : Int)), (5, .pointer (some ⟨g5, 0, none⟩)), (4, .pointer (some ⟨g4, 0, none⟩)), (3, .pointer (some ⟨g3, 0, none⟩)), (2, .pointer (some ⟨g2, 0, none⟩))] ?_
    exact XC.assigned ⟨rfl, rfl⟩
  ·
    rintro l2 k vs W1 q X _ _ hvs hsm ⟨rfl, rfl⟩
    obtain ⟨i, hik, rfl⟩ : ∃ i, ids[k]? = some i ∧ vs = [.int .i64 (i : Int)] := by
      simp only [idCells, List.getElem?_map, Option.map_eq_some_iff] at hvs
      obtain ⟨i, h, e⟩ := hvs
      exact ⟨i, h, e.symm⟩
    have hi := List.mem_of_getElem? hik
    have hib := hids i hi
    dsimp only [List.cons_append, List.nil_append, List.headD_cons]
    refine XC.block ?_
    refine XC.seq ?_
    refine XC.draw 9 (by kernel_rfl) (by kernel_rfl) ?_
    simp only [List.take_succ_cons, List.take_zero, List.drop_succ_cons, List.drop_zero]
    refine XA.dA 0 rfl rfl rfl (does_load (by kernel_rfl) rfl (Rd.blk 0 rfl rfl)) ?_
    refine XA.dA 1 rfl rfl rfl (does_load (by kernel_rfl) rfl (h2.rd (by simp))) ?_
    refine XA.dA 2 rfl rfl rfl (does_load (by kernel_rfl) rfl (h3.rd (by simp))) ?_
    refine XA.dA 3 rfl rfl rfl (does_move rfl) ?_
    refine XA.dA 4 rfl rfl rfl (does_conv (ds := .int .i64) (by kernel_rfl) (by kernel_rfl) rfl (wrap_u32 (by omega))) ?_
    refine XA.dA 5 rfl rfl rfl (does_load (by kernel_rfl) rfl (h4.rd (by simp))) ?_
    refine XA.dA 6 rfl rfl rfl (does_move rfl) ?_
    refine XA.next 7 rfl (by kernel_rfl) ?_
    refine xk_callR (f := vid) (fi := []) (ca := vcap) hvc rfl rfl (by decide) (fun w1 st => hval i hi w1 (st.le (by simp))) ?_
    refine XA.bk ?_
    refine XA.dA 8 rfl rfl rfl (does_buildS (zs := [.int .i64 0, .int .i64 0, .int .u32 0, .int .u32 0]) (L := [(0, 1), (1, 1), (2, 1), (3, 1)]) (zeroB_of (by kernel_rfl)) (by kernel_rfl) rfl (by simp [fillL, setN, Value.cells]; rfl)) ?_
    refine XA.done (by kernel_rfl) ?_
    refine XI.start ?_
    refine XI.yield 1 rfl rfl (by decide) (by simp : nt W F ∈ [p, nt W F, q]) hsm rfl (fun W2 F2 h1 h2 h3 => hY k _ W2 F2 (by simp [stepCells, hik]; rfl) h1 h2 h3) ?_ ?_
    · dsimp only [List.set]
      refine XI.op (by kernel_rfl) ?_; refine xk_not rfl (by decide) ?_; refine XI.back ?_
      refine XI.nil ?_
      refine XC.norm ?_
      refine XC.cond rfl (fun h => by cases h) (fun _ => ?_)
      refine XC.skip ?_
      refine XC.norm ?_
      exact XC.bodyN
    · dsimp only [List.set]
      refine XI.op (by kernel_rfl) ?_; refine xk_not rfl (by decide) ?_; refine XI.back ?_
      refine XI.nil ?_
      refine XC.norm ?_
      refine XC.cond rfl (fun _ => ?_) (fun h => by cases h)
      refine XC.ret ?_
      refine XC.norm ?_
      exact XC.bodyR
  ·
    intro D
    dsimp only [List.cons_append, List.nil_append]
    refine XC.norm ?_
    refine XC.ret0 (Hs := [HP.blk g5 180 [.func (.yield l) #[] #[]], J (idCells ids).length]) (.inr rfl) rfl fun w1 st => ?_
    obtain ⟨F', h1, h2⟩ := st.turns hF (by simp [nt]) (i := 1) rfl
    exact ⟨⟨_, rfl⟩, F', h2, .inl (by simpa [idCells, stepCells] using h1)⟩
  · intro D k hk
    dsimp only [List.cons_append, List.nil_append]
    refine XC.ret ?_
    refine XC.norm ?_
    refine XC.ret0 (Hs := [HP.blk g5 180 [.func (.yield l) #[] #[]], Jx (k + 1)]) (.inl rfl) rfl fun w1 st => ?_
    obtain ⟨F', h1, h2⟩ := st.turns hF (by simp [nt]) (i := 1) rfl
    exact ⟨⟨_, rfl⟩, F', h2, .inr ⟨k, by simpa [idCells, stepCells] using hk, h1⟩⟩

def StepsOk (p0 : Piece) (encs : List (List Value)) (y : Value) (w w' : World) : Prop := ∃ g1 g2 g3 g4, y = .func (.func 141) #[] #[.pointer (some ⟨g1, 0, none⟩), .pointer (some ⟨g2, 0, none⟩), .pointer (some ⟨g3, 0, none⟩), .pointer (some ⟨g4, 0, none⟩)] ∧ ∀ q, p0.Le q → (fresh w w').Le q → Iter Tryz.prog 141 [.pointer (some ⟨g1, 0, none⟩), .pointer (some ⟨g2, 0, none⟩), .pointer (some ⟨g3, 0, none⟩), .pointer (some ⟨g4, 0, none⟩)] encs q
theorem steps_any (p0 : Piece) (gf vid : FuncId) (lb vcap : List Value) (pr msg : Int) (val : Nat → Int) (ids : List Nat) (w : World) (hit : Iter Tryz.prog gf lb (idCells ids) p0) (hgc : callB Tryz.prog gf = true) (hvc : callB Tryz.prog vid = true) (hval : ValOk p0 vid vcap ids val) (hids : ∀ i ∈ ids, i < 4294967296) :
    Calls Tryz.prog 107 #[.func (.func gf) #[] lb.toArray, .int .i64 pr, .int .i64 msg, .func (.func vid) #[] vcap.toArray] w (fun y w' => (∃ x, y = .returned x ∧ StepsOk p0 (stepCells pr msg val ids) x w w') ∧ Below w.heap.size w w') := by
  refine XK.enter (vs := [.func (.func gf) #[] lb.toArray, .int .i64 pr, .int .i64 msg, .func (.func vid) #[] vcap.toArray]) Tryz.func107 rfl Tryz.ntmps107 (by simp) ?_
  refine XK.seq ?_

  refine XK.region ?_
  refine xk_box rfl (by decide) fun g1 => ?_
  refine xk_box rfl (by decide) fun g2 => ?_
  refine xk_box rfl (by decide) fun g3 => ?_
  refine xk_box rfl (by decide) fun g4 => ?_
  refine xk_assign rfl (by decide) ?_
  refine XK.nilN ?_
  refine XK.seq ?_

  refine XK.region ?_
  refine xk_func (vf := []) (vc := [.pointer (some ⟨g1, 0, none⟩), .pointer (some ⟨g2, 0, none⟩), .pointer (some ⟨g3, 0, none⟩), .pointer (some ⟨g4, 0, none⟩)]) rfl rfl (by decide) ?_
  refine xk_assign rfl (by decide) ?_
  refine XK.nilN ?_
  refine XK.ret ?_
  refine XK.norm ?_
  refine XK.still [] [0, 1, 2, 3] [] (by simp) rfl (by decide) (by decide) fun q hq _ hfr => ?_
  refine XK.ret1 rfl rfl fun w1 st => ⟨⟨_, rfl, g1, g2, g3, g4, rfl, fun q2 hp0 hf => ?_⟩, st.below (by simp)⟩
  have hle := (st.fresh_le (by simp) (hfr (by simp) (by simp))).trans' hf
  exact steps1_iter q2 g1 g2 g3 g4 gf vid lb vcap pr msg val ids ((RP.of_blk (hq 3 _ (by simp) rfl) rfl).le hle) ((RP.of_blk (hq 2 _ (by simp) rfl) rfl).le hle) ((RP.of_blk (hq 1 _ (by simp) rfl) rfl).le hle) ((RP.of_blk (hq 0 _ (by simp) rfl) rfl).le hle) (hit.le hp0) hgc hvc (hval.le hp0) hids

end Go.Proofs.YtbgibbbggajgaaaGreat
/- plan: the iterator that goes through all rows of steps. -/
namespace Go.Proofs.YtbgibbbggajgaaaGreat
set_option linter.all false
open Go.RowKit
attribute [local irreducible] KC KI KQ
structure Stp where
  pr : Int
  msg : Int
  id : Int
  v : Int
def Stp.cells (s : Stp) : List Value := [.int .i64 s.pr, .int .i64 s.msg, .int .u32 s.id, .int .u32 s.v]
def stV (s : Stp) : Value := .agg s.cells.toArray
def stEnc (l : List Stp) : List (List Value) := l.map fun s => [stV s]
def stepL (pr msg : Int) (val : Nat → Int) (ids : List Nat) : List Stp := ids.map fun (i : Nat) => ⟨pr, msg, i, val i⟩
theorem stepCells_eq (pr msg : Int) (val : Nat → Int) (ids : List Nat) : stepCells pr msg val ids = stEnc (stepL pr msg val ids) := by
  simp [stepCells, stEnc, stepL, stV, StepV, Stp.cells]
/-- one row of steps: its iterator -/
structure RowI where
  gf : FuncId
  lb : List Value
  sts : List Stp
def RowI.fn (r : RowI) : Value := .func (.func r.gf) #[] r.lb.toArray
def rowsL (rows : List RowI) : List Stp := rows.flatMap (·.sts)
def offR (rows : List RowI) (i : Nat) : Nat := (rowsL (rows.take i)).length
theorem offR_next {rows : List RowI} {i : Nat} {r : RowI} (h : rows[i]? = some r) : offR rows (i + 1) = offR rows i + r.sts.length := by
  simp [offR, rowsL, List.take_add_one, h]
theorem offR_get {rows : List RowI} {i k : Nat} {r : RowI} {s : Stp} (h : rows[i]? = some r) (hs : r.sts[k]? = some s) : (rowsL rows)[offR rows i + k]? = some s := by
  have hlt := (List.getElem?_eq_some_iff.1 h).1
  have hv := (List.getElem?_eq_some_iff.1 h).2
  have h2 : rows = rows.take i ++ r :: rows.drop (i + 1) := by
    rw [← hv, List.getElem_cons_drop hlt, List.take_append_drop]
  have h3 : rowsL rows = rowsL (rows.take i) ++ (r.sts ++ rowsL (rows.drop (i + 1))) := by
    conv => lhs; rw [h2]
    simp [rowsL]
  have hk := (List.getElem?_eq_some_iff.1 hs).1
  rw [h3, offR, List.getElem?_append_right (by omega), Nat.add_sub_cancel_left, List.getElem?_append_left hk]
  exact hs
theorem offR_all {rows : List RowI} {i : Nat} (h : rows.length ≤ i) : offR rows i = (rowsL rows).length := by rw [offR, List.take_of_length_le h]

theorem all2_iter (p : Piece) (g1 n c : Nat) (A : Option Addr) (rows : List RowI) (h1 : RP p g1 0 (.slice A n c)) (hs : SlS p 1 A n (rows.map RowI.fn)) (hn : n = rows.length) (hn2 : (n : Int) ≤ 1000000)
    (hrows : ∀ r ∈ rows, callB Tryz.prog r.gf = true ∧ Iter Tryz.prog r.gf r.lb (stEnc r.sts) p) :
    Iter Tryz.prog 111 [.pointer (some ⟨g1, 0, none⟩)] (stEnc (rowsL rows)) p := by
  unfold Iter
  intro l J Jx W F hp hd hJ hF hY
  refine XC.enter (vs := [.func (.yield l) #[] #[], .pointer (some ⟨g1, 0, none⟩)]) Tryz.func111 rfl Tryz.ntmps111 (by simp) (St.iter hp hd hJ hF) ?_
  dsimp only [List.cons_append, List.nil_append]
  refine XC.seq ?_

  refine XC.regionW (by kernel_rfl) ?_
  refine xk_box rfl (by decide) fun g2 => ?_
  refine XC.endW ?_
  refine XC.norm ?_
  refine XC.seq ?_

  refine XC.regionW (by kernel_rfl) ?_
  refine xk_load (by kernel_rfl) rfl (h1.rd (by simp)) (by decide) ?_
  refine xk_len (el := 134) (by kernel_rfl) rfl (by decide) ?_
  refine xk_move rfl (by decide) ?_
  refine XC.endW ?_
  refine XC.norm ?_
  refine XK.envS [(8, .int .i64 0), (7, .int .i64 n), (6, .slice A n c), (2, .pointer (some ⟨g2, 0, none⟩))] ?_
  refine XC.block ?_
  refine XC.loop (fun m L e R H => ∃ i : Nat, i ≤ n ∧ m = n - i ∧ e = [(8, .int .i64 i), (7, .int .i64 n), (6, .slice A n c), (2, .pointer (some ⟨g2, 0, none⟩))] ∧ R = [p, nt W F] ∧ H = [HP.blk g2 180 [.func (.yield l) #[] #[]], J (offR rows i), HP.marks L]) n ⟨0, by omega, rfl, rfl, rfl, rfl⟩ fun m L e R H hI => ?_
  obtain ⟨i, hi, rfl, rfl, rfl, rfl⟩ := hI
  refine XC.seq ?_

  refine XC.regionW (by kernel_rfl) ?_
  refine xk_lss rfl rfl (by decide) ?_
  refine XC.endW ?_
  refine XC.norm ?_
  refine XC.seq ?_
  refine XC.if_ rfl (fun h => ?_) (fun h => ?_)
  ·
    refine XC.skip ?_
    refine XC.norm ?_
    refine XC.seq ?_
    refine XC.block ?_
    refine XC.seq ?_
    have hin : i < rows.length := by omega
    obtain ⟨b, off, rfl, hz, hc⟩ := hs.2 (by omega)
    obtain ⟨r, hr⟩ : ∃ r, rows[i]? = some r := ⟨_, List.getElem?_eq_getElem hin⟩
    obtain ⟨hcb, hit⟩ := hrows r (List.mem_of_getElem? hr)
    have hoff := offR_next hr

    refine XC.regionW (by kernel_rfl) ?_
    refine xk_at (i) (off + i) (el := 134) (sz := 1) (by kernel_rfl) (by kernel_rfl) rfl rfl (by omega) (by omega) (by omega) (by decide) ?_
    refine xk_load (by kernel_rfl) rfl (Rd.ro (p := p) (by simp) hz (hc i (RowI.fn r) (by simp [hr]))) (by decide) ?_
    refine xk_assign rfl (by decide) ?_
    refine XC.endW ?_
    refine XC.norm ?_
    refine XC.seq ?_

    refine XC.regionW (by kernel_rfl) ?_
    refine xk_move rfl (by decide) ?_
    refine XC.endW ?_
    refine XC.norm ?_
    refine XC.block ?_
    refine XK.envS [(12, RowI.fn r), (8, .int .i64 i), (7, .int .i64 n), (6, .slice (some ⟨b, off, none⟩) n c), (2, .pointer (some ⟨g2, 0, none⟩))] ?_
    refine XC.range (gf := r.gf) (lb := r.lb) (encs := stEnc r.sts) (p := p) rfl hcb hit (by simp) (fun vs hvs => ?_) (by decide) (fun k => [HP.blk g2 180 [.func (.yield l) #[] #[]], J (offR rows i + k)]) (fun k => [HP.blk g2 180 [.func (.yield l) #[] #[]], Jx (offR rows i + k)])
      (fun k vs e1 H1 => ∃ (g3 : Nat) (s : Stp), vs = [stV s] ∧ e1 = [(5, .pointer (some ⟨g3, 0, none⟩)), (2, .pointer (some ⟨g2, 0, none⟩))] ∧ H1 = [HP.blk g3 75 s.cells, HP.blk g2 180 [.func (.yield l) #[] #[]], J (offR rows i + k)]) rfl ?_ ?_ ?_ ?_
    · simp only [stEnc, List.mem_map] at hvs
      obtain ⟨s, _, rfl⟩ := hvs
      rfl
    ·
      intro l2 k vs W1 q X hvs hsm
      obtain ⟨s, rfl⟩ : ∃ s, vs = [stV s] := by
        simp only [stEnc, List.getElem?_map, Option.map_eq_some_iff] at hvs
        obtain ⟨s, _, e⟩ := hvs
        exact ⟨s, e.symm⟩
      dsimp only [List.cons_append, List.nil_append]
      refine XC.regionW (by kernel_rfl) ?_
      refine xk_alloc (cs := [.int .i64 0, .int .i64 0, .int .u32 0, .int .u32 0]) (zeroB_of (by kernel_rfl)) (by decide) fun g3 => ?_
      refine xk_storeN 0 rfl rfl rfl (by kernel_rfl) (by simp [stV, Stp.cells, Value.cells, Value.oneCell']) (by simp [stV, Stp.cells, Value.cells]) ?_
      rw [show putN [Value.int .i64 0, .int .i64 0, .int .u32 0, .int .u32 0] 0 (stV s).cells.toList = s.cells by simp [putN, stV, Stp.cells, Value.cells]]
      dsimp only [List.set]
      refine XC.endW ?_
      refine XK.envS [(5, .pointer (some ⟨g3, 0, none⟩)), (2, .pointer (some ⟨g2, 0, none⟩))] ?_
      exact XC.assigned (H1 := [HP.blk g3 75 s.cells, HP.blk g2 180 [.func (.yield l) #[] #[]], J (offR rows i + k)]) ⟨g3, s, rfl, rfl, rfl⟩
    ·
      rintro l2 k vs W1 q X _ _ hvs hsm ⟨g3, s, rfl, rfl, rfl⟩
      have hsk : r.sts[k]? = some s := by
        simp only [stEnc, List.getElem?_map, Option.map_eq_some_iff] at hvs
        obtain ⟨s', h, e⟩ := hvs
        have : s' = s := by
          cases s; cases s'
          simp [stV, Stp.cells] at e
          simp [e]
        exact this ▸ h
      have hget := offR_get hr hsk
      dsimp only [List.cons_append, List.nil_append]
      refine XC.block ?_
      refine XC.seq ?_
      refine XC.region ?_
      refine XI.op (by kernel_rfl) ?_; refine xk_load (by kernel_rfl) rfl (Rd.blk 1 rfl rfl) (by decide) ?_; refine XI.back ?_
      refine XI.op (by kernel_rfl) ?_; refine xk_loadN 4 (by kernel_rfl) rfl (RdN.whole 0 rfl) rfl (by decide) ?_; refine XI.back ?_
      refine XI.yield 2 rfl rfl (by decide) (by simp : nt W F ∈ [p, nt W F, q]) hsm rfl (fun W2 F2 h1 h2 h3 => hY (offR rows i + k) [stV s] W2 F2 (by simp [stEnc, hget]) h1 h2 h3) ?_ ?_
      · dsimp only [List.set]
        refine XI.op (by kernel_rfl) ?_; refine xk_not rfl (by decide) ?_; refine XI.back ?_
        refine XI.nil ?_
        refine XC.norm ?_
        refine XC.cond rfl (fun h => by cases h) (fun _ => ?_)
        refine XC.skip ?_
        refine XC.norm ?_
        refine XK.weak [1, 2, 3] rfl (by decide) (fun _ hp => hp) ?_
        exact XC.bodyN
      · dsimp only [List.set]
        refine XI.op (by kernel_rfl) ?_; refine xk_not rfl (by decide) ?_; refine XI.back ?_
        refine XI.nil ?_
        refine XC.norm ?_
        refine XC.cond rfl (fun _ => ?_) (fun h => by cases h)
        refine XC.ret ?_
        refine XC.norm ?_
        refine XK.weak [1, 2, 3] rfl (by decide) (fun _ hp => hp) ?_
        exact XC.bodyR
    rotate_left
    ·
      intro D k hk
      dsimp only [List.cons_append, List.nil_append]
      refine XC.ret ?_
      refine XC.norm ?_
      refine XC.ret0 (Hs := [HP.blk g2 180 [.func (.yield l) #[] #[]], Jx (offR rows i + (k + 1))]) (.inl rfl) rfl fun w1 st => ?_
      obtain ⟨F', h1, h2⟩ := st.turns hF (by simp [nt]) (i := 1) rfl
      obtain ⟨s, hs2⟩ : ∃ s, r.sts[k]? = some s := ⟨_, List.getElem?_eq_getElem (by simpa [stEnc] using hk)⟩
      have := (List.getElem?_eq_some_iff.1 (offR_get hr hs2)).1
      exact ⟨⟨_, rfl⟩, F', h2, .inr ⟨offR rows i + k, by simpa [stEnc] using this, h1⟩⟩
    intro D
    dsimp only [List.cons_append, List.nil_append]
    refine XC.norm ?_

    refine XC.regionW (by kernel_rfl) ?_
    refine xk_add rfl rfl (wrap_in (by omega)) (by decide) ?_
    refine xk_move rfl (by decide) ?_
    refine XC.endW ?_
    refine XC.norm ?_
    exact XK.envS [(8, .int .i64 (i + 1)), (7, .int .i64 n), (6, .slice (some ⟨b, off, none⟩) n c), (2, .pointer (some ⟨g2, 0, none⟩))] (XC.round (n - (i + 1)) (by omega) ⟨i + 1, by omega, rfl, rfl, rfl, by rw [hoff]; simp [stEnc]⟩)
  ·
    refine XC.exit ?_
    refine XC.norm ?_
    refine XC.ret0 (Hs := [HP.blk g2 180 [.func (.yield l) #[] #[]], J (offR rows i)]) (.inr rfl) rfl fun w1 st => ?_
    obtain ⟨F', h1, h2⟩ := st.turns hF (by simp [nt]) (i := 1) rfl
    rw [offR_all (by omega)] at h1
    exact ⟨⟨_, rfl⟩, F', h2, .inl (by simpa [stEnc] using h1)⟩

def retV (s : Soc) (d : Nat) : Int := if (s.domains[d]?.map (·.ret)).getD false then 2 else 0
theorem all1_any (d gs n2 k2 : Nat) (s : Soc) (A2 : Option Addr) (w : World) (h2 : ROc w gs 1 (.slice A2 n2 k2)) (hdom : RsR (slq (all w)) DomR 89 3 A2 n2 s.domains) (hn2 : (n2 : Int) ≤ 1000000) (hd : d < n2) :
    Calls Tryz.prog 110 #[.int .i64 d, .pointer (some ⟨gs, 0, none⟩)] w (Rt (.int .u32 (retV s d)) w) := by
  have hl : n2 = s.domains.length := by obtain ⟨_, _, h, _⟩ := hdom; exact h
  obtain ⟨x, hx⟩ : ∃ x, s.domains[d]? = some x := ⟨_, List.getElem?_eq_getElem (by omega)⟩
  obtain ⟨b, off, r, rfl, hrl, rfl, hro⟩ := hdom.row hx
  refine XK.enter (vs := [.int .i64 d, .pointer (some ⟨gs, 0, none⟩)]) Tryz.func110 rfl Tryz.ntmps110 (by simp) ?_
  refine XK.seq ?_

  refine XK.region ?_
  refine xk_assign rfl (by decide) ?_
  refine XK.nilN ?_
  refine XK.seq ?_
  refine XK.seq ?_

  refine XK.region ?_
  refine xk_field (off := 1) (by kernel_rfl) rfl (by decide) ?_
  refine xk_load (by kernel_rfl) rfl (Rd.roc (by simp) h2) (by decide) ?_
  refine xk_move rfl (by decide) ?_
  refine xk_at (d) (off + d * 3) (el := 89) (sz := 3) (by kernel_rfl) (by kernel_rfl) rfl rfl (by omega) (by omega) (by omega) (by decide) ?_
  refine xk_field (off := 2) (by kernel_rfl) rfl (by decide) ?_
  refine xk_load (by kernel_rfl) rfl (Rd.roc (by simp) (hro.at_ (j := 2) (v := .bool x.ret) rfl)) (by decide) ?_
  refine XK.nilN ?_
  refine XK.cond rfl (fun h => ?_) (fun h => ?_)
  ·
    refine XK.seq ?_

    refine XK.region ?_
    refine xk_assign rfl (by decide) ?_
    refine XK.nilN ?_
    refine XK.ret ?_
    refine XK.norm ?_
    exact XK.ret1 rfl rfl fun w1 st => ⟨by rw [retV, hx]; simp [h], st.below (by simp)⟩
  ·
    refine XK.skip ?_
    refine XK.norm ?_
    refine XK.seq ?_

    refine XK.region ?_
    refine xk_assign rfl (by decide) ?_
    refine XK.nilN ?_
    refine XK.ret ?_
    refine XK.norm ?_
    exact XK.ret1 rfl rfl fun w1 st => ⟨by rw [retV, hx]; simp [h], st.below (by simp)⟩
theorem all1_ok (p : Piece) (gs n2 k2 : Nat) (s : Soc) (A2 : Option Addr) (h2 : RP p gs 1 (.slice A2 n2 k2)) (hdom : RsR (slq p) DomR 89 3 A2 n2 s.domains) (hn2 : (n2 : Int) ≤ 1000000) (ids : List Nat) (hids : ∀ i ∈ ids, i < n2) : ValOk p 110 [.pointer (some ⟨gs, 0, none⟩)] ids (retV s) := fun i hi w' hw' =>
  all1_any i gs n2 k2 s A2 w' (h2.le hw') (hdom.mono (slq_le hw') (fun _ _ h => h)) hn2 (hids i hi)

end Go.Proofs.YtbgibbbggajgaaaGreat
/- The small logic: pieces that hold nothing but a given one, and what is new. -/
namespace Go.Proofs.YtbgibbbggajgaaaGreat
set_option linter.all false
open Go.RowKit
/-- nothing but p0, and what is new since w0 -/
def Near (p0 : Piece) (w0 : World) (q : Piece) : Prop := ∀ b, q.Z b → p0.Z b ∨ w0.heap.size ≤ b
section
variable {P : Program} {N : Nat} {w0 w : World} {e : Env} {R : List Piece} {H H' : List HP} {Q : Exit → Act → World → Prop} {ops : Array Oper} {rest : List Oper} {K : Act → World → Prop}
variable {d : Nat} {ty : TypeId} {pos : String} {aft : Array Edge}
theorem St.piece {p : Piece} (st : St w0 R H w) (hR : all w0 ∈ R) (hp : p.Le (all w0)) : St w0 (p :: R) H w := by
  obtain ⟨Z, F, hz, hr, hs, hf, hd⟩ := st.ex
  refine ⟨st.os, st.tape, st.output, st.size, Z, F, hz, fun q hq b hb => ?_, hs, hf, hd⟩
  simp only [List.mem_cons] at hq
  rcases hq with rfl | hq
  · have h1 := hr _ hR b (hp b hb).1
    exact ⟨h1.1, h1.2.trans (hp b hb).2⟩
  · exact hr q hq b hb
theorem XK.piece (p : Piece) (hR : all w0 ∈ R) (hp : p.Le (all w0)) (h : XK N w0 K e (p :: R) H) : XK N w0 K e R H := fun a w hr st => h a w hr (st.piece hR hp)
theorem near_le {p0 qs q2 : Piece} {w1 : World} (st : St w0 R H w1) (hq : qs ∈ R) (hn : Near p0 w0 qs) (h0 : p0.Le qs) (h1 : p0.Le q2) (h2 : (fresh w0 w1).Le q2) : qs.Le q2 := fun b hb => by
  rcases hn b hb with h | h
  · obtain ⟨h3, h4⟩ := h1 b h
    exact ⟨h3, h4.trans (h0 b h).2.symm⟩
  · obtain ⟨h3, h4⟩ := h2 b ⟨h, st.ro_lt hq hb⟩
    exact ⟨h3, h4.trans (st.ro hq hb)⟩
theorem xk_callP (p q0 : Piece) {f : FuncId} {x : Operand} {args : List Operand} {fi ca vs : List Value} {tys : Array TypeId} (hf : callB P f = true) (hx : e.ev x = some (.func (.func f) fi.toArray ca.toArray)) (ha : e.evs args = some vs) (hd : d < N) (hps : q0 ∈ R) (hn : Near p w0 q0)
    (R' : Value → World → World → Prop) (hc : ∀ w, St w0 R H w → Calls P f (fi ++ vs ++ ca).toArray w fun y w' => (∃ v, y = .returned v ∧ R' v w w') ∧ Below w.heap.size w w')
    (k : ∀ v w q, R' v w q.w → (fresh w q.w).Le q → q0.Le q → Near p w0 q → XK N w0 (wpList P ops Q rest) ((d, v) :: e) (q :: R) H) :
    XK N w0 (wpList P ops Q (⟨some d, .call { callee := .value x, args := args.toArray, argTypes := tys }, ty, pos, aft, none⟩ :: rest)) e R H := fun a w hr st => wpList_plain rfl fun K hK => by
  unfold callB at hf
  cases hq : P.funcs[f]? with
  | none => simp [hq] at hf
  | some fn =>
    simp [hq] at hf
    obtain ⟨hf1, hf2⟩ := hf
    have hrun : (execOp a.eval (⟨some d, .call { callee := .value x, args := args.toArray, argTypes := tys }, ty, pos, aft, none⟩ : Oper)).run P w = .ok (.enter f (fi ++ vs ++ ca).toArray) w := by
      cases hb : fn.body with
      | none => simp [hb] at hf2
      | some c =>
        simp [execOp, resolve, hr.ev hx, Deferred.ofValue, invoke, callFunc, hq, hf1, hb, hr.evs ha]
    unfold Oper.wp
    rw [hrun]
    refine (hc w st).mono fun y w' ⟨⟨v, hy, hR⟩, hb⟩ => ?_
    subst hy
    refine hK _ _ (k v w ⟨w', fun b => (fresh w w').Z b ∨ q0.Z b⟩ hR (fun b h => ⟨.inl h, rfl⟩) (fun b h => ⟨.inr h, ?_⟩) (fun b hb => ?_) _ _ (hr.put hd v) (st.seen hb (fun b h => h.imp id fun hz => ⟨q0, hps, hz⟩)))
    · exact (hb.block b (st.ro_lt hps h)).trans (st.ro hps h)
    · rcases hb with hb | hb
      · exact .inr (Nat.le_trans st.size hb.1)
      · exact hn b hb
/-- blocks of the call's own are written no more; what is seen is near p -/
theorem XK.stillP (p q0 : Piece) (fs is : List Nat) (hq0 : q0 ∈ R) (hR : all w0 ∈ R) (hn : Near p w0 q0) (hH : selB is H = some H') (hnd : is.Nodup) (hf : ∀ i ∈ fs, i ∉ is)
    (h : ∀ q : Piece, (∀ (i : Nat) (p : HP), i ∈ fs → H[i]? = some p → ∃ F, p.sat F q.w ∧ ∀ b, F b → q.Z b) → q0.Le q → Near p w0 q → XK N w0 K e (q :: R) H') : XK N w0 K e R H := fun a w hr st => by
  obtain ⟨Z, F, hz, hrr, hs, hff, hd⟩ := st.ex
  have hlen := selB_len hH
  have hinj := nodup_inj hnd
  have hget := selB_get hH
  refine h ⟨w, fun b => q0.Z b ∨ ∃ i, i ∈ fs ∧ F i b⟩ (fun i p hi hp => ⟨F i, hs i p hp, fun b hb => .inr ⟨i, hi, hb⟩⟩) (fun b hb => ⟨.inl hb, (hrr q0 hq0 b hb).2⟩) (fun b hb => ?_) a w hr
    ⟨st.os, st.tape, st.output, st.size, fun b => Z b ∨ ∃ i, i ∈ fs ∧ F i b, fun i b => i < H'.length ∧ F (is.getD i 0) b, ?_, ?_, ?_, ?_, ?_⟩
  · rcases hb with hb | ⟨i, hi, hb⟩
    · exact hn b hb
    · refine .inr ?_
      rcases Nat.lt_or_ge b w0.heap.size with h | h
      · exact absurd (hrr _ hR b h).1 (hff i b hb).1
      · exact h
  · rintro b (h | ⟨i, _, h⟩)
    · exact hz b h
    · exact (hff i b h).2
  · intro p hp b hb
    simp only [List.mem_cons] at hp
    rcases hp with rfl | hp
    · refine ⟨?_, rfl⟩
      rcases hb with hb | hb
      · exact .inl (hrr q0 hq0 b hb).1
      · exact .inr hb
    · exact ⟨.inl (hrr p hp b hb).1, (hrr p hp b hb).2⟩
  · intro i p hi
    have hlt : i < H'.length := by
      rcases Nat.lt_or_ge i H'.length with h | h
      · exact h
      · rw [List.getElem?_eq_none h] at hi; cases hi
    show p.sat (fun b => i < H'.length ∧ F (is.getD i 0) b) w
    rw [show (fun b => i < H'.length ∧ F (is.getD i 0) b) = F (is.getD i 0) by funext b; simp [hlt]]
    exact hs _ p (hget i p hi)
  · rintro i b ⟨hi, h⟩
    refine ⟨?_, (hff _ b h).2⟩
    rintro (hzb | ⟨j, hj, hjb⟩)
    · exact (hff _ b h).1 hzb
    · have hi' : i < is.length := by omega
      have hmem : is.getD i 0 ∈ is := by simp [List.getD_eq_getElem?_getD, List.getElem?_eq_getElem hi']
      exact hd (is.getD i 0) j b (fun e => hf j hj (e ▸ hmem)) h hjb
  · exact fun i j b hij h hj => hd (is.getD i 0) (is.getD j 0) b (fun e => hij (hinj i j (by omega) (by omega) e)) h.2 hj.2
end
end Go.Proofs.YtbgibbbggajgaaaGreat
/- A region that draws its order, in which one alloc may come up at any time: the rest is walked once, whether it has come or not. -/
namespace Go.Proofs.YtbgibbbggajgaaaGreat
set_option linter.all false
open Go.RowKit
/-- the alloc has come (its block is g), or not yet -/
def emM (M : Option Nat) (d : Nat) (e : Env) : Env := match M with
  | none => e
  | some g => (d, .pointer (some ⟨g, 0, none⟩)) :: e
def hmM (M : Option Nat) (t : TypeId) (cs : List Value) (H : List HP) : List HP := match M with
  | none => H
  | some g => HP.blk g t cs :: H
def lmM (M : Option Nat) (j : Nat) (l : Array Bool) : Array Bool := match M with
  | none => l
  | some _ => l.setIfInBounds j true
def fmM (M : Option Nat) (f : Nat) : Nat := match M with
  | none => f + 1
  | some _ => f
def neB (d : Nat) : Operand → Bool
  | .tmp t => !(Nat.beq d t)
  | _ => true
theorem get_M (M : Option Nat) {d t : Nat} {e : Env} {v : Value} (h : e.get t = some v) (hn : Nat.beq d t = false) : (emM M d e).get t = some v := by
  cases M with
  | none => exact h
  | some g =>
    show Env.get ((d, _) :: e) t = some v
    unfold Env.get
    rw [hn]
    exact h
theorem ev_M (M : Option Nat) {d : Nat} {e : Env} {x : Operand} {v : Value} (h : e.ev x = some v) (hn : neB d x = true) : (emM M d e).ev x = some v := by
  cases x with
  | tmp t => exact get_M M h (by simpa [neB] using hn)
  | _ => exact h
theorem evs_M (M : Option Nat) {d : Nat} {e : Env} : ∀ {xs : List Operand} {vs : List Value}, e.evs xs = some vs → xs.all (neB d) = true → (emM M d e).evs xs = some vs
  | [], vs, h, _ => by cases h; rfl
  | x :: xs, vs, h, hn => by
    simp only [List.all_cons, Bool.and_eq_true] at hn
    unfold Env.evs at h ⊢
    split at h
    · rename_i v r h1 h2
      cases h
      rw [ev_M M h1 hn.1, evs_M M h2 hn.2]
    · cases h
section
variable {P : Program} {N : Nat} {w0 w : World} {e : Env} {R R' R0 : List Piece} {H H0 : List HP} {Q : Exit → Act → World → Prop} {ops : Array Oper} {m fuel : Nat} {listed : Array Bool} {K : Act → World → Prop}
variable {d dA : Nat} {t ty : TypeId} {pos : String} {aft : Array Edge} {cs : List Value} {v : Value}
theorem XK.weakR (hR : ∀ p ∈ R', p ∈ R) (h : XK N w0 K e R' H) : XK N w0 K e R H := fun a w hr st => h a w hr (st.weak hR id (fun _ _ _ _ h => h) (fun _ _ h => h))
theorem St.unM {M : Option Nat} (h : St w0 R (hmM M t cs H) w) : St w0 R H w := by
  cases M with
  | none => exact h
  | some g => exact h.tail
theorem Rep.putM {M : Option Nat} {a : Act} (h : Rep N ((d, v) :: emM M dA e) a) (hd : Nat.beq d dA = false) : Rep N (emM M dA ((d, v) :: e)) a := by
  cases M with
  | none => exact h
  | some g =>
    refine ⟨h.size, h.defers, fun u x hu => h.get u x ?_⟩
    show Env.get ((d, v) :: (dA, _) :: e) u = some x
    have hu : Env.get ((dA, .pointer (some ⟨g, 0, none⟩)) :: (d, v) :: e) u = some x := hu
    unfold Env.get at hu ⊢
    cases h1 : Nat.beq d u with
    | true =>
      have := Nat.eq_of_beq_eq_true h1
      subst this
      rw [show Nat.beq dA d = false from (by rw [← hd]; cases h2 : Nat.beq dA d with
        | true => have := Nat.eq_of_beq_eq_true h2; subst this; rw [Nat.beq_refl] at hd; cases hd
        | false => exact hd.symm)] at hu
      unfold Env.get at hu
      rw [h1] at hu
      exact hu
    | false =>
      dsimp only
      unfold Env.get
      cases h2 : Nat.beq dA u with
      | true => rw [h2] at hu; exact hu
      | false =>
        rw [h2] at hu
        unfold Env.get at hu
        rw [h1] at hu
        exact hu
theorem XA.maybe (i j : Nat) {oi : Oper} {M : Option Nat} (hi : ops[i]? = some oi) (hj : ops[j]? = some ⟨some dA, .alloc t, ty, pos, aft, none⟩) (ht : zeroB P t cs) (hd : dA < N)
    (hr0 : Region.ready .any ops listed = [i, j]) (hr1 : Region.ready .any ops (listed.setIfInBounds j true) = [i]) (hS : ∀ w, St w0 R H w → St w0 R0 H0 w)
    (step : ∀ M, XK N w0 (wpList P ops (Exit.then (XAK P w0 ops Q R0 H0 m (fmM M fuel) (lmM M j listed) i) Q) [oi]) (emM M dA e) R (hmM M t cs H)) :
    XA P N w0 ops Q R0 H0 m (fmM M (fuel + 1)) (lmM M j listed) (emM M dA e) R (hmM M t cs H) := by
  cases M with
  | some g => exact XA.next i hi hr1 (step (some g))
  | none => exact XA.either i j hi hj hr0 (step none) (xk_alloc ht hd fun g => XK.nil (XK.thenN (XA.back (fun w h => hS w h.tail) (XA.next i hi hr1 (step (some g))))))
theorem XA.maybe0 {j : Nat} (dA : Nat) (t : TypeId) (cs : List Value) (h : ∀ M : Option Nat, XA P N w0 ops Q R0 H0 m (fmM M fuel) (lmM M j listed) (emM M dA e) R (hmM M t cs H)) : XA P N w0 ops Q R0 H0 m (fuel + 1) listed e R H := h none
theorem XA.backM {i j : Nat} {M : Option Nat} (hij : i ≠ j) (hd : Nat.beq d dA = false) (hS : ∀ w, St w0 R H w → St w0 R0 H0 w)
    (h : XA P N w0 ops Q R0 H0 m (fmM M fuel) (lmM M j (listed.setIfInBounds i true)) (emM M dA ((d, v) :: e)) R (hmM M t cs H)) : XK N w0 (XAK P w0 ops Q R0 H0 m (fmM M fuel) (lmM M j listed) i) ((d, v) :: emM M dA e) R (hmM M t cs H) := by
  refine XA.back (fun w h => hS w h.unM) ?_
  have hl : (lmM M j listed).setIfInBounds i true = lmM M j (listed.setIfInBounds i true) := by
    cases M with
    | none => rfl
    | some g => exact Array.setIfInBounds_comm _ _ (Ne.symm hij)
  rw [hl]
  exact fun up a w hr st => h up a w (hr.putM hd) st
theorem XK.swapM {M : Option Nat} {p : HP} (h : XK N w0 K e R (hmM M t cs (p :: H))) : XK N w0 K e R (p :: hmM M t cs H) := by
  cases M with
  | none => exact h
  | some g => exact fun a w hr st => h a w hr (st.weak (fun _ hp => hp) (fun i => match i with | 0 => 1 | 1 => 0 | i + 2 => i + 2) (fun i j _ _ he => by
      match i, j with
      | 0, 0 => rfl
      | 0, 1 => cases he
      | 0, j + 2 => simp at he
      | 1, 0 => cases he
      | 1, 1 => rfl
      | 1, j + 2 => simp at he
      | i + 2, 0 => simp at he
      | i + 2, 1 => simp at he
      | i + 2, j + 2 => simpa using he) (fun i q hq => by
      match i, hq with
      | 0, hq => exact hq
      | 1, hq => exact hq
      | i + 2, hq => exact hq))
/-! a bool that was reckoned by parts -/
theorem get_iff {p q : Prop} [Decidable p] [Decidable q] {u : Nat} (h : e.get u = some (.bool (decide p))) (hpq : p ↔ q) : e.get u = some (.bool (decide q)) := by
  rw [h, decide_eq_decide.2 hpq]
theorem get_false {q : Prop} [Decidable q] {u : Nat} (h : e.get u = some (.bool false)) (hq : ¬ q) : e.get u = some (.bool (decide q)) := by rw [h, decide_eq_false hq]
theorem get_true {q : Prop} [Decidable q] {u : Nat} (h : e.get u = some (.bool true)) (hq : q) : e.get u = some (.bool (decide q)) := by rw [h, decide_eq_true hq]
theorem get_bool {q : Prop} [Decidable q] {u : Nat} {b : Bool} (h : e.get u = some (.bool b)) (hb : b = true ↔ q) : e.get u = some (.bool (decide q)) := by
  rw [h]
  congr 2
  by_cases hq : q
  · rw [decide_eq_true hq, hb.2 hq]
  · rw [decide_eq_false hq]
    cases b
    · rfl
    · exact absurd (hb.1 rfl) hq
theorem Rep.sub_cons {e0 : Env} {a : Act} {u : Nat} {x : Value} (h : Rep N e a) (hs : e0.Sub e) (hu : e.get u = some x) : Rep N ((u, x) :: e0) a := h.sub (e' := (u, x) :: e0) ⟨hu, hs⟩
theorem XK.cutB {x y : Code} {Q : Exit → Act → World → Prop} (u : Nat) (p : Prop) [Decidable p] (h : XK N w0 (x.wp P (Exit.then (fun a' w' => Rep N ((u, .bool (decide p)) :: e) a' ∧ St w0 R H w') Q)) e R H)
    (hy : XK N w0 (y.wp P Q) ((u, .bool (decide p)) :: e) R H) : XK N w0 ((Code.seq x y).wp P Q) e R H := fun a w hr st => by
  refine wp_seq (wp_mono (h a w hr st) fun x a' w' hq => ?_)
  cases x with
  | normal => exact hy a' w' hq.1 hq.2
  | _ => exact hq
theorem XK.meetB {e0 : Env} {u : Nat} {p : Prop} [Decidable p] (hs : e0.Sub e) (hu : e.get u = some (.bool (decide p))) : XK N w0 (fun a' w' => Rep N ((u, .bool (decide p)) :: e0) a' ∧ St w0 R H w') e R H := fun _ _ hr st => ⟨hr.sub_cons hs hu, st⟩
/-- the row of the call's own that is not empty has a block -/
theorem XK.ownHead (i : Nat) {el : TypeId} {sz n c : Nat} {A : Option Addr} {xs : List Value} (hi : H[i]? = some (HP.own el sz (.slice A n c) n xs)) (hn : 0 < n) (h : ∀ g, A = some ⟨g, 0, none⟩ → XK N w0 K e R H) : XK N w0 K e R H := fun a w hr st => by
  have ho := st.own hi
  rcases ho.2 with ⟨_, h0⟩ | ⟨g, cap, cur, hv, _⟩
  · omega
  · injection hv with hA
    exact h g hA a w hr st
theorem xk_storeOwn (i k : Nat) {x y : Operand} {s ty : TypeId} {pos : String} {aft : Array Edge} {g n c o : Nat} {el : TypeId} {xs : List Value} {v : Value} {rest : List Oper} {ops : Array Oper} {Q : Exit → Act → World → Prop} (hi : H[i]? = some (HP.own el 1 (.slice (some ⟨g, 0, none⟩) n c) n xs)) (hs : oneB P s = true) (hx : e.ev x = some (.pointer (some ⟨g, o, none⟩))) (ho : o = k) (hy : e.ev y = some v)
    (h1 : v.oneCell' = true) (hl : k < n) (kk : XK N w0 (wpList P ops Q rest) e R (H.set i (HP.own el 1 (.slice (some ⟨g, 0, none⟩) n c) n (xs.set k v)))) :
    XK N w0 (wpList P ops Q (⟨none, .store s x y, ty, pos, aft, none⟩ :: rest)) e R H := by
  subst ho
  have hlt : i < H.length := by
    rcases Nat.lt_or_ge i H.length with h | h
    · exact h
    · rw [List.getElem?_eq_none h] at hi; cases hi
  refine XK.openOwn i hi fun cs hc1 hc2 hc3 hc4 => ?_
  rw [Nat.mul_one] at hc1 hc2
  refine xk_store i (g := g) (t := el) (cs := cs) (by simp [hlt]) hs hx hy h1 (by omega) ?_
  refine XK.closeOwn i (n := n) (c := c) (sz := 1) (xs := xs.set o v) (cs := cs.set o v) (el := el) (g := g) (by simp [hlt]) (by simpa using hc1) (by rw [Nat.mul_one]; exact take_set hc2) hc3 hc4 ?_
  simpa using kk
end
end Go.Proofs.YtbgibbbggajgaaaGreat
/- plan.all: all the rows of steps, as one iterator. -/
namespace Go.Proofs.YtbgibbbggajgaaaGreat
set_option linter.all false
open Go.RowKit
theorem intCells_one (l : List Int) : ∀ u ∈ intCells l, u.oneCell' = true := by
  intro u hu
  simp only [intCells, List.mem_map] at hu
  obtain ⟨x, _, rfl⟩ := hu
  rfl
theorem own_head {F : Nat → Prop} {w : World} {el : TypeId} {sz n c : Nat} {A : Option Addr} {xs : List Value} (h : (HP.own el sz (.slice A n c) n xs).sat F w) (hn : 0 < n) : ∃ g, A = some ⟨g, 0, none⟩ := by
  rcases h.2.2 with ⟨_, h0⟩ | ⟨g, cap, cur, hv, _⟩
  · omega
  · injection hv with hA
    exact ⟨g, hA⟩
theorem rev_cells (l : List Nat) : (intCells (natI l)).reverse = intCells (natI l.reverse) := by simp [intCells, natI]
/-- all steps from some wishes to others -/
def allL (s : Soc) (dl cl ll : List Nat) (fd fc fl td tc tl : List Bool) : List Stp :=
  stepL 17 4 (fun _ => 1) (moreL (dl) fd td) ++ (stepL 20 7 (fun _ => 1) (moreL (cl) fc tc) ++ (stepL 22 4 (fun _ => 0) (moreL (ll) fl tl) ++ (stepL 22 4 (fun _ => 1) (moreL (ll) tl fl) ++ (stepL 20 7 (fun _ => 0) (moreL (cl.reverse) tc fc) ++ (stepL 17 4 (retV s) (moreL (dl.reverse) td fd))))))
def AllOk (p0 : Piece) (sts : List Stp) (y : Value) (w w' : World) : Prop := ∃ g, y = .func (.func 111) #[] #[.pointer (some ⟨g, 0, none⟩)] ∧ ∀ q, p0.Le q → (fresh w w').Le q → Iter Tryz.prog 111 [.pointer (some ⟨g, 0, none⟩)] (stEnc sts) q
set_option maxHeartbeats 4000000 in
theorem all_any (p0 : Piece) (s : Soc) (A1 A2 A3 A4 Ad Ac Al Fd Fc Fl Td Tc Tl : Option Addr) (n1 k1 n2 k2 n3 k3 n4 k4 nd cd nc cc nl kl fdn fdk fcn fck fln flk tdn tdk tcn tck tln tlk : Nat) (dl cl ll : List Nat) (fd fc fl td tc tl : List Bool) (w : World)
    (hp0 : p0.Le (all w)) (hdom : RsR (slq p0) DomR 89 3 A2 n2 s.domains) (hn2 : (n2 : Int) ≤ 1000000)
    (hdl : SlS p0 1 Ad nd (intCells (natI dl))) (hnd : nd = dl.length) (hnd3 : nd ≤ 1000000) (hdlb : ∀ i ∈ dl, i < n2)
    (hcl : SlS p0 1 Ac nc (intCells (natI cl))) (hnc : nc = cl.length) (hnc2 : nc ≤ 1000000) (hclb : ∀ i ∈ cl, i < 1000000)
    (hll : SlS p0 1 Al nl (intCells (natI ll))) (hnl : nl = ll.length) (hnl2 : nl ≤ 1000000) (hllb : ∀ i ∈ ll, i < 1000000)
    (hfd : SlS p0 1 Fd fdn (boolCells fd)) (hfdn : fdn = fd.length) (htd : SlS p0 1 Td tdn (boolCells td)) (htdn : tdn = td.length) (hfc : SlS p0 1 Fc fcn (boolCells fc)) (hfcn : fcn = fc.length) (htc : SlS p0 1 Tc tcn (boolCells tc)) (htcn : tcn = tc.length) (hfl : SlS p0 1 Fl fln (boolCells fl)) (hfln : fln = fl.length) (htl : SlS p0 1 Tl tln (boolCells tl)) (htln : tln = tl.length) :
    Calls Tryz.prog 55 #[.agg #[.slice A1 n1 k1, .slice A2 n2 k2, .slice A3 n3 k3, .slice A4 n4 k4], .slice Ad nd cd, .slice Ac nc cc, .slice Al nl kl, .agg #[.slice Fd fdn fdk, .slice Fc fcn fck, .slice Fl fln flk], .agg #[.slice Td tdn tdk, .slice Tc tcn tck, .slice Tl tln tlk]] w (fun y w' => (∃ x, y = .returned x ∧ AllOk p0 (allL s dl cl ll fd fc fl td tc tl) x w w') ∧ Below w.heap.size w w') := by
  have hnd2 := hnd
  refine XK.enter (vs := [.agg #[.slice A1 n1 k1, .slice A2 n2 k2, .slice A3 n3 k3, .slice A4 n4 k4], .slice Ad nd cd, .slice Ac nc cc, .slice Al nl kl, .agg #[.slice Fd fdn fdk, .slice Fc fcn fck, .slice Fl fln flk], .agg #[.slice Td tdn tdk, .slice Tc tcn tck, .slice Tl tln tlk]]) Tryz.func55 rfl Tryz.ntmps55 (by simp) ?_
  refine XK.piece p0 (by simp) hp0 ?_
  refine XK.seq ?_
  refine XK.region ?_
  refine xk_box rfl (by decide) fun g1 => ?_
  refine xk_box rfl (by decide) fun g2 => ?_
  refine xk_box rfl (by decide) fun g3 => ?_
  refine xk_assign rfl (by decide) ?_
  refine XK.nilN ?_
  refine XK.seq ?_
  refine XK.region ?_
  refine xk_move rfl (by decide) ?_
  refine xk_callN (f := 105) (fi := []) (ca := []) (by kernel_rfl) rfl rfl (by decide) (CloneOk_clone_int nc (intCells (natI cl))) (fun w1 st => clone_int Ac nc cc _ w1 (hcl.le (st.le (by simp))) (intCells_one _) hnc2) ?_
  rintro _ _ q13 ⟨A13, c13, rfl, rfl⟩ _
  refine xk_assign rfl (by decide) ?_
  refine XK.nilN ?_
  refine XK.seq ?_
  refine XK.region ?_
  refine xk_move rfl (by decide) ?_
  refine xk_callM (f := 106) (fi := []) (ca := []) 0 (HP.own 3 1 (.slice A13 nc c13) nc (intCells (natI cl)).reverse) (by kernel_rfl) rfl rfl rfl ⟨by decide, rfl⟩ (fun w1 F st hp hF => reverse_int A13 nc c13 _ w1 F hp hF (intCells_one _) (by simp [intCells, natI, hnc]) hnc2 (own_head hp)) ?_
  dsimp only [List.set, List.cons_append, List.nil_append]
  rw [rev_cells]
  refine XK.nilN ?_
  refine XK.seq ?_
  refine XK.region ?_
  refine xk_move rfl (by decide) ?_
  refine xk_callN (f := 105) (fi := []) (ca := []) (by kernel_rfl) rfl rfl (by decide) (CloneOk_clone_int nd (intCells (natI dl))) (fun w1 st => clone_int Ad nd cd _ w1 (hdl.le (st.le (by simp))) (intCells_one _) hnd3) ?_
  rintro _ _ q14 ⟨A14, c14, rfl, rfl⟩ _
  refine xk_assign rfl (by decide) ?_
  refine XK.nilN ?_
  refine XK.seq ?_
  refine XK.region ?_
  refine xk_move rfl (by decide) ?_
  refine xk_callM (f := 106) (fi := []) (ca := []) 0 (HP.own 3 1 (.slice A14 nd c14) nd (intCells (natI dl)).reverse) (by kernel_rfl) rfl rfl rfl ⟨by decide, rfl⟩ (fun w1 F st hp hF => reverse_int A14 nd c14 _ w1 F hp hF (intCells_one _) (by simp [intCells, natI, hnd]) hnd3 (own_head hp)) ?_
  dsimp only [List.set, List.cons_append, List.nil_append]
  rw [rev_cells]
  refine XK.nilN ?_
  refine XK.weak [0, 1, 2, 3, 4] rfl (by decide) (R' := [p0, all w]) (by simp) ?_
  refine XK.stillP p0 p0 [0, 1, 2, 3, 4] [] (by simp) (by simp) (fun b h => .inl h) rfl (by decide) (by decide) fun q0 hq le0 N0 => ?_
  have f14 := SlS.own (hq 0 _ (by simp) rfl)
  have f13 := SlS.own (hq 1 _ (by simp) rfl)
  have t_d : RP q0 g3 0 (.slice Td tdn tdk) := RP.of_blk (hq 2 _ (by simp) rfl) rfl
  have f_d : RP q0 g2 0 (.slice Fd fdn fdk) := RP.of_blk (hq 3 _ (by simp) rfl) rfl
  have t_c : RP q0 g3 1 (.slice Tc tcn tck) := RP.of_blk (hq 2 _ (by simp) rfl) rfl
  have f_c : RP q0 g2 1 (.slice Fc fcn fck) := RP.of_blk (hq 3 _ (by simp) rfl) rfl
  have t_l : RP q0 g3 2 (.slice Tl tln tlk) := RP.of_blk (hq 2 _ (by simp) rfl) rfl
  have f_l : RP q0 g2 2 (.slice Fl fln flk) := RP.of_blk (hq 3 _ (by simp) rfl) rfl
  have b1 : RP q0 g1 1 (.slice A2 n2 k2) := RP.of_blk (hq 4 _ (by simp) rfl) rfl
  have E0 : q0.Le q0 := fun b hb => ⟨hb, rfl⟩
  have vall := all1_ok q0 g1 n2 k2 s A2 b1 (hdom.mono (slq_le le0) (fun _ _ h => h)) hn2
  have hdl := hdl.le le0
  have hcl := hcl.le le0
  have hll := hll.le le0
  have hfd := hfd.le le0
  have hfc := hfc.le le0
  have hfl := hfl.le le0
  have htd := htd.le le0
  have htc := htc.le le0
  have htl := htl.le le0
  refine XK.seq ?_
  refine XK.draw 50 (by kernel_rfl) (by kernel_rfl) ?_
  refine XA.dA 0 rfl rfl rfl (does_move rfl) ?_
  refine XA.dA 1 rfl rfl rfl (does_field (off := 0) (by kernel_rfl) rfl) ?_
  refine XA.dA 2 rfl rfl rfl (does_load (by kernel_rfl) rfl (f_d.rd (by simp))) ?_
  refine XA.dA 3 rfl rfl rfl (does_field (off := 0) (by kernel_rfl) rfl) ?_
  refine XA.dA 4 rfl rfl rfl (does_load (by kernel_rfl) rfl (t_d.rd (by simp))) ?_
  refine XA.dA 8 rfl rfl rfl (does_move rfl) ?_
  refine XA.dA 9 rfl rfl rfl (does_field (off := 1) (by kernel_rfl) rfl) ?_
  refine XA.dA 10 rfl rfl rfl (does_load (by kernel_rfl) rfl (f_c.rd (by simp))) ?_
  refine XA.dA 11 rfl rfl rfl (does_field (off := 1) (by kernel_rfl) rfl) ?_
  refine XA.dA 12 rfl rfl rfl (does_load (by kernel_rfl) rfl (t_c.rd (by simp))) ?_
  refine XA.dA 16 rfl rfl rfl (does_move rfl) ?_
  refine XA.dA 17 rfl rfl rfl (does_field (off := 2) (by kernel_rfl) rfl) ?_
  refine XA.dA 18 rfl rfl rfl (does_load (by kernel_rfl) rfl (f_l.rd (by simp))) ?_
  refine XA.dA 19 rfl rfl rfl (does_field (off := 2) (by kernel_rfl) rfl) ?_
  refine XA.dA 20 rfl rfl rfl (does_load (by kernel_rfl) rfl (t_l.rd (by simp))) ?_
  refine XA.dA 24 rfl rfl rfl (does_move rfl) ?_
  refine XA.dA 25 rfl rfl rfl (does_field (off := 2) (by kernel_rfl) rfl) ?_
  refine XA.dA 26 rfl rfl rfl (does_load (by kernel_rfl) rfl (t_l.rd (by simp))) ?_
  refine XA.dA 27 rfl rfl rfl (does_field (off := 2) (by kernel_rfl) rfl) ?_
  refine XA.dA 28 rfl rfl rfl (does_load (by kernel_rfl) rfl (f_l.rd (by simp))) ?_
  refine XA.dA 32 rfl rfl rfl (does_move rfl) ?_
  refine XA.dA 33 rfl rfl rfl (does_field (off := 1) (by kernel_rfl) rfl) ?_
  refine XA.dA 34 rfl rfl rfl (does_load (by kernel_rfl) rfl (t_c.rd (by simp))) ?_
  refine XA.dA 35 rfl rfl rfl (does_field (off := 1) (by kernel_rfl) rfl) ?_
  refine XA.dA 36 rfl rfl rfl (does_load (by kernel_rfl) rfl (f_c.rd (by simp))) ?_
  refine XA.dA 40 rfl rfl rfl (does_move rfl) ?_
  refine XA.dA 41 rfl rfl rfl (does_field (off := 0) (by kernel_rfl) rfl) ?_
  refine XA.dA 42 rfl rfl rfl (does_load (by kernel_rfl) rfl (t_d.rd (by simp))) ?_
  refine XA.dA 43 rfl rfl rfl (does_field (off := 0) (by kernel_rfl) rfl) ?_
  refine XA.dA 44 rfl rfl rfl (does_load (by kernel_rfl) rfl (f_d.rd (by simp))) ?_
  refine XA.dA 46 rfl rfl rfl (does_func (vf := []) (vc := [.pointer (some ⟨g1, 0, none⟩)]) rfl rfl) ?_
  refine XA.maybe0 (j := 49) 15 179 [.slice none 0 0] fun M => ?_
  refine XA.maybe 5 49 rfl rfl (zeroB_of (by kernel_rfl)) (by decide) (by kernel_rfl) (by kernel_rfl) (fun _ h => h) (fun M => ?_)
  refine xk_callP p0 q0 (f := 108) (fi := []) (ca := []) (by kernel_rfl) (ev_M M rfl rfl) (evs_M M rfl rfl) (by decide) (by simp) N0 (MoreOk q0 (moreL (dl) fd td)) (fun w1 st => more_any q0 nd tdn fdn cd tdk fdk Ad Td Fd (dl) fd td w1 (hdl.le E0) hnd (by omega) (htd.le E0) htdn (hfd.le E0) hfdn (fun i hi => by have := hdlb i hi; omega)) ?_
  rintro _ w1 q1 ⟨x0, y0, z0, rfl, hit⟩ hf L1 N1
  have it0 := hit q1 L1 hf
  have E1 := E0.trans' L1
  clear hf
  refine XK.nil ?_; refine XK.thenN ?_; refine XA.backM (by decide) rfl (fun _ h => h.tailR) ?_
  refine XA.maybe 6 49 rfl rfl (zeroB_of (by kernel_rfl)) (by decide) (by kernel_rfl) (by kernel_rfl) (fun _ h => h.tailR) (fun M => ?_)
  refine xk_callP p0 q1 (f := 109) (fi := []) (ca := []) (by kernel_rfl) (ev_M M rfl rfl) (evs_M M rfl rfl) (by decide) (by simp) N1 (AlwaysOk 1) (fun w1 st => always_any 1 w1) ?_
  rintro _ w1 q2 ⟨u0, rfl, hva⟩ hf L2 N2
  have va0 := hva q2 hf
  have E2 := E1.trans' L2
  clear hf
  refine XK.weakR (R' := [q2, q0, p0, all w]) (by simp) ?_
  refine XK.nil ?_; refine XK.thenN ?_; refine XA.backM (by decide) rfl (fun _ h => h.tailR) ?_
  refine XA.maybe 7 49 rfl rfl (zeroB_of (by kernel_rfl)) (by decide) (by kernel_rfl) (by kernel_rfl) (fun _ h => h.tailR) (fun M => ?_)
  refine xk_callP p0 q2 (f := 107) (fi := []) (ca := []) (by kernel_rfl) (ev_M M rfl rfl) (evs_M M rfl rfl) (by decide) (by simp) N2 (StepsOk q2 (stepCells 17 4 (fun _ => 1) (moreL (dl) fd td))) (fun w1 st => steps_any q2 142 143 [.pointer (some ⟨x0, 0, none⟩), .pointer (some ⟨y0, 0, none⟩), .pointer (some ⟨z0, 0, none⟩)] [.pointer (some ⟨u0, 0, none⟩)] 17 4 (fun _ => 1) (moreL (dl) fd td) w1 (it0.le L2) (by kernel_rfl) (by kernel_rfl) (va0 _) (fun i hi => by have := hdlb i (List.mem_filter.1 hi).1; omega)) ?_
  rintro _ w1 q3 ⟨c0, d0, e0, f0, rfl, hst⟩ hf L3 N3
  have st0 := hst q3 L3 hf
  have E3 := E2.trans' L3
  clear hf
  refine XK.weakR (R' := [q3, q0, p0, all w]) (by simp) ?_
  refine XK.nil ?_; refine XK.thenN ?_; refine XA.backM (by decide) rfl (fun _ h => h.tailR) ?_
  refine XA.maybe 13 49 rfl rfl (zeroB_of (by kernel_rfl)) (by decide) (by kernel_rfl) (by kernel_rfl) (fun _ h => h.tailR) (fun M => ?_)
  refine xk_callP p0 q3 (f := 108) (fi := []) (ca := []) (by kernel_rfl) (ev_M M rfl rfl) (evs_M M rfl rfl) (by decide) (by simp) N3 (MoreOk q3 (moreL (cl) fc tc)) (fun w1 st => more_any q3 nc tcn fcn cc tck fck Ac Tc Fc (cl) fc tc w1 (hcl.le E3) hnc (by omega) (htc.le E3) htcn (hfc.le E3) hfcn (fun i hi => by have := hclb i hi; omega)) ?_
  rintro _ w1 q4 ⟨x1, y1, z1, rfl, hit⟩ hf L4 N4
  have it1 := hit q4 L4 hf
  have E4 := E3.trans' L4
  clear hf
  refine XK.weakR (R' := [q4, q0, p0, all w]) (by simp) ?_
  refine XK.nil ?_; refine XK.thenN ?_; refine XA.backM (by decide) rfl (fun _ h => h.tailR) ?_
  refine XA.maybe 14 49 rfl rfl (zeroB_of (by kernel_rfl)) (by decide) (by kernel_rfl) (by kernel_rfl) (fun _ h => h.tailR) (fun M => ?_)
  refine xk_callP p0 q4 (f := 109) (fi := []) (ca := []) (by kernel_rfl) (ev_M M rfl rfl) (evs_M M rfl rfl) (by decide) (by simp) N4 (AlwaysOk 1) (fun w1 st => always_any 1 w1) ?_
  rintro _ w1 q5 ⟨u1, rfl, hva⟩ hf L5 N5
  have va1 := hva q5 hf
  have E5 := E4.trans' L5
  clear hf
  refine XK.weakR (R' := [q5, q0, p0, all w]) (by simp) ?_
  refine XK.nil ?_; refine XK.thenN ?_; refine XA.backM (by decide) rfl (fun _ h => h.tailR) ?_
  refine XA.maybe 15 49 rfl rfl (zeroB_of (by kernel_rfl)) (by decide) (by kernel_rfl) (by kernel_rfl) (fun _ h => h.tailR) (fun M => ?_)
  refine xk_callP p0 q5 (f := 107) (fi := []) (ca := []) (by kernel_rfl) (ev_M M rfl rfl) (evs_M M rfl rfl) (by decide) (by simp) N5 (StepsOk q5 (stepCells 20 7 (fun _ => 1) (moreL (cl) fc tc))) (fun w1 st => steps_any q5 142 143 [.pointer (some ⟨x1, 0, none⟩), .pointer (some ⟨y1, 0, none⟩), .pointer (some ⟨z1, 0, none⟩)] [.pointer (some ⟨u1, 0, none⟩)] 20 7 (fun _ => 1) (moreL (cl) fc tc) w1 (it1.le L5) (by kernel_rfl) (by kernel_rfl) (va1 _) (fun i hi => by have := hclb i (List.mem_filter.1 hi).1; omega)) ?_
  rintro _ w1 q6 ⟨c1, d1, e1, f1, rfl, hst⟩ hf L6 N6
  have st1 := hst q6 L6 hf
  have E6 := E5.trans' L6
  clear hf
  refine XK.weakR (R' := [q6, q0, p0, all w]) (by simp) ?_
  refine XK.nil ?_; refine XK.thenN ?_; refine XA.backM (by decide) rfl (fun _ h => h.tailR) ?_
  refine XA.maybe 21 49 rfl rfl (zeroB_of (by kernel_rfl)) (by decide) (by kernel_rfl) (by kernel_rfl) (fun _ h => h.tailR) (fun M => ?_)
  refine xk_callP p0 q6 (f := 108) (fi := []) (ca := []) (by kernel_rfl) (ev_M M rfl rfl) (evs_M M rfl rfl) (by decide) (by simp) N6 (MoreOk q6 (moreL (ll) fl tl)) (fun w1 st => more_any q6 nl tln fln kl tlk flk Al Tl Fl (ll) fl tl w1 (hll.le E6) hnl (by omega) (htl.le E6) htln (hfl.le E6) hfln (fun i hi => by have := hllb i hi; omega)) ?_
  rintro _ w1 q7 ⟨x2, y2, z2, rfl, hit⟩ hf L7 N7
  have it2 := hit q7 L7 hf
  have E7 := E6.trans' L7
  clear hf
  refine XK.weakR (R' := [q7, q0, p0, all w]) (by simp) ?_
  refine XK.nil ?_; refine XK.thenN ?_; refine XA.backM (by decide) rfl (fun _ h => h.tailR) ?_
  refine XA.maybe 22 49 rfl rfl (zeroB_of (by kernel_rfl)) (by decide) (by kernel_rfl) (by kernel_rfl) (fun _ h => h.tailR) (fun M => ?_)
  refine xk_callP p0 q7 (f := 109) (fi := []) (ca := []) (by kernel_rfl) (ev_M M rfl rfl) (evs_M M rfl rfl) (by decide) (by simp) N7 (AlwaysOk 0) (fun w1 st => always_any 0 w1) ?_
  rintro _ w1 q8 ⟨u2, rfl, hva⟩ hf L8 N8
  have va2 := hva q8 hf
  have E8 := E7.trans' L8
  clear hf
  refine XK.weakR (R' := [q8, q0, p0, all w]) (by simp) ?_
  refine XK.nil ?_; refine XK.thenN ?_; refine XA.backM (by decide) rfl (fun _ h => h.tailR) ?_
  refine XA.maybe 23 49 rfl rfl (zeroB_of (by kernel_rfl)) (by decide) (by kernel_rfl) (by kernel_rfl) (fun _ h => h.tailR) (fun M => ?_)
  refine xk_callP p0 q8 (f := 107) (fi := []) (ca := []) (by kernel_rfl) (ev_M M rfl rfl) (evs_M M rfl rfl) (by decide) (by simp) N8 (StepsOk q8 (stepCells 22 4 (fun _ => 0) (moreL (ll) fl tl))) (fun w1 st => steps_any q8 142 143 [.pointer (some ⟨x2, 0, none⟩), .pointer (some ⟨y2, 0, none⟩), .pointer (some ⟨z2, 0, none⟩)] [.pointer (some ⟨u2, 0, none⟩)] 22 4 (fun _ => 0) (moreL (ll) fl tl) w1 (it2.le L8) (by kernel_rfl) (by kernel_rfl) (va2 _) (fun i hi => by have := hllb i (List.mem_filter.1 hi).1; omega)) ?_
  rintro _ w1 q9 ⟨c2, d2, e2, f2, rfl, hst⟩ hf L9 N9
  have st2 := hst q9 L9 hf
  have E9 := E8.trans' L9
  clear hf
  refine XK.weakR (R' := [q9, q0, p0, all w]) (by simp) ?_
  refine XK.nil ?_; refine XK.thenN ?_; refine XA.backM (by decide) rfl (fun _ h => h.tailR) ?_
  refine XA.maybe 29 49 rfl rfl (zeroB_of (by kernel_rfl)) (by decide) (by kernel_rfl) (by kernel_rfl) (fun _ h => h.tailR) (fun M => ?_)
  refine xk_callP p0 q9 (f := 108) (fi := []) (ca := []) (by kernel_rfl) (ev_M M rfl rfl) (evs_M M rfl rfl) (by decide) (by simp) N9 (MoreOk q9 (moreL (ll) tl fl)) (fun w1 st => more_any q9 nl fln tln kl flk tlk Al Fl Tl (ll) tl fl w1 (hll.le E9) hnl (by omega) (hfl.le E9) hfln (htl.le E9) htln (fun i hi => by have := hllb i hi; omega)) ?_
  rintro _ w1 q10 ⟨x3, y3, z3, rfl, hit⟩ hf L10 N10
  have it3 := hit q10 L10 hf
  have E10 := E9.trans' L10
  clear hf
  refine XK.weakR (R' := [q10, q0, p0, all w]) (by simp) ?_
  refine XK.nil ?_; refine XK.thenN ?_; refine XA.backM (by decide) rfl (fun _ h => h.tailR) ?_
  refine XA.maybe 30 49 rfl rfl (zeroB_of (by kernel_rfl)) (by decide) (by kernel_rfl) (by kernel_rfl) (fun _ h => h.tailR) (fun M => ?_)
  refine xk_callP p0 q10 (f := 109) (fi := []) (ca := []) (by kernel_rfl) (ev_M M rfl rfl) (evs_M M rfl rfl) (by decide) (by simp) N10 (AlwaysOk 1) (fun w1 st => always_any 1 w1) ?_
  rintro _ w1 q11 ⟨u3, rfl, hva⟩ hf L11 N11
  have va3 := hva q11 hf
  have E11 := E10.trans' L11
  clear hf
  refine XK.weakR (R' := [q11, q0, p0, all w]) (by simp) ?_
  refine XK.nil ?_; refine XK.thenN ?_; refine XA.backM (by decide) rfl (fun _ h => h.tailR) ?_
  refine XA.maybe 31 49 rfl rfl (zeroB_of (by kernel_rfl)) (by decide) (by kernel_rfl) (by kernel_rfl) (fun _ h => h.tailR) (fun M => ?_)
  refine xk_callP p0 q11 (f := 107) (fi := []) (ca := []) (by kernel_rfl) (ev_M M rfl rfl) (evs_M M rfl rfl) (by decide) (by simp) N11 (StepsOk q11 (stepCells 22 4 (fun _ => 1) (moreL (ll) tl fl))) (fun w1 st => steps_any q11 142 143 [.pointer (some ⟨x3, 0, none⟩), .pointer (some ⟨y3, 0, none⟩), .pointer (some ⟨z3, 0, none⟩)] [.pointer (some ⟨u3, 0, none⟩)] 22 4 (fun _ => 1) (moreL (ll) tl fl) w1 (it3.le L11) (by kernel_rfl) (by kernel_rfl) (va3 _) (fun i hi => by have := hllb i (List.mem_filter.1 hi).1; omega)) ?_
  rintro _ w1 q12 ⟨c3, d3, e3, f3, rfl, hst⟩ hf L12 N12
  have st3 := hst q12 L12 hf
  have E12 := E11.trans' L12
  clear hf
  refine XK.weakR (R' := [q12, q0, p0, all w]) (by simp) ?_
  refine XK.nil ?_; refine XK.thenN ?_; refine XA.backM (by decide) rfl (fun _ h => h.tailR) ?_
  refine XA.maybe 37 49 rfl rfl (zeroB_of (by kernel_rfl)) (by decide) (by kernel_rfl) (by kernel_rfl) (fun _ h => h.tailR) (fun M => ?_)
  refine xk_callP p0 q12 (f := 108) (fi := []) (ca := []) (by kernel_rfl) (ev_M M rfl rfl) (evs_M M rfl rfl) (by decide) (by simp) N12 (MoreOk q12 (moreL (cl.reverse) tc fc)) (fun w1 st => more_any q12 nc fcn tcn c13 fck tck A13 Fc Tc (cl.reverse) tc fc w1 (f13.le E12) (by simpa using hnc) (by omega) (hfc.le E12) hfcn (htc.le E12) htcn (fun i hi => by have := (fun i hi => hclb i (by simpa using hi)) i hi; omega)) ?_
  rintro _ w1 q13 ⟨x4, y4, z4, rfl, hit⟩ hf L13 N13
  have it4 := hit q13 L13 hf
  have E13 := E12.trans' L13
  clear hf
  refine XK.weakR (R' := [q13, q0, p0, all w]) (by simp) ?_
  refine XK.nil ?_; refine XK.thenN ?_; refine XA.backM (by decide) rfl (fun _ h => h.tailR) ?_
  refine XA.maybe 38 49 rfl rfl (zeroB_of (by kernel_rfl)) (by decide) (by kernel_rfl) (by kernel_rfl) (fun _ h => h.tailR) (fun M => ?_)
  refine xk_callP p0 q13 (f := 109) (fi := []) (ca := []) (by kernel_rfl) (ev_M M rfl rfl) (evs_M M rfl rfl) (by decide) (by simp) N13 (AlwaysOk 0) (fun w1 st => always_any 0 w1) ?_
  rintro _ w1 q14 ⟨u4, rfl, hva⟩ hf L14 N14
  have va4 := hva q14 hf
  have E14 := E13.trans' L14
  clear hf
  refine XK.weakR (R' := [q14, q0, p0, all w]) (by simp) ?_
  refine XK.nil ?_; refine XK.thenN ?_; refine XA.backM (by decide) rfl (fun _ h => h.tailR) ?_
  refine XA.maybe 39 49 rfl rfl (zeroB_of (by kernel_rfl)) (by decide) (by kernel_rfl) (by kernel_rfl) (fun _ h => h.tailR) (fun M => ?_)
  refine xk_callP p0 q14 (f := 107) (fi := []) (ca := []) (by kernel_rfl) (ev_M M rfl rfl) (evs_M M rfl rfl) (by decide) (by simp) N14 (StepsOk q14 (stepCells 20 7 (fun _ => 0) (moreL (cl.reverse) tc fc))) (fun w1 st => steps_any q14 142 143 [.pointer (some ⟨x4, 0, none⟩), .pointer (some ⟨y4, 0, none⟩), .pointer (some ⟨z4, 0, none⟩)] [.pointer (some ⟨u4, 0, none⟩)] 20 7 (fun _ => 0) (moreL (cl.reverse) tc fc) w1 (it4.le L14) (by kernel_rfl) (by kernel_rfl) (va4 _) (fun i hi => by have := (fun i hi => hclb i (by simpa using hi)) i (List.mem_filter.1 hi).1; omega)) ?_
  rintro _ w1 q15 ⟨c4, d4, e4, f4, rfl, hst⟩ hf L15 N15
  have st4 := hst q15 L15 hf
  have E15 := E14.trans' L15
  clear hf
  refine XK.weakR (R' := [q15, q0, p0, all w]) (by simp) ?_
  refine XK.nil ?_; refine XK.thenN ?_; refine XA.backM (by decide) rfl (fun _ h => h.tailR) ?_
  refine XA.maybe 45 49 rfl rfl (zeroB_of (by kernel_rfl)) (by decide) (by kernel_rfl) (by kernel_rfl) (fun _ h => h.tailR) (fun M => ?_)
  refine xk_callP p0 q15 (f := 108) (fi := []) (ca := []) (by kernel_rfl) (ev_M M rfl rfl) (evs_M M rfl rfl) (by decide) (by simp) N15 (MoreOk q15 (moreL (dl.reverse) td fd)) (fun w1 st => more_any q15 nd fdn tdn c14 fdk tdk A14 Fd Td (dl.reverse) td fd w1 (f14.le E15) (by simpa using hnd) (by omega) (hfd.le E15) hfdn (htd.le E15) htdn (fun i hi => by have := (fun i hi => hdlb i (by simpa using hi)) i hi; omega)) ?_
  rintro _ w1 q16 ⟨x5, y5, z5, rfl, hit⟩ hf L16 N16
  have it5 := hit q16 L16 hf
  have E16 := E15.trans' L16
  clear hf
  refine XK.weakR (R' := [q16, q0, p0, all w]) (by simp) ?_
  refine XK.nil ?_; refine XK.thenN ?_; refine XA.backM (by decide) rfl (fun _ h => h.tailR) ?_
  refine XA.maybe 47 49 rfl rfl (zeroB_of (by kernel_rfl)) (by decide) (by kernel_rfl) (by kernel_rfl) (fun _ h => h.tailR) (fun M => ?_)
  refine xk_callP p0 q16 (f := 107) (fi := []) (ca := []) (by kernel_rfl) (ev_M M rfl rfl) (evs_M M rfl rfl) (by decide) (by simp) N16 (StepsOk q16 (stepCells 17 4 (retV s) (moreL (dl.reverse) td fd))) (fun w1 st => steps_any q16 142 110 [.pointer (some ⟨x5, 0, none⟩), .pointer (some ⟨y5, 0, none⟩), .pointer (some ⟨z5, 0, none⟩)] [.pointer (some ⟨g1, 0, none⟩)] 17 4 (retV s) (moreL (dl.reverse) td fd) w1 (it5.le (Piece.Le.refl _)) (by kernel_rfl) (by kernel_rfl) ((vall (moreL (dl.reverse) td fd) (fun i hi => by have := (fun i hi => hdlb i (by simpa using hi)) i (List.mem_filter.1 hi).1; omega)).le E16) (fun i hi => by have := (fun i hi => hdlb i (by simpa using hi)) i (List.mem_filter.1 hi).1; omega)) ?_
  rintro _ w1 q17 ⟨c5, d5, e5, f5, rfl, hst⟩ hf L17 N17
  have st5 := hst q17 L17 hf
  have E17 := E16.trans' L17
  clear hf
  refine XK.weakR (R' := [q17, q0, p0, all w]) (by simp) ?_
  refine XK.nil ?_; refine XK.thenN ?_; refine XA.backM (by decide) rfl (fun _ h => h.tailR) ?_
  refine XA.maybe 48 49 rfl rfl (zeroB_of (by kernel_rfl)) (by decide) (by kernel_rfl) (by kernel_rfl) (fun _ h => h.tailR) (fun M => ?_)
  cases M with
  | none =>
    dsimp only [emM, hmM, lmM, fmM]
    refine xk_slice (el := 134) (sz := 1) (zs := [.nilFunc]) (by kernel_rfl) (zeroB_of (by kernel_rfl)) (by kernel_rfl) rfl (by decide) (by decide) rfl (by simp [fillL, setN, Value.cells, List.range_succ, List.set]; rfl) (by decide) fun gS => ?_
    refine XK.nil ?_; refine XK.thenN ?_; refine XA.back (fun _ h => h.tail.tailR) ?_
    refine XA.next 49 rfl (by kernel_rfl) ?_
    refine xk_alloc (cs := [.slice none 0 0]) (zeroB_of (by kernel_rfl)) (by decide) fun g15 => ?_
    refine XK.nil ?_; refine XK.thenN ?_; refine XA.back (fun _ h => h.tail.tail.tailR) ?_
    refine XA.next 50 rfl (by kernel_rfl) ?_
    refine xk_st rfl rfl ?_; dsimp only [List.set]
    refine XA.bt ?_
    refine XA.done (by kernel_rfl) ?_
    refine XK.norm ?_
    refine XK.seq ?_
    refine XK.region ?_
    refine xk_func (vf := []) (vc := [.pointer (some ⟨g15, 0, none⟩)]) rfl rfl (by decide) ?_
    refine xk_assign rfl (by decide) ?_
    refine XK.nilN ?_
    refine XK.ret ?_
    refine XK.norm ?_
    refine XK.stillP p0 q17 [0, 1] [] (by simp) (by simp) N17 rfl (by decide) (by decide) fun qs hqs Ls Ns => ?_
    have r15 := RP.of_blk (o := 0) (hqs 0 _ (by simp) rfl) rfl
    obtain ⟨FS, sS, zS⟩ := hqs 1 _ (by simp) rfl
    have rS := SlS.of_blk (n := 6) (sz := 1) (c := 6) sS zS rfl
    refine XK.ret1 rfl rfl fun w1 st => ⟨⟨_, rfl, g15, rfl, fun q2 hp2 hf2 => ?_⟩, st.below (by simp)⟩
    have Lq := near_le (p0 := p0) st (by simp : qs ∈ _) Ns (((le0.trans' E17).trans' Ls)) hp2 hf2
    have hall := all2_iter q2 g15 6 6 _ [⟨141, [.pointer (some ⟨c0, 0, none⟩), .pointer (some ⟨d0, 0, none⟩), .pointer (some ⟨e0, 0, none⟩), .pointer (some ⟨f0, 0, none⟩)], stepL 17 4 (fun _ => 1) (moreL (dl) fd td)⟩, ⟨141, [.pointer (some ⟨c1, 0, none⟩), .pointer (some ⟨d1, 0, none⟩), .pointer (some ⟨e1, 0, none⟩), .pointer (some ⟨f1, 0, none⟩)], stepL 20 7 (fun _ => 1) (moreL (cl) fc tc)⟩, ⟨141, [.pointer (some ⟨c2, 0, none⟩), .pointer (some ⟨d2, 0, none⟩), .pointer (some ⟨e2, 0, none⟩), .pointer (some ⟨f2, 0, none⟩)], stepL 22 4 (fun _ => 0) (moreL (ll) fl tl)⟩, ⟨141, [.pointer (some ⟨c3, 0, none⟩), .pointer (some ⟨d3, 0, none⟩), .pointer (some ⟨e3, 0, none⟩), .pointer (some ⟨f3, 0, none⟩)], stepL 22 4 (fun _ => 1) (moreL (ll) tl fl)⟩, ⟨141, [.pointer (some ⟨c4, 0, none⟩), .pointer (some ⟨d4, 0, none⟩), .pointer (some ⟨e4, 0, none⟩), .pointer (some ⟨f4, 0, none⟩)], stepL 20 7 (fun _ => 0) (moreL (cl.reverse) tc fc)⟩, ⟨141, [.pointer (some ⟨c5, 0, none⟩), .pointer (some ⟨d5, 0, none⟩), .pointer (some ⟨e5, 0, none⟩), .pointer (some ⟨f5, 0, none⟩)], stepL 17 4 (retV s) (moreL (dl.reverse) td fd)⟩] (r15.le Lq) (rS.le Lq) rfl (by omega) (fun r hr => by
      simp only [List.mem_cons, List.not_mem_nil, or_false] at hr
      rcases hr with rfl | rfl | rfl | rfl | rfl | rfl
      · exact ⟨by kernel_rfl, by have h := st0.le (((((((((((((((L4.trans' L5).trans' L6).trans' L7).trans' L8).trans' L9).trans' L10).trans' L11).trans' L12).trans' L13).trans' L14).trans' L15).trans' L16).trans' L17).trans' Ls).trans' Lq); rw [stepCells_eq] at h; exact h⟩
      · exact ⟨by kernel_rfl, by have h := st1.le ((((((((((((L7.trans' L8).trans' L9).trans' L10).trans' L11).trans' L12).trans' L13).trans' L14).trans' L15).trans' L16).trans' L17).trans' Ls).trans' Lq); rw [stepCells_eq] at h; exact h⟩
      · exact ⟨by kernel_rfl, by have h := st2.le (((((((((L10.trans' L11).trans' L12).trans' L13).trans' L14).trans' L15).trans' L16).trans' L17).trans' Ls).trans' Lq); rw [stepCells_eq] at h; exact h⟩
      · exact ⟨by kernel_rfl, by have h := st3.le ((((((L13.trans' L14).trans' L15).trans' L16).trans' L17).trans' Ls).trans' Lq); rw [stepCells_eq] at h; exact h⟩
      · exact ⟨by kernel_rfl, by have h := st4.le (((L16.trans' L17).trans' Ls).trans' Lq); rw [stepCells_eq] at h; exact h⟩
      · exact ⟨by kernel_rfl, by have h := st5.le (((Piece.Le.refl _).trans' Ls).trans' Lq); rw [stepCells_eq] at h; exact h⟩)
    simpa [rowsL, allL] using hall
  | some g15 =>
    dsimp only [emM, hmM, lmM, fmM]
    refine xk_slice (el := 134) (sz := 1) (zs := [.nilFunc]) (by kernel_rfl) (zeroB_of (by kernel_rfl)) (by kernel_rfl) rfl (by decide) (by decide) rfl (by simp [fillL, setN, Value.cells, List.range_succ, List.set]; rfl) (by decide) fun gS => ?_
    refine XK.nil ?_; refine XK.thenN ?_; refine XA.back (fun _ h => h.tail.tail.tailR) ?_
    refine XA.next 50 rfl (by kernel_rfl) ?_
    refine xk_st rfl rfl ?_; dsimp only [List.set]
    refine XA.bt ?_
    refine XA.done (by kernel_rfl) ?_
    refine XK.norm ?_
    refine XK.seq ?_
    refine XK.region ?_
    refine xk_func (vf := []) (vc := [.pointer (some ⟨g15, 0, none⟩)]) rfl rfl (by decide) ?_
    refine xk_assign rfl (by decide) ?_
    refine XK.nilN ?_
    refine XK.ret ?_
    refine XK.norm ?_
    refine XK.stillP p0 q17 [0, 1] [] (by simp) (by simp) N17 rfl (by decide) (by decide) fun qs hqs Ls Ns => ?_
    have r15 := RP.of_blk (o := 0) (hqs 1 _ (by simp) rfl) rfl
    obtain ⟨FS, sS, zS⟩ := hqs 0 _ (by simp) rfl
    have rS := SlS.of_blk (n := 6) (sz := 1) (c := 6) sS zS rfl
    refine XK.ret1 rfl rfl fun w1 st => ⟨⟨_, rfl, g15, rfl, fun q2 hp2 hf2 => ?_⟩, st.below (by simp)⟩
    have Lq := near_le (p0 := p0) st (by simp : qs ∈ _) Ns (((le0.trans' E17).trans' Ls)) hp2 hf2
    have hall := all2_iter q2 g15 6 6 _ [⟨141, [.pointer (some ⟨c0, 0, none⟩), .pointer (some ⟨d0, 0, none⟩), .pointer (some ⟨e0, 0, none⟩), .pointer (some ⟨f0, 0, none⟩)], stepL 17 4 (fun _ => 1) (moreL (dl) fd td)⟩, ⟨141, [.pointer (some ⟨c1, 0, none⟩), .pointer (some ⟨d1, 0, none⟩), .pointer (some ⟨e1, 0, none⟩), .pointer (some ⟨f1, 0, none⟩)], stepL 20 7 (fun _ => 1) (moreL (cl) fc tc)⟩, ⟨141, [.pointer (some ⟨c2, 0, none⟩), .pointer (some ⟨d2, 0, none⟩), .pointer (some ⟨e2, 0, none⟩), .pointer (some ⟨f2, 0, none⟩)], stepL 22 4 (fun _ => 0) (moreL (ll) fl tl)⟩, ⟨141, [.pointer (some ⟨c3, 0, none⟩), .pointer (some ⟨d3, 0, none⟩), .pointer (some ⟨e3, 0, none⟩), .pointer (some ⟨f3, 0, none⟩)], stepL 22 4 (fun _ => 1) (moreL (ll) tl fl)⟩, ⟨141, [.pointer (some ⟨c4, 0, none⟩), .pointer (some ⟨d4, 0, none⟩), .pointer (some ⟨e4, 0, none⟩), .pointer (some ⟨f4, 0, none⟩)], stepL 20 7 (fun _ => 0) (moreL (cl.reverse) tc fc)⟩, ⟨141, [.pointer (some ⟨c5, 0, none⟩), .pointer (some ⟨d5, 0, none⟩), .pointer (some ⟨e5, 0, none⟩), .pointer (some ⟨f5, 0, none⟩)], stepL 17 4 (retV s) (moreL (dl.reverse) td fd)⟩] (r15.le Lq) (rS.le Lq) rfl (by omega) (fun r hr => by
      simp only [List.mem_cons, List.not_mem_nil, or_false] at hr
      rcases hr with rfl | rfl | rfl | rfl | rfl | rfl
      · exact ⟨by kernel_rfl, by have h := st0.le (((((((((((((((L4.trans' L5).trans' L6).trans' L7).trans' L8).trans' L9).trans' L10).trans' L11).trans' L12).trans' L13).trans' L14).trans' L15).trans' L16).trans' L17).trans' Ls).trans' Lq); rw [stepCells_eq] at h; exact h⟩
      · exact ⟨by kernel_rfl, by have h := st1.le ((((((((((((L7.trans' L8).trans' L9).trans' L10).trans' L11).trans' L12).trans' L13).trans' L14).trans' L15).trans' L16).trans' L17).trans' Ls).trans' Lq); rw [stepCells_eq] at h; exact h⟩
      · exact ⟨by kernel_rfl, by have h := st2.le (((((((((L10.trans' L11).trans' L12).trans' L13).trans' L14).trans' L15).trans' L16).trans' L17).trans' Ls).trans' Lq); rw [stepCells_eq] at h; exact h⟩
      · exact ⟨by kernel_rfl, by have h := st3.le ((((((L13.trans' L14).trans' L15).trans' L16).trans' L17).trans' Ls).trans' Lq); rw [stepCells_eq] at h; exact h⟩
      · exact ⟨by kernel_rfl, by have h := st4.le (((L16.trans' L17).trans' Ls).trans' Lq); rw [stepCells_eq] at h; exact h⟩
      · exact ⟨by kernel_rfl, by have h := st5.le (((Piece.Le.refl _).trans' Ls).trans' Lq); rw [stepCells_eq] at h; exact h⟩)
    simpa [rowsL, allL] using hall
end Go.Proofs.YtbgibbbggajgaaaGreat
/- The small logic: a chunk that is one of many, not told which. -/
namespace Go.Proofs.YtbgibbbggajgaaaGreat
set_option linter.all false
open Go.RowKit
def HP.ex {α : Type} (f : α → HP) : HP := ⟨fun F w => ∃ a, (f a).sat F w, fun F w w' ⟨a, h⟩ hk => ⟨a, (f a).loc F w w' h hk⟩⟩
section
variable {N : Nat} {w0 : World} {e : Env} {R : List Piece} {H : List HP} {K : Act → World → Prop}
theorem XK.openEx (i : Nat) {α : Type} {f : α → HP} (hi : H[i]? = some (HP.ex f)) (h : ∀ a, XK N w0 K e R (H.set i (f a))) : XK N w0 K e R H := fun a w hr st => by
  obtain ⟨Z, F, hz, hrr, hs, hff, hdd⟩ := st.ex
  obtain ⟨x, hx⟩ := hs i _ hi
  have hlt : i < H.length := by
    rcases Nat.lt_or_ge i H.length with h | h
    · exact h
    · rw [List.getElem?_eq_none h] at hi; cases hi
  refine h x a w hr ⟨st.os, st.tape, st.output, st.size, Z, F, hz, hrr, fun j p hj => ?_, hff, hdd⟩
  rw [List.getElem?_set] at hj
  split at hj
  · rename_i e; subst e
    first | (rw [if_pos hlt] at hj; cases hj) | cases hj
    exact hx
  · exact hs j p hj
theorem XK.toEx (i : Nat) {α : Type} {f : α → HP} (x : α) (hi : H[i]? = some (f x)) (h : XK N w0 K e R (H.set i (HP.ex f))) : XK N w0 K e R H := fun a w hr st =>
  h a w hr (st.turn hi (Nat.le_refl _) rfl rfl rfl fun F hF hlt => ⟨F, ⟨x, hF⟩, fun b hb => ⟨.inl hb, hlt b hb⟩, fun _ _ _ => rfl⟩)
/-- two chunks as one -/
theorem XK.pair {p q : HP} (h : XK N w0 K e R (HP.many [p, q] :: H)) : XK N w0 K e R (p :: q :: H) := fun a w hr st => by
  obtain ⟨Z, F, hz, hrr, hs, hff, hdd⟩ := st.ex
  refine h a w hr ⟨st.os, st.tape, st.output, st.size, Z, fun j => match j with | 0 => fun b => F 0 b ∨ F 1 b | j + 1 => F (j + 2), hz, hrr, fun j r hj => ?_, fun j b hb => ?_, fun j k b hjk hj hk => ?_⟩
  · cases j with
    | zero =>
      simp at hj
      subst hj
      refine ⟨fun i b => i < 2 ∧ F i b, fun i r hi => ?_, fun i b hb => ?_, fun i k b hik h1 h2 => hdd i k b hik h1.2 h2.2⟩
      · have key : ∀ k, k < 2 → (fun b => k < 2 ∧ F k b) = F k := fun k hk => by funext b; simp [hk]
        match i, hi with
        | 0, hi => simp at hi; subst hi; show p.sat (fun b => 0 < 2 ∧ F 0 b) w; rw [key 0 (by omega)]; exact hs 0 _ rfl
        | 1, hi => simp at hi; subst hi; show q.sat (fun b => 1 < 2 ∧ F 1 b) w; rw [key 1 (by omega)]; exact hs 1 _ rfl
        | i + 2, hi => simp at hi
      · obtain ⟨hlt, hb⟩ := hb
        match i, hlt, hb with
        | 0, _, hb => exact .inl hb
        | 1, _, hb => exact .inr hb
    | succ j => exact hs (j + 2) r (by simpa using hj)
  · cases j with
    | zero => rcases hb with hb | hb <;> exact hff _ b hb
    | succ j => exact hff _ b hb
  · cases j with
    | zero => cases k with
      | zero => exact hjk rfl
      | succ k => rcases hj with hj | hj
                  · exact hdd 0 (k + 2) b (by omega) hj hk
                  · exact hdd 1 (k + 2) b (by omega) hj hk
    | succ j => cases k with
      | zero => rcases hk with hk | hk
                · exact hdd 0 (j + 2) b (by omega) hk hj
                · exact hdd 1 (j + 2) b (by omega) hk hj
      | succ k => exact hdd (j + 2) (k + 2) b (by omega) hj hk
end
end Go.Proofs.YtbgibbbggajgaaaGreat
/- A chip that is made is right; its orders are 0, 1, 2, .. No walk in sight. -/
namespace Go.Proofs.YtbgibbbggajgaaaGreat
set_option linter.all false
theorem firstE_all {es : List Int} (h : ∀ e ∈ es, e = 0) : firstE es = 0 := firstE_none fun j hj => by rw [List.getElem?_eq_getElem hj, h _ (List.getElem_mem hj)]
theorem withinB_of {n lo hi : Int} (h1 : lo ≤ n) (h2 : n ≤ hi) : withinB n lo hi = true := by simp [withinB, h1, h2]
theorem whenE_of {b : Bool} {e : Int} (h : b = false) : whenE b e = 0 := by rw [h]; rfl
section
variable {s : Soc} (h : s.made)
include h
theorem made_clocks : LessG (clocksG s) := by
  intro k l hl u hu
  simp only [clocksG, List.getElem?_map, Option.map_eq_some_iff] at hl
  obtain ⟨c, hc, rfl⟩ := hl
  exact (h.clocks k c hc).1 u hu
theorem made_doms : LessG (domsG s) := by
  intro k l hl u hu
  simp only [domsG, List.getElem?_map, Option.map_eq_some_iff] at hl
  obtain ⟨d, hd, rfl⟩ := hl
  have := (h.domains k d hd).1
  split at hu
  · cases hu
  · rename_i hne
    simp at hu
    subst hu
    exact this.resolve_left hne
theorem made_needs : LessG (needsG s) := by
  intro k l hl u hu
  simp only [needsG, List.getElem?_map, Option.map_eq_some_iff] at hl
  obtain ⟨d, hd, rfl⟩ := hl
  obtain ⟨_, _, _, _, _, _, _, _, _, _, _, h1⟩ := h.devs k d hd
  exact h1 u hu
theorem made_small : s.small := by
  refine ⟨by have := h.nc; omega, by have := h.nd; omega, by have := h.nr; omega, by have := h.nv; omega, fun c hc => ?_, fun d hd => ?_⟩
  · obtain ⟨k, hk⟩ := List.getElem?_of_mem hc
    rcases (h.clocks k c hk).2 with h1 | h1 | h1 | h1 | h1
    · rw [h1.2.1]; simp
    all_goals (have := h1.2.1; omega)
  · obtain ⟨k, hk⟩ := List.getElem?_of_mem hd
    obtain ⟨_, _, _, _, _, _, _, _, _, _, h1, _⟩ := h.devs k d hk
    omega
theorem made_orders : orderE (clocksG s) = (0, List.range s.clocks.length) ∧ orderE (domsG s) = (0, List.range s.domains.length) ∧ orderE (needsG s) = (0, List.range s.devs.length) := by
  refine ⟨?_, ?_, ?_⟩
  · have := (made_clocks h).orderE (by simp [clocksG]; have := h.nc; omega)
    simpa [clocksG] using this
  · have := (made_doms h).orderE (by simp [domsG]; have := h.nd; omega)
    simpa [domsG] using this
  · have := (made_needs h).orderE (by simp [needsG]; have := h.nv; omega)
    simpa [needsG] using this
theorem made_clock {k : Nat} {c : Clk} (hc : s.clocks[k]? = some c) : clockE s.clocks.length c = 0 := by
  have hk := (List.getElem?_eq_some_iff.1 hc).1
  obtain ⟨h1, h2⟩ := h.clocks k c hc
  refine firstE_all fun e he => ?_
  simp only [List.mem_cons, List.not_mem_nil, or_false] at he
  rcases he with rfl | rfl | rfl
  · refine whenE_of ?_
    rcases h2 with h2 | h2 | h2 | h2 | h2
    · simp [shapeB, h2.1, h2.2.1]
    · simp [shapeB, h2.1, h2.2.1]
    · simp [shapeB, h2.1, h2.2.1]
    · simp [shapeB, h2.1, h2.2.1]
    · simp [shapeB, h2.1, h2.2.1, withinB]
  · refine firstE_all fun e he => ?_
    simp only [List.mem_map] at he
    obtain ⟨f, hf, rfl⟩ := he
    have := h1 f hf
    exact whenE_of (by rw [withinB_of (by omega) (by omega)]; rfl)
  · refine whenE_of ?_
    rcases h2 with h2 | h2 | h2 | h2 | h2
    · obtain ⟨h3, _, h4, h5, _⟩ := h2
      simp [numbersB, h3]; omega
    · obtain ⟨h3, _, _, h4, h5, h6, h7, h8, h9⟩ := h2
      simp [numbersB, h3, withinB]; omega
    · obtain ⟨h3, _, _, _, h4, h5, _⟩ := h2
      simp [numbersB, h3, withinB]; omega
    · simp [numbersB, h2.1]
    · simp [numbersB, h2.1]
theorem made_domain {k : Nat} {d : Dom} (hd : s.domains[k]? = some d) : domainE s.domains.length d = 0 := by
  have hk := (List.getElem?_eq_some_iff.1 hd).1
  obtain ⟨h1, h2, h3⟩ := h.domains k d hd
  refine firstE_all fun e he => ?_
  simp only [List.mem_cons, List.not_mem_nil, or_false] at he
  rcases he with rfl | rfl
  · refine whenE_of ?_
    rcases h1 with h1 | h1
    · simp [h1]
    · rw [withinB_of (by omega) (by omega)]; simp
  · exact whenE_of (by rw [withinB_of (by omega) (by omega)]; rfl)
theorem made_device {k : Nat} {d : Dev} (hd : s.devs[k]? = some d) : deviceE s.clocks.length s.domains.length s.resets.length s.devs.length d = 0 ∧ manyE d = 0 := by
  have hk := (List.getElem?_eq_some_iff.1 hd).1
  obtain ⟨a1, a2, a3, a4, a5, a6, _, _, a7, _, a8, a9⟩ := h.devs k d hd
  refine ⟨firstE_all fun e he => ?_, ?_⟩
  · simp only [List.mem_cons, List.not_mem_nil, or_false] at he
    rcases he with rfl | rfl | rfl | rfl
    · exact whenE_of (by rw [withinB_of (by omega) (by omega)]; rfl)
    · exact whenE_of (by rw [withinB_of (by omega) (by omega)]; rfl)
    · exact whenE_of (by rw [withinB_of (by omega) (by omega)]; rfl)
    · refine firstE_all fun e he => ?_
      simp only [List.mem_map] at he
      obtain ⟨f, hf, rfl⟩ := he
      have := a9 f hf
      exact whenE_of (by rw [withinB_of (by omega) (by omega)]; rfl)
  · refine whenE_of ?_
    simp
    omega
theorem made_check : checkS s = 0 := by
  obtain ⟨o1, o2, o3⟩ := made_orders h
  refine firstE_all fun e he => ?_
  simp only [checkL, List.mem_cons, List.not_mem_nil, or_false] at he
  have h1 := h.nc
  have h2 := h.nd
  have h3 := h.nr
  have h4 := h.nv
  rcases he with rfl | rfl | rfl | rfl | rfl | rfl | rfl | rfl
  · rw [fullE, if_neg (by omega)]
    refine firstE_all fun e he => ?_
    obtain ⟨d, hd, rfl⟩ := List.mem_map.1 he
    obtain ⟨k, hk⟩ := List.getElem?_of_mem hd
    exact (made_device h hk).2
  · refine firstE_all fun e he => ?_
    obtain ⟨d, hd, rfl⟩ := List.mem_map.1 he
    obtain ⟨k, hk⟩ := List.getElem?_of_mem hd
    exact made_clock h hk
  · rw [cycE, o1]; rfl
  · refine firstE_all fun e he => ?_
    obtain ⟨d, hd, rfl⟩ := List.mem_map.1 he
    obtain ⟨k, hk⟩ := List.getElem?_of_mem hd
    exact made_domain h hk
  · rw [cycE, o2]; rfl
  · refine firstE_all fun e he => ?_
    obtain ⟨d, hd, rfl⟩ := List.mem_map.1 he
    have := h.resets d hd
    exact whenE_of (by rw [withinB_of (by omega) (by omega)]; rfl)
  · refine firstE_all fun e he => ?_
    obtain ⟨d, hd, rfl⟩ := List.mem_map.1 he
    obtain ⟨k, hk⟩ := List.getElem?_of_mem hd
    exact (made_device h hk).1
  · rw [cycE, o3]; rfl
end
/-- what the table asks of a chip -/
structure Soc.okT (s : Soc) : Prop where
  clocks : Fits Clk.fit s.clocks
  devs : Fits (Dev.fit s.clocks.length s.domains.length s.resets.length) s.devs
  nc : s.clocks.length ≤ 9
  nd : s.domains.length ≤ 4
  nr : s.resets.length ≤ 3
  nv : s.devs.length ≤ 4
  chk : checkS s = 0
  small : s.small
theorem Soc.made.okT {s : Soc} (h : s.made) : s.okT := ⟨h.clocks, h.devs, h.nc.2, h.nd.2, h.nr.2, h.nv.2, made_check h, made_small h⟩
end Go.Proofs.YtbgibbbggajgaaaGreat
/- plan.Steps. -/
namespace Go.Proofs.YtbgibbbggajgaaaGreat
set_option linter.all false
open Go.RowKit
attribute [local irreducible] KC KI KQ
def OrdV (g : List (List Int)) (v : Value) (w w' : World) : Prop := ∃ A m c, v = .tuple #[.slice A m c, .int .i64 (orderE g).1] ∧ m = (orderE g).2.length ∧ SlS (fresh w w') 1 A m (intCells (natI (orderE g).2))
theorem OrdOk.ordV {w w' : World} {g : List (List Int)} {y : Ending} (h : OrdOk w (orderE g).2 (orderE g).1 y w') : (∃ v, y = .returned v ∧ OrdV g v w w') ∧ Below w.heap.size w w' := by
  obtain ⟨⟨A, m, c, hy, hm, hs⟩, hb⟩ := h
  exact ⟨⟨_, hy, A, m, c, rfl, hm, hs⟩, hb⟩

theorem lines_set {k n : Nat} (h : k < n) : (intCells ((natI (List.range k)) ++ List.replicate (n - k) 0)).set k (.int .i64 (k : Int)) = intCells ((natI (List.range (k + 1))) ++ List.replicate (n - (k + 1)) 0) := by
  rw [intCells_set, List.set_append_right _ _ (by simp [natI])]
  rw [show k - (natI (List.range k)).length = 0 by simp [natI], show n - k = (n - (k + 1)) + 1 by omega, List.replicate_succ, List.set_cons_zero, List.range_succ, natI_snoc, List.append_assoc]; rfl
theorem allL_len (s : Soc) (dl cl ll : List Nat) (fd fc fl td tc tl : List Bool) : (allL s dl cl ll fd fc fl td tc tl).length ≤ 2 * (dl.length + cl.length + ll.length) := by
  have h := fun (a : List Nat) (x y : List Bool) => List.length_filter_le (turnB x y) a
  have h1 := h dl fd td; have h2 := h cl fc tc; have h3 := h ll fl tl; have h4 := h ll tl fl; have h5 := h cl.reverse tc fc; have h6 := h dl.reverse td fd
  rw [List.length_reverse] at h5 h6
  simp only [allL, stepL, moreL, List.length_append, List.length_map]
  omega
set_option maxHeartbeats 1000000 in
theorem steps_S (s : Soc) (A1 A2 A3 A4 Fd Fc Fl Td Tc Tl : Option Addr) (n1 k1 n2 k2 n3 k3 n4 k4 fdn fdk fcn fck fln flk tdn tdk tcn tck tln tlk : Nat) (fd fc fl td tc tl : List Bool) (w : World) (hW : SocW w s A1 n1 A2 n2 A3 n3 A4 n4) (hchk : checkS s = 0) (hD3 : (orderE (domsG s)).2.length ≤ 1000000) (hC3 : (orderE (clocksG s)).2.length ≤ 1000000) (hDb : ∀ i ∈ (orderE (domsG s)).2, i < n2) (hCb : ∀ i ∈ (orderE (clocksG s)).2, i < 1000000)
    (hfd : SlS (all w) 1 Fd fdn (boolCells fd)) (hfdn : fdn = fd.length) (htd : SlS (all w) 1 Td tdn (boolCells td)) (htdn : tdn = td.length) (hfc : SlS (all w) 1 Fc fcn (boolCells fc)) (hfcn : fcn = fc.length) (htc : SlS (all w) 1 Tc tcn (boolCells tc)) (htcn : tcn = tc.length) (hfl : SlS (all w) 1 Fl fln (boolCells fl)) (hfln : fln = fl.length) (htl : SlS (all w) 1 Tl tln (boolCells tl)) (htln : tln = tl.length) :
    Calls Tryz.prog 27 #[.agg #[.slice A1 n1 k1, .slice A2 n2 k2, .slice A3 n3 k3, .slice A4 n4 k4], .agg #[.slice Fd fdn fdk, .slice Fc fcn fck, .slice Fl fln flk], .agg #[.slice Td tdn tdk, .slice Tc tcn tck, .slice Tl tln tlk]] w (fun y w' => (∃ A c, y = .returned (.slice A (allL s (orderE (domsG s)).2 (orderE (clocksG s)).2 (List.range n3) fd fc fl td tc tl).length c) ∧ SlS (fresh w w') 4 A (allL s (orderE (domsG s)).2 (orderE (clocksG s)).2 (List.range n3) fd fc fl td tc tl).length ((allL s (orderE (domsG s)).2 (orderE (clocksG s)).2 (List.range n3) fd fc fl td tc tl).flatMap Stp.cells)) ∧ Below w.heap.size w w') := by
  have hn1 := hW.len1
  have hn2 := hW.len2
  have hn3 := hW.len3
  have hsm := hW.small
  unfold Soc.small at hsm
  obtain ⟨hs1, hs2, hs3, hs4, hs5, hs6⟩ := hsm
  refine XC.enter (vs := [.agg #[.slice A1 n1 k1, .slice A2 n2 k2, .slice A3 n3 k3, .slice A4 n4 k4], .agg #[.slice Fd fdn fdk, .slice Fc fcn fck, .slice Fl fln flk], .agg #[.slice Td tdn tdk, .slice Tc tcn tck, .slice Tl tln tlk]]) Tryz.func27 rfl Tryz.ntmps27 (by simp) (St.start w) ?_
  dsimp only [List.cons_append, List.nil_append]
  refine XC.seq ?_

  refine XC.regionW (by kernel_rfl) ?_
  refine xk_box rfl (by decide) fun g1 => ?_
  refine xk_box rfl (by decide) fun g2 => ?_
  refine xk_box rfl (by decide) fun g3 => ?_
  refine xk_assign rfl (by decide) ?_
  refine XC.endW ?_
  refine XC.norm ?_
  refine XC.seq ?_
  refine XC.seq ?_

  refine XC.regionW (by kernel_rfl) ?_
  refine xk_ldN 4 rfl ?_
  refine xk_callR (f := 47) (fi := []) (ca := []) (by kernel_rfl) rfl rfl (by decide) (fun w1 st => checkS_any s A1 A2 A3 A4 n1 k1 n2 k2 n3 k3 n4 k4 w1 (hW.le (st.started (by simp)))) ?_
  refine xk_neq rfl rfl (by decide) ?_
  refine XC.endW ?_
  refine XC.norm ?_
  refine XC.if_ rfl (fun h => ?_) (fun h => ?_)
  ·
    refine XC.seq ?_

    refine XC.regionW (by kernel_rfl) ?_
    refine xk_assign rfl (by decide) ?_
    refine XC.endW ?_
    refine XC.norm ?_
    refine XC.ret ?_
    refine XC.norm ?_
    exact absurd hchk h
  ·
    refine XC.skip ?_
    refine XC.norm ?_
    refine XC.seq ?_

    refine XC.regionW (by kernel_rfl) ?_
    refine xk_ldN 4 rfl ?_
    refine xk_call [(all w)] (f := 53) (fi := []) (ca := []) (by kernel_rfl) rfl rfl (by decide) (by simp) (GrOk (domsG s)) (fun w1 st => doms_any s A1 A2 A3 A4 n1 k1 n2 k2 n3 k3 n4 k4 w1 (hW.le (st.started (by simp)))) ?_
    rintro _ w1 qda ⟨Ag, cg, rfl, hgr⟩ hf Lq _
    have hgr := hgr.le hf
    have Lqda := Lq (all w) (by simp)
    clear hf Lq
    refine xk_call [qda] (f := 52) (fi := []) (ca := []) (by kernel_rfl) rfl rfl (by decide) (by simp) (OrdV (domsG s)) (fun w1 st => (order_any Ag _ cg (domsG s) w1 (hgr.le (st.le (by simp))) rfl (by simp [domsG]; omega) (fun l hl => by
        simp only [domsG, List.mem_map] at hl
        obtain ⟨x, _, rfl⟩ := hl
        split <;> simp)).mono fun y w2 h => h.ordV) ?_
    rintro _ w1 qd ⟨AD, mD, cD, rfl, hmD, hsD⟩ hf Lq _
    have hsD := hsD.le hf
    have Lqd := Lq qda (by simp)
    clear hf Lq hgr
    refine xk_move rfl (by decide) ?_
    refine xk_extract rfl rfl (by decide) ?_
    refine xk_extract rfl rfl (by decide) ?_
    refine xk_assign rfl (by decide) ?_
    refine xk_assign rfl (by decide) ?_
    refine XC.endW ?_
    refine XC.norm ?_
    refine XC.seq ?_

    refine XC.regionW (by kernel_rfl) ?_
    refine xk_ldN 4 rfl ?_
    refine xk_call [qd] (f := 54) (fi := []) (ca := []) (by kernel_rfl) rfl rfl (by decide) (by simp) (GrOk (clocksG s)) (fun w1 st => clocks_any s A1 A2 A3 A4 n1 k1 n2 k2 n3 k3 n4 k4 w1 (hW.le (st.started (by simp)))) ?_
    rintro _ w1 qca ⟨Ag, cg, rfl, hgr⟩ hf Lq _
    have hgr := hgr.le hf
    have Lqca := Lq qd (by simp)
    clear hf Lq
    refine xk_call [qca] (f := 52) (fi := []) (ca := []) (by kernel_rfl) rfl rfl (by decide) (by simp) (OrdV (clocksG s)) (fun w1 st => (order_any Ag _ cg (clocksG s) w1 (hgr.le (st.le (by simp))) rfl (by simp [clocksG]; omega) (fun l hl => by
        simp only [clocksG, List.mem_map] at hl
        obtain ⟨x, hx, rfl⟩ := hl
        have := hs5 x hx; omega)).mono fun y w2 h => h.ordV) ?_
    rintro _ w1 qc ⟨AC, mC, cC, rfl, hmC, hsC⟩ hf Lq _
    have hsC := hsC.le hf
    have Lqc := Lq qca (by simp)
    clear hf Lq hgr
    refine xk_move rfl (by decide) ?_
    refine xk_extract rfl rfl (by decide) ?_
    refine xk_extract rfl rfl (by decide) ?_
    refine xk_assign rfl (by decide) ?_
    refine xk_assign rfl (by decide) ?_
    refine XC.endW ?_
    refine XC.norm ?_
    refine XC.seq ?_

    refine XC.regionW (by kernel_rfl) ?_
    refine xk_field (off := 2) (by kernel_rfl) rfl (by decide) ?_
    refine xk_ld rfl ?_
    refine xk_len (el := 91) (by kernel_rfl) rfl (by decide) ?_
    refine xk_makeT 8 (el := 3) (z := .int .i64 0) (by kernel_rfl) (by kernel_rfl) rfl rfl rfl (by omega) (by omega) (by decide) fun g4 => ?_
    refine xk_assign rfl (by decide) ?_
    refine XC.endW ?_
    refine XC.norm ?_
    refine XC.seq ?_
    refine XC.seq ?_

    refine XC.regionW (by kernel_rfl) ?_
    refine xk_move rfl (by decide) ?_
    refine xk_len (el := 3) (by kernel_rfl) rfl (by decide) ?_
    refine xk_move rfl (by decide) ?_
    refine XC.endW ?_
    refine XC.norm ?_
    refine XK.envS [(36, .int .i64 0), (35, .int .i64 n3), (11, .slice (some ⟨g4, 0, none⟩) n3 n3), (9, .slice AC mC cC), (7, .slice AD mD cD), (5, .pointer (some ⟨g3, 0, none⟩)), (4, .pointer (some ⟨g2, 0, none⟩)), (3, .pointer (some ⟨g1, 0, none⟩))] ?_
    refine XK.weak (R' := [qc, all w]) [0, 1, 2, 3, 4] rfl (by decide) (by simp) ?_
    refine XC.block ?_
    refine XC.loop (fun m L e R H => ∃ k : Nat, k ≤ n3 ∧ m = n3 - k ∧ L = [] ∧ e = [(36, .int .i64 k), (35, .int .i64 n3), (11, .slice (some ⟨g4, 0, none⟩) n3 n3), (9, .slice AC mC cC), (7, .slice AD mD cD), (5, .pointer (some ⟨g3, 0, none⟩)), (4, .pointer (some ⟨g2, 0, none⟩)), (3, .pointer (some ⟨g1, 0, none⟩))] ∧ R = [qc, all w] ∧ H = [HP.blk g4 3 (intCells ((natI (List.range k)) ++ List.replicate (n3 - k) 0)), HP.blk g3 62 [.slice Td tdn tdk, .slice Tc tcn tck, .slice Tl tln tlk], HP.blk g2 62 [.slice Fd fdn fdk, .slice Fc fcn fck, .slice Fl fln flk], HP.blk g1 30 [.slice A1 n1 k1, .slice A2 n2 k2, .slice A3 n3 k3, .slice A4 n4 k4], HP.marks []]) n3 ⟨0, by omega, rfl, rfl, rfl, rfl, by simp [intCells, natI, Value.cells]⟩ fun m L e R H hI => ?_
    obtain ⟨k, hk, rfl, rfl, rfl, rfl, rfl⟩ := hI
    refine XC.seq ?_

    refine XC.regionW (by kernel_rfl) ?_
    refine xk_lss rfl rfl (by decide) ?_
    refine XC.endW ?_
    refine XC.norm ?_
    refine XC.seq ?_
    refine XC.if_ rfl (fun h => ?_) (fun h => ?_)
    ·
      refine XC.skip ?_
      refine XC.norm ?_
      refine XC.seq ?_
      refine XC.block ?_
      refine XC.seq ?_

      refine XC.regionW (by kernel_rfl) ?_
      refine xk_move rfl (by decide) ?_
      refine xk_assign rfl (by decide) ?_
      refine XC.endW ?_
      refine XC.norm ?_

      refine XC.regionW (by kernel_rfl) ?_
      refine xk_move rfl (by decide) ?_
      refine xk_move rfl (by decide) ?_
      refine xk_move rfl (by decide) ?_
      refine xk_at (k) (k) (el := 3) (sz := 1) (by kernel_rfl) (by kernel_rfl) rfl rfl (by omega) (by omega) (by omega) (by decide) ?_
      refine xk_store 0 rfl (by kernel_rfl) rfl rfl rfl (by simp [intCells, natI]; omega) ?_
      dsimp only [List.set]
      rw [lines_set (by omega)]
      refine XC.endW ?_
      refine XC.norm ?_

      refine XC.regionW (by kernel_rfl) ?_
      refine xk_add rfl rfl (wrap_in (by omega)) (by decide) ?_
      refine xk_move rfl (by decide) ?_
      refine XC.endW ?_
      refine XC.norm ?_
      exact XK.envS [(36, .int .i64 (k + 1)), (35, .int .i64 n3), (11, .slice (some ⟨g4, 0, none⟩) n3 n3), (9, .slice AC mC cC), (7, .slice AD mD cD), (5, .pointer (some ⟨g3, 0, none⟩)), (4, .pointer (some ⟨g2, 0, none⟩)), (3, .pointer (some ⟨g1, 0, none⟩))] (XC.round (n3 - (k + 1)) (by omega) ⟨k + 1, by omega, rfl, rfl, rfl, rfl, rfl⟩)
    ·
      refine XC.exit ?_
      refine XC.norm ?_
      refine XC.seq ?_

      refine XC.regionW (by kernel_rfl) ?_
      refine xk_alloc (cs := [.slice none 0 0]) (zeroB_of (by kernel_rfl)) (by decide) fun g5 => ?_
      refine XC.endW ?_
      refine XC.norm ?_
      refine XC.seq ?_
      refine XC.seq ?_
      refine XK.still [qc] [1] [0, 2, 3, 4, 5] (by simp) rfl (by decide) (by decide) fun q5 hq5 L5 _ => ?_
      have L5 := L5 qc (by simp)
      have hk3 : k = n3 := by omega
      have hlines := SlS.of_blk (n := n3) (sz := 1) (c := n3) (hq5 1 _ (by simp) rfl).choose_spec.1 (hq5 1 _ (by simp) rfl).choose_spec.2 (by simp [intCells, natI]; omega)
      rw [hk3, Nat.sub_self, List.replicate_zero, List.append_nil] at hlines
      have L0 : (all w).Le q5 := (((Lqda.trans' Lqd).trans' Lqca).trans' Lqc).trans' L5
      refine XK.weak (R' := [q5, all w]) [0, 1, 2, 3, 4] rfl (by decide) (by simp) ?_

      refine XC.regionW (by kernel_rfl) ?_
      refine xk_ldN 4 rfl ?_
      refine xk_move rfl (by decide) ?_
      refine xk_move rfl (by decide) ?_
      refine xk_move rfl (by decide) ?_
      refine xk_ldN 3 rfl ?_
      refine xk_ldN 3 rfl ?_
      refine xk_call [q5] (f := 55) (fi := []) (ca := []) (by kernel_rfl) rfl rfl (by decide) (by simp) (AllOk q5 (allL s (orderE (domsG s)).2 (orderE (clocksG s)).2 (List.range n3) fd fc fl td tc tl)) (fun w1 st => all_any q5 s A1 A2 A3 A4 AD AC (some ⟨g4, 0, none⟩) Fd Fc Fl Td Tc Tl n1 k1 n2 k2 n3 k3 n4 k4 mD cD mC cC n3 n3 fdn fdk fcn fck fln flk tdn tdk tcn tck tln tlk (orderE (domsG s)).2 (orderE (clocksG s)).2 (List.range n3) fd fc fl td tc tl w1 (st.le (by simp)) (hW.dom.mono (slq_le L0) (fun _ _ h => h)) (by omega) (hsD.le ((Lqca.trans' Lqc).trans' L5)) hmD (by omega) hDb (hsC.le L5) hmC (by omega) hCb hlines (by simp) (by omega) (fun i hi => by have := List.mem_range.1 hi; omega) (hfd.le L0) hfdn (htd.le L0) htdn (hfc.le L0) hfcn (htc.le L0) htcn (hfl.le L0) hfln (htl.le L0) htln) ?_
      rintro _ w1 q6 ⟨g6, rfl, hall⟩ hf L6 _
      have hit := hall q6 (L6 q5 (by simp)) hf
      refine XC.endW ?_
      refine XC.norm ?_
      refine XC.block ?_
      refine XK.nilrow 75 4 ?_
      refine XK.pair ?_
      generalize hSL : allL s (orderE (domsG s)).2 (orderE (clocksG s)).2 (List.range n3) fd fc fl td tc tl = SL at hit
      refine XK.toEx 0 (f := fun v => HP.many [HP.own 75 4 v 0 ((SL.take 0).flatMap Stp.cells), HP.blk g5 69 [v]]) (.slice none 0 0) rfl ?_
      dsimp only [List.set]
      refine XK.weak (R' := [q6, all w]) [0, 4] rfl (by decide) (by simp) ?_
      refine XK.envS [(50, .func (.func 111) #[] #[.pointer (some ⟨g6, 0, none⟩)]), (13, .pointer (some ⟨g5, 0, none⟩))] ?_
      refine XC.range (gf := 111) (lb := [.pointer (some ⟨g6, 0, none⟩)]) (encs := stEnc SL) (p := q6) rfl (by kernel_rfl) hit (by simp) (fun vs hvs => ?_) (by decide) (fun k => [(HP.ex fun v => HP.many [HP.own 75 4 v k ((SL.take k).flatMap Stp.cells), HP.blk g5 69 [v]])]) (fun _ => [HP.ex fun (_ : Empty) => HP.emp])
        (fun k vs e1 H1 => ∃ (g7 : Nat) (s : Stp), vs = [stV s] ∧ e1 = [(14, .pointer (some ⟨g7, 0, none⟩)), (13, .pointer (some ⟨g5, 0, none⟩))] ∧ H1 = [HP.blk g7 75 s.cells, (HP.ex fun v => HP.many [HP.own 75 4 v k ((SL.take k).flatMap Stp.cells), HP.blk g5 69 [v]])]) rfl ?_ ?_ ?_ ?_
      · simp only [stEnc, List.mem_map] at hvs
        obtain ⟨s, _, rfl⟩ := hvs
        rfl
      · intro l2 k vs W1 q X hvs hsm
        obtain ⟨s, rfl⟩ : ∃ s, vs = [stV s] := by
          simp only [stEnc, List.getElem?_map, Option.map_eq_some_iff] at hvs
          obtain ⟨s, _, e⟩ := hvs
          exact ⟨s, e.symm⟩
        dsimp only [List.cons_append, List.nil_append]
        refine XC.regionW (by kernel_rfl) ?_
        refine xk_alloc (cs := [.int .i64 0, .int .i64 0, .int .u32 0, .int .u32 0]) (zeroB_of (by kernel_rfl)) (by decide) fun g7 => ?_
        refine xk_storeN 0 rfl rfl rfl (by kernel_rfl) (by simp [stV, Stp.cells, Value.cells, Value.oneCell']) (by simp [stV, Stp.cells, Value.cells]) ?_
        rw [show putN [Value.int .i64 0, .int .i64 0, .int .u32 0, .int .u32 0] 0 (stV s).cells.toList = s.cells by simp [putN, stV, Stp.cells, Value.cells]]
        dsimp only [List.set]
        refine XC.endW ?_
        refine XK.envS [(14, .pointer (some ⟨g7, 0, none⟩)), (13, .pointer (some ⟨g5, 0, none⟩))] ?_
        exact XC.assigned (H1 := [HP.blk g7 75 s.cells, (HP.ex fun v => HP.many [HP.own 75 4 v k ((SL.take k).flatMap Stp.cells), HP.blk g5 69 [v]])]) ⟨g7, s, rfl, rfl, rfl⟩
      · rintro l2 k vs W1 q X _ _ hvs hsm ⟨g7, s, rfl, rfl, rfl⟩
        have hsk : SL[k]? = some s := by
          simp only [stEnc, List.getElem?_map, Option.map_eq_some_iff] at hvs
          obtain ⟨s', h, e⟩ := hvs
          have : s' = s := by
            cases s; cases s'
            simp [stV, Stp.cells] at e
            simp [e]
          exact this ▸ h
        have hkl := (List.getElem?_eq_some_iff.1 hsk).1
        have hSLl : SL.length ≤ 6000000 := by rw [← hSL]; refine Nat.le_trans (allL_len _ _ _ _ _ _ _ _ _ _) ?_; simp only [List.length_range]; omega
        have htk : ((SL.take (k + 1)).flatMap Stp.cells) = ((SL.take k).flatMap Stp.cells) ++ s.cells := by
          rw [List.take_add_one, hsk]; simp
        dsimp only [List.cons_append, List.nil_append]
        refine XC.block ?_
        refine XK.openEx 1 rfl fun v => ?_
        dsimp only [List.set]
        refine XK.take 1 0 rfl rfl ?_
        dsimp only [List.set]
        refine XK.take 2 1 rfl rfl ?_
        dsimp only [List.set]
        refine XC.regionW (by kernel_rfl) ?_
        refine xk_load (by kernel_rfl) rfl (Rd.blk 0 rfl rfl) (by decide) ?_
        refine xk_loadN 4 (by kernel_rfl) rfl (RdN.whole 2 rfl) rfl (by decide) ?_
        refine xk_slice (cs := s.cells) (el := 75) (sz := 4) (zs := [.int .i64 0, .int .i64 0, .int .u32 0, .int .u32 0]) (by kernel_rfl) (zeroB_of (by kernel_rfl)) (by kernel_rfl) rfl (by decide) (by decide) rfl (by simp [fillL, setN, Value.cells, List.range_succ, List.set, Stp.cells]) (by decide) fun g8 => ?_
        refine xk_appendT 2 4 24 1 (n' := k + 1) (el := 75) (by kernel_rfl) (by kernel_rfl) (by decide) rfl rfl rfl (sl_blk 0 rfl rfl) (by simp [Stp.cells, Value.oneCell']) rfl (by omega) (by omega) (by decide) fun A' k' => ?_
        dsimp only [List.set]
        refine xk_store 1 rfl (by kernel_rfl) rfl rfl rfl (by simp) ?_
        dsimp only [List.set]
        refine XC.endW ?_
        refine XK.weak [2, 1, 4, 5] rfl (by decide) (fun _ hp => hp) ?_
        refine XK.give 1 0 rfl rfl ?_
        dsimp only [List.set]
        refine XK.give 0 1 rfl rfl ?_
        dsimp only [List.set]
        refine XK.toEx 0 (f := fun v => HP.many [HP.own 75 4 v (k + 1) ((SL.take (k + 1)).flatMap Stp.cells), HP.blk g5 69 [v]]) (.slice A' (k + 1) k') (by rw [htk]; rfl) ?_
        dsimp only [List.set]
        refine XC.norm ?_
        exact XC.bodyN
      rotate_left
      · intro D k hk
        exact XK.openEx 0 rfl fun a => a.elim
      intro D
      dsimp only [List.cons_append, List.nil_append]
      refine XK.openEx 0 rfl fun v => ?_
      dsimp only [List.set]
      refine XK.take 0 0 rfl rfl ?_
      dsimp only [List.set]
      refine XK.take 1 1 rfl rfl ?_
      dsimp only [List.set]
      refine XC.norm ?_
      refine XC.seq ?_

      refine XC.regionW (by kernel_rfl) ?_
      refine xk_load (by kernel_rfl) rfl (Rd.blk 0 rfl rfl) (by decide) ?_
      refine xk_assign rfl (by decide) ?_
      refine XC.endW ?_
      refine XC.norm ?_
      refine XC.ret ?_
      refine XC.norm ?_
      refine XK.still [] [1] [3] (by simp) rfl (by decide) (by decide) fun qf hqf _ hfr => ?_
      obtain ⟨Ff, sf, zf⟩ := hqf 1 _ (by simp) rfl
      obtain ⟨Av, cv, rfl, hsv⟩ := SlS.of_own (Y := qf.Z) sf zf
      refine XC.ret1 (Hs := []) rfl rfl fun w1 st => ⟨⟨Av, cv, by simp [stEnc], ?_⟩, st.below (by simp)⟩
      have hlen : (stEnc SL).length = SL.length := by simp [stEnc]
      rw [hlen, List.take_length] at hsv
      exact SlS.le hsv (st.fresh_le (by simp) (hfr (by simp) (by simp)))
end Go.Proofs.YtbgibbbggajgaaaGreat
/- The small logic: bools, and structs of plain cells, are the same. -/
namespace Go.Proofs.YtbgibbbggajgaaaGreat
set_option linter.all false
open Go.RowKit
def eqV : Value → Value → Bool
  | .int _ a, .int _ b => a == b
  | .bool a, .bool b => a == b
  | _, _ => false
def eqVs : List Value → List Value → Bool
  | [], [] => true
  | x :: xs, y :: ys => eqV x y && eqVs xs ys
  | _, _ => false
/-- the cells of a struct, each an int or a bool, one behind the other -/
def flatFs (P : Program) : List Field → Nat → List Value → List Value → Bool
  | [], _, [], [] => true
  | f :: fs, i, x :: xs, y :: ys => f.name != "_" && f.offset == i && (match P.underlying f.type, x, y with
      | some (.int _), .int kx _, .int ky _ => decide (kx = ky)
      | some .bool, .bool _, .bool _ => true
      | _, _, _ => false) && flatFs P fs (i + 1) xs ys
  | _, _, _, _ => false
section
variable {P : Program} {w : World}
theorem run_part_one {t : TypeId} {cs : Array Value} {i : Nat} {v : Value} {d : TypeDesc} (hu : P.underlying t = some d) (hd : (∃ k, d = .int k) ∨ d = .bool) (hx : cs[i]? = some v) : (part t cs i).run P w = .ok v w := by
  rcases hd with ⟨k, rfl⟩ | rfl <;> simp [part, isAgg, run_underlying hu, hx]
theorem run_eqFlat (d : Nat) (xs ys : Array Value) : ∀ (fs : List Field) (i : Nat), flatFs P fs i (xs.toList.drop i) (ys.toList.drop i) = true → (Op.eqFields (d + 1) xs ys fs).run P w = .ok (eqVs (xs.toList.drop i) (ys.toList.drop i)) w
  | [], i, h => by
    cases hx : xs.toList.drop i with
    | nil => cases hy : ys.toList.drop i with
      | nil => simp [Op.eqFields, eqVs]
      | cons y yr => rw [hx, hy] at h; simp [flatFs] at h
    | cons x xr => rw [hx] at h; simp [flatFs] at h
  | f :: fs, i, h => by
    cases hx : xs.toList.drop i with
    | nil => rw [hx] at h; simp [flatFs] at h
    | cons x xr =>
      cases hy : ys.toList.drop i with
      | nil => rw [hx, hy] at h; simp [flatFs] at h
      | cons y yr =>
        rw [hx, hy] at h
        simp only [flatFs, Bool.and_eq_true, bne_iff_ne, beq_iff_eq] at h
        obtain ⟨⟨⟨h1, h2⟩, h3⟩, h4⟩ := h
        have ex : xs[i]? = some x := by
          have : (xs.toList.drop i)[0]? = some x := by rw [hx]; rfl
          simpa using this
        have ey : ys[i]? = some y := by
          have : (ys.toList.drop i)[0]? = some y := by rw [hy]; rfl
          simpa using this
        have dx : xr = xs.toList.drop (i + 1) := by rw [← List.tail_drop, hx]; rfl
        have dy : yr = ys.toList.drop (i + 1) := by rw [← List.tail_drop, hy]; rfl
        subst dx
        subst dy
        have ih := run_eqFlat d xs ys fs (i + 1) h4
        have key : ∃ u, P.underlying f.type = some u ∧ ((∃ k, u = .int k) ∨ u = .bool) ∧ (Op.equalIn (d + 1) f.type x y).run P w = .ok (eqV x y) w := by
          split at h3
          · rename_i k kx a ky b hu
            have := of_decide_eq_true h3
            subst this
            exact ⟨_, hu, .inl ⟨_, rfl⟩, run_equalIn_int w d f.type kx _ a b hu⟩
          · rename_i a b hu
            exact ⟨_, hu, .inr rfl, run_equalIn_bool' w d f.type a b hu⟩
          · cases h3
        obtain ⟨u, hu, hk, he⟩ := key
        simp only [Op.eqFields, if_pos h1, Sem.run_bind, h2, run_part_one hu hk ex, run_part_one hu hk ey, Result.andThen_ok, he, Sem.run_ite, Sem.run_pure, ih, eqVs]
        cases eqV x y <;> simp
variable {N : Nat} {w0 : World} {e : Env} {R : List Piece} {H : List HP} {Q : Exit → Act → World → Prop} {ops : Array Oper} {rest : List Oper}
variable {d : Nat} {ty : TypeId} {pos : String} {aft : Array Edge}
def flatB (P : Program) (t : TypeId) (xs ys : List Value) : Bool := (match P.underlying t with
  | some (.struct fs) => flatFs P fs.toList 0 xs ys
  | _ => false) && !P.stoodInHeld t && !P.eqGuardType P.depth t
theorem run_eqS {t : TypeId} {xs ys : List Value} (h : flatB P t xs ys = true) : (Op.equal t (.agg xs.toArray) (.agg ys.toArray)).run P w = .ok (eqVs xs ys) w ∧ ∀ op x y, (eqGuard op t x y (.agg xs.toArray) (.agg ys.toArray)).run P w = .ok () w := by
  unfold flatB at h
  simp only [Bool.and_eq_true, Bool.not_eq_true'] at h
  obtain ⟨⟨h1, h2⟩, h3⟩ := h
  refine ⟨?_, fun op x y => run_eqGuard_agg w op t x y _ _ h3⟩
  split at h1
  · rename_i fs hu
    have hf : P.fieldsOf t = fs := by unfold Program.fieldsOf; rw [hu]
    have := run_equalIn_struct (P := P) w 9999 t xs.toArray ys.toArray (by rw [hf]; exact hu) h2
    unfold Op.equal Op.maxDepth
    rw [this, hf]
    have := run_eqFlat (P := P) (w := w) 9998 xs.toArray ys.toArray fs.toList 0 (by simpa using h1)
    simpa using this
  · cases h1
theorem xk_eqlS {x y : Operand} {t u : TypeId} {xs ys : List Value} (hf : flatB P t xs ys = true) (hx : e.ev x = some (.agg xs.toArray)) (hy : e.ev y = some (.agg ys.toArray)) (hd : d < N) (k : XK N w0 (wpList P ops Q rest) ((d, .bool (eqVs xs ys)) :: e) R H) :
    XK N w0 (wpList P ops Q (⟨some d, .binOp .eql t x y u, ty, pos, aft, none⟩ :: rest)) e R H := xk_pure hd (fun a w hr => by
  obtain ⟨h1, h2⟩ := run_eqS (w := w) hf
  simp [execOp, hr.ev hx, hr.ev hy, binOp, h1, h2]) k
theorem xk_neqB {x y : Operand} {t u : TypeId} {b c : Bool} (ht : P.underlying t = some .bool) (hx : e.ev x = some (.bool b)) (hy : e.ev y = some (.bool c)) (hd : d < N) (k : XK N w0 (wpList P ops Q rest) ((d, .bool (decide (¬ b = c))) :: e) R H) :
    XK N w0 (wpList P ops Q (⟨some d, .binOp .neq t x y u, ty, pos, aft, none⟩ :: rest)) e R H := xk_pure hd (fun a w hr => by
  have he : (!(b == c)) = decide (¬ b = c) := by cases b <;> cases c <;> rfl
  simp [execOp, hr.ev hx, hr.ev hy, eqGuard, binOp, run_equal_bool w t b c ht, he]) k
end
end Go.Proofs.YtbgibbbggajgaaaGreat
/- wishes: rows of raw bits; whether wishes are the same; as the reference has them. -/
namespace Go.Proofs.YtbgibbbggajgaaaGreat
set_option linter.all false
open Go.RowKit
/-- bit i of a raw number, as the law takes it -/
def and64 (x y : Int) : Int := IntKind.i64.wrap (BitVec.ofInt 64 x &&& BitVec.ofInt 64 y).toNat
def bitB (raw : Int) (i : Nat) : Bool := decide (and64 (raw.fdiv (2 ^ (i % 30))) 1 = 1)
def bitsL (n : Nat) (raw : Int) : List Bool := (List.range n).map (bitB raw)
theorem bitsL_len (n : Nat) (raw : Int) : (bitsL n raw).length = n := by simp [bitsL]
structure Wsh where
  d : List Bool
  c : List Bool
  l : List Bool
/-- wishes, as they lie in a piece -/
def WshR (p : Piece) (x : Wsh) (v : Value) : Prop := ∃ A1 k1 A2 k2 A3 k3, v = .agg #[.slice A1 x.d.length k1, .slice A2 x.c.length k2, .slice A3 x.l.length k3] ∧
  SlS p 1 A1 x.d.length (boolCells x.d) ∧ SlS p 1 A2 x.c.length (boolCells x.c) ∧ SlS p 1 A3 x.l.length (boolCells x.l)
theorem WshR.le {p q : Piece} {x : Wsh} {v : Value} (h : WshR p x v) (hl : p.Le q) : WshR q x v := by
  obtain ⟨A1, k1, A2, k2, A3, k3, h0, h1, h2, h3⟩ := h
  exact ⟨A1, k1, A2, k2, A3, k3, h0, h1.le hl, h2.le hl, h3.le hl⟩
def someW (n1 n2 n3 : Nat) (raw : Int) : Wsh := ⟨bitsL n2 raw, bitsL n1 (raw.tdiv 16), bitsL n3 (raw.tdiv 8192)⟩
/-- the call returns what R says, and leaves all that there was -/
def RtW (Rl : Value → World → World → Prop) (w : World) : Ending → World → Prop := fun y w' => (∃ v, y = .returned v ∧ Rl v w w') ∧ Below w.heap.size w w'
def BitsOk (n : Nat) (raw : Int) (v : Value) (w w' : World) : Prop := ∃ A c, v = .slice A n c ∧ SlS (fresh w w') 1 A n (boolCells (bitsL n raw))
def WishOk (x : Wsh) (v : Value) (w w' : World) : Prop := WshR (fresh w w') x v
theorem bits_set {n k : Nat} {raw : Int} (h : k < n) : (boolCells (bitsL k raw ++ List.replicate (n - k) false)).set k (.bool (bitB raw k)) = boolCells (bitsL (k + 1) raw ++ List.replicate (n - (k + 1)) false) := by
  unfold boolCells
  rw [← List.map_set, List.set_append_right _ _ (by simp [bitsL])]
  rw [show k - (bitsL k raw).length = 0 by simp [bitsL], show n - k = (n - (k + 1)) + 1 by omega, List.replicate_succ, List.set_cons_zero]
  simp [bitsL, List.range_succ]
def sameB (a b : List Bool) : Bool := decide (a = b)
def Wsh.same (x y : Wsh) : Bool := sameB x.d y.d && sameB x.c y.c && sameB x.l y.l
theorem tdiv_i64 {a : Int} {d : Int} (hd : 1 ≤ d) (h : -9223372036854775808 ≤ a ∧ a ≤ 9223372036854775807) : IntKind.i64.wrap (a.tdiv d) = a.tdiv d := wrap_in (tdiv_bd hd (by omega) (by omega) h)

theorem bits17_any (n : Nat) (raw : Int) (w : World) (hn : n ≤ 1000000) :
    Calls Tryz.prog 21 #[.int .i64 (n : Int), .int .i64 raw] w (RtW (BitsOk n raw) w) := by
  refine XK.enter (vs := [.int .i64 (n : Int), .int .i64 raw]) Tryz.func21 rfl Tryz.ntmps21 (by simp) ?_
  refine XK.seq ?_

  refine XK.region ?_
  refine xk_assign rfl (by decide) ?_
  refine XK.nilN ?_
  refine XK.seq ?_

  refine XK.region ?_
  refine xk_move rfl (by decide) ?_
  refine xk_makeT 1 (el := 4) (z := .bool false) (by kernel_rfl) (by kernel_rfl) rfl rfl rfl (by omega) (by omega) (by decide) fun g1 => ?_
  refine xk_assign rfl (by decide) ?_
  refine XK.nilN ?_
  refine XK.seq ?_
  refine XK.seq ?_

  refine XK.region ?_
  refine xk_assign rfl (by decide) ?_
  refine XK.nilN ?_
  refine XK.envS [(6, .int .i64 0), (5, .slice (some ⟨g1, 0, none⟩) n n), (1, .int .i64 raw), (0, .int .i64 (n : Int))] ?_
  refine XK.block ?_
  refine XK.loop (fun m e R H => ∃ k : Nat, k ≤ n ∧ m = n - k ∧ e = [(6, .int .i64 k), (5, .slice (some ⟨g1, 0, none⟩) n n), (1, .int .i64 raw), (0, .int .i64 (n : Int))] ∧ R = [all w] ∧ H = [HP.blk g1 4 (boolCells (bitsL k raw ++ List.replicate (n - k) false))]) n ⟨0, by omega, rfl, rfl, rfl, by simp [boolCells, bitsL]⟩ fun m e R H hI => ?_
  obtain ⟨k, hk, rfl, rfl, rfl, rfl⟩ := hI
  refine XK.seq ?_
  refine XK.seq ?_

  refine XK.region ?_
  refine xk_move rfl (by decide) ?_
  refine xk_move rfl (by decide) ?_
  refine xk_lss rfl rfl (by decide) ?_
  refine XK.nilN ?_
  refine XK.if_ rfl (fun h => ?_) (fun h => ?_)
  ·
    refine XK.skip ?_
    refine XK.norm ?_
    refine XK.seq ?_
    refine XK.block ?_

    refine XK.region ?_
    refine xk_move rfl (by decide) ?_
    refine xk_move rfl (by decide) ?_
    refine xk_move rfl (by decide) ?_
    refine xk_move rfl (by decide) ?_
    refine xk_rem rfl rfl (by omega) (rem_in (by omega)) (by decide) ?_
    refine xk_shr (c := raw.fdiv (2 ^ (k % 30))) rfl rfl (by omega) (by congr 2; show min (((k : Int) % 30).toNat) 64 = k % 30; omega) (by decide) ?_
    refine xk_bits (c := and64 (raw.fdiv (2 ^ (k % 30))) 1) rfl rfl (fun _ => rfl) (by simp) (by decide) ?_
    refine xk_eql rfl rfl (by decide) ?_
    rw [show decide (and64 (raw.fdiv (2 ^ (k % 30))) 1 = 1) = bitB raw k from rfl]
    refine xk_at (k) (k) (el := 4) (sz := 1) (by kernel_rfl) (by kernel_rfl) rfl rfl (by omega) (by omega) (by omega) (by decide) ?_
    refine xk_store 0 rfl (by kernel_rfl) rfl rfl rfl (by simp [boolCells, bitsL]; omega) ?_
    dsimp only [List.set]
    rw [bits_set (by omega)]
    refine XK.nilN ?_

    refine XK.region ?_
    refine xk_move rfl (by decide) ?_
    refine xk_add rfl rfl (wrap_in (by omega)) (by decide) ?_
    refine xk_assign rfl (by decide) ?_
    refine XK.nilN ?_
    exact XK.envS [(6, .int .i64 ((k : Int) + 1)), (5, .slice (some ⟨g1, 0, none⟩) n n), (1, .int .i64 raw), (0, .int .i64 (n : Int))] (XK.round (n - (k + 1)) (by omega) ⟨k + 1, by omega, rfl, rfl, rfl, rfl⟩)
  ·
    refine XK.exit ?_
    refine XK.norm ?_
    refine XK.seq ?_

    refine XK.region ?_
    refine xk_move rfl (by decide) ?_
    refine xk_assign rfl (by decide) ?_
    refine XK.nilN ?_
    refine XK.ret ?_
    refine XK.norm ?_
    obtain rfl : k = n := by omega
    rw [Nat.sub_self, List.replicate_zero, List.append_nil]
    refine XK.still [] [0] [] (by simp) rfl (by decide) (by decide) fun qf hqf _ hfr => ?_
    have hsv := SlS.of_blk (n := k) (sz := 1) (c := k) (hqf 0 _ (by simp) rfl).choose_spec.1 (hqf 0 _ (by simp) rfl).choose_spec.2 (by simp [boolCells, bitsL])
    exact XK.ret1 rfl rfl fun w1 st => ⟨⟨_, rfl, _, _, rfl, SlS.le hsv (st.fresh_le (by simp) (hfr (by simp) (by simp)))⟩, st.below (by simp)⟩

theorem some17_any (A1 A2 A3 A4 : Option Addr) (n1 k1 n2 k2 n3 k3 n4 k4 : Nat) (raw : Int) (w : World) (hraw : -9223372036854775808 ≤ raw ∧ raw ≤ 9223372036854775807) (h1 : n1 ≤ 1000000) (h2 : n2 ≤ 1000000) (h3 : n3 ≤ 1000000) :
    Calls Tryz.prog 26 #[.agg #[.slice A1 n1 k1, .slice A2 n2 k2, .slice A3 n3 k3, .slice A4 n4 k4], .int .i64 raw] w (RtW (WishOk (someW n1 n2 n3 raw)) w) := by
  refine XK.enter (vs := [.agg #[.slice A1 n1 k1, .slice A2 n2 k2, .slice A3 n3 k3, .slice A4 n4 k4], .int .i64 raw]) Tryz.func26 rfl Tryz.ntmps26 (by simp) ?_
  refine XK.seq ?_

  refine XK.region ?_
  refine xk_box rfl (by decide) fun g1 => ?_
  refine xk_alloc (cs := [.slice none 0 0, .slice none 0 0, .slice none 0 0]) (zeroB_of (by kernel_rfl)) (by decide) fun g2 => ?_
  refine XK.nilN ?_
  refine XK.seq ?_

  refine XK.draw 16 (by kernel_rfl) (by kernel_rfl) ?_
  refine XA.dA 0 rfl rfl rfl (does_field (off := 1) (by kernel_rfl) rfl) ?_
  refine XA.dA 1 rfl rfl rfl (does_ld rfl) ?_
  refine XA.dA 2 rfl rfl rfl (does_len (el := 89) (by kernel_rfl) rfl) ?_
  refine XA.dA 3 rfl rfl rfl (does_move rfl) ?_
  refine XA.dA 5 rfl rfl rfl (does_field (off := 0) (by kernel_rfl) rfl) ?_
  refine XA.dA 6 rfl rfl rfl (does_ld rfl) ?_
  refine XA.dA 7 rfl rfl rfl (does_len (el := 87) (by kernel_rfl) rfl) ?_
  refine XA.dA 8 rfl rfl rfl (does_move rfl) ?_
  refine XA.dA 9 rfl rfl rfl (does_quo rfl rfl (by omega) (tdiv_i64 (by omega) hraw)) ?_
  refine XA.dA 11 rfl rfl rfl (does_field (off := 2) (by kernel_rfl) rfl) ?_
  refine XA.dA 12 rfl rfl rfl (does_ld rfl) ?_
  refine XA.dA 13 rfl rfl rfl (does_len (el := 91) (by kernel_rfl) rfl) ?_
  refine XA.dA 14 rfl rfl rfl (does_move rfl) ?_
  refine XA.dA 15 rfl rfl rfl (does_quo rfl rfl (by omega) (tdiv_i64 (by omega) hraw)) ?_
  refine XA.next 4 rfl (by kernel_rfl) ?_
  refine xk_call [] (f := 21) (fi := []) (ca := []) (by kernel_rfl) rfl rfl (by decide) (by simp) (BitsOk n2 raw) (fun w1 st => bits17_any n2 raw w1 (by omega)) ?_
  rintro _ w1 qa ⟨Aa, ca, rfl, ha⟩ hf La Na
  have ha := ha.le hf
  clear hf
  refine XK.nil ?_; refine XK.thenN ?_; refine XA.back (fun _ h => h.tailR) ?_
  refine XA.next 10 rfl (by kernel_rfl) ?_
  refine xk_call [qa] (f := 21) (fi := []) (ca := []) (by kernel_rfl) rfl rfl (by decide) (by simp) (BitsOk n1 (raw.tdiv 16)) (fun w1 st => bits17_any n1 (raw.tdiv 16) w1 (by omega)) ?_
  rintro _ w1 qb ⟨Ab, cb, rfl, hb⟩ hf Lb Nb
  have hb := hb.le hf
  clear hf
  refine XK.nil ?_; refine XK.thenN ?_; refine XA.back (fun _ h => h.tailR.tailR) ?_
  refine XA.next 16 rfl (by kernel_rfl) ?_
  refine xk_call [qb] (f := 21) (fi := []) (ca := []) (by kernel_rfl) rfl rfl (by decide) (by simp) (BitsOk n3 (raw.tdiv 8192)) (fun w1 st => bits17_any n3 (raw.tdiv 8192) w1 (by omega)) ?_
  rintro _ w1 qc ⟨Ac, cc, rfl, hc⟩ hf Lc Nc
  have hc := hc.le hf
  clear hf
  refine XA.bt ?_
  refine XA.next 17 rfl (by kernel_rfl) ?_
  refine xk_buildS (zs := [.slice none 0 0, .slice none 0 0, .slice none 0 0]) (L := [(0, 1), (1, 1), (2, 1)]) (zeroB_of (by kernel_rfl)) (by kernel_rfl) rfl (by simp [fillL, setN, Value.cells]; rfl) (by decide) ?_
  refine XA.bt ?_
  refine XA.next 18 rfl (by kernel_rfl) ?_
  (first | (refine xk_storeN 0 rfl rfl rfl (by kernel_rfl) (by simp [Value.cells, Value.oneCell']) (by simp [Value.cells]) ?_) | (refine xk_storeN 1 rfl rfl rfl (by kernel_rfl) (by simp [Value.cells, Value.oneCell']) (by simp [Value.cells]) ?_) | (refine xk_storeN 2 rfl rfl rfl (by kernel_rfl) (by simp [Value.cells, Value.oneCell']) (by simp [Value.cells]) ?_) | (refine xk_storeN 3 rfl rfl rfl (by kernel_rfl) (by simp [Value.cells, Value.oneCell']) (by simp [Value.cells]) ?_) | (refine xk_storeN 4 rfl rfl rfl (by kernel_rfl) (by simp [Value.cells, Value.oneCell']) (by simp [Value.cells]) ?_) | (refine xk_storeN 5 rfl rfl rfl (by kernel_rfl) (by simp [Value.cells, Value.oneCell']) (by simp [Value.cells]) ?_) | (refine xk_storeN 6 rfl rfl rfl (by kernel_rfl) (by simp [Value.cells, Value.oneCell']) (by simp [Value.cells]) ?_) | (refine xk_storeN 7 rfl rfl rfl (by kernel_rfl) (by simp [Value.cells, Value.oneCell']) (by simp [Value.cells]) ?_) | (refine xk_storeN 8 rfl rfl rfl (by kernel_rfl) (by simp [Value.cells, Value.oneCell']) (by simp [Value.cells]) ?_)); simp only [putN, Value.cells, List.set, List.take, List.drop, List.nil_append, List.append_nil, List.length_cons, List.length_nil, List.cons_append, Nat.reduceAdd]
  refine XA.bt ?_
  refine XA.done (by kernel_rfl) ?_
  refine XK.norm ?_
  refine XK.ret ?_
  refine XK.norm ?_
  refine XK.still [qc] [] [0] (by simp) rfl (by decide) (by decide) fun q hq Lq hfr => ?_
  have Lc' := Lc qb (by simp)
  have Lb' := Lb qa (by simp)
  have Lq' := Lq qc (by simp)
  have hfr := hfr (by simp) (fun p hp => by
    simp only [List.mem_cons, List.not_mem_nil, or_false] at hp
    subst hp
    exact Nc (fun p hp => by
      simp only [List.mem_cons, List.not_mem_nil, or_false] at hp
      subst hp
      exact Nb (fun p hp => by
        simp only [List.mem_cons, List.not_mem_nil, or_false] at hp
        subst hp
        exact Na (fun p hp => by cases hp))))
  exact XK.retC rfl (by kernel_rfl) rfl rfl (RdN.whole 0 rfl) fun w1 st => ⟨⟨_, rfl, by
    have hl := st.fresh_le (by simp) hfr
    unfold WishOk WshR someW
    simp only [bitsL_len]
    exact ⟨Aa, ca, Ab, cb, Ac, cc, rfl, (((ha.le Lb').le Lc').le Lq').le hl, ((hb.le Lc').le Lq').le hl, (hc.le Lq').le hl⟩⟩, st.below (by simp)⟩

theorem bools17_any (A B : Option Addr) (n c m d : Nat) (a b : List Bool) (w : World) (hs1 : SlS (all w) 1 A n (boolCells a)) (hn : n = a.length) (hn2 : n ≤ 1000000) (hs2 : SlS (all w) 1 B m (boolCells b)) (hm : m = b.length) (hm2 : m ≤ 1000000) :
    Calls Tryz.prog 50 #[.slice A n c, .slice B m d] w (Rt (.bool (sameB a b)) w) := by
  refine XK.enter (vs := [.slice A n c, .slice B m d]) Tryz.func50 rfl Tryz.ntmps50 (by simp) ?_
  refine XK.seq ?_

  refine XK.region ?_
  refine xk_assign rfl (by decide) ?_
  refine XK.nilN ?_
  refine XK.seq ?_
  refine XK.seq ?_

  refine XK.region ?_
  refine xk_move rfl (by decide) ?_
  refine xk_len (el := 4) (by kernel_rfl) rfl (by decide) ?_
  refine xk_move rfl (by decide) ?_
  refine xk_len (el := 4) (by kernel_rfl) rfl (by decide) ?_
  refine xk_neq rfl rfl (by decide) ?_
  refine XK.nilN ?_
  refine XK.if_ rfl (fun h => ?_) (fun h => ?_)
  ·
    refine XK.seq ?_

    refine XK.region ?_
    refine xk_assign rfl (by decide) ?_
    refine XK.nilN ?_
    refine XK.ret ?_
    refine XK.norm ?_
    exact XK.ret1 rfl rfl fun w1 st => ⟨by rw [sameB, decide_eq_false (fun e => h (by rw [hn, hm, e]))], st.below (by simp)⟩
  ·
    refine XK.skip ?_
    refine XK.norm ?_
    refine XK.seq ?_
    refine XK.seq ?_

    refine XK.region ?_
    refine xk_assign rfl (by decide) ?_
    refine XK.nilN ?_
    refine XK.envS [(5, .int .i64 0), (1, .slice B m d), (0, .slice A n c)] ?_
    refine XK.block ?_
    refine XK.loop (fun mm e R H => ∃ k : Nat, k ≤ n ∧ mm = n - k ∧ (∀ i, i < k → a[i]? = b[i]?) ∧ e = [(5, .int .i64 k), (1, .slice B m d), (0, .slice A n c)] ∧ R = [all w] ∧ H = []) n ⟨0, by omega, rfl, (fun i h => absurd h (by omega)), rfl, rfl, rfl⟩ fun mm e R H hI => ?_
    obtain ⟨k, hk, rfl, hin, rfl, rfl, rfl⟩ := hI
    refine XK.seq ?_
    refine XK.seq ?_

    refine XK.region ?_
    refine xk_move rfl (by decide) ?_
    refine xk_move rfl (by decide) ?_
    refine xk_len (el := 4) (by kernel_rfl) rfl (by decide) ?_
    refine xk_lss rfl rfl (by decide) ?_
    refine XK.nilN ?_
    refine XK.if_ rfl (fun h => ?_) (fun h => ?_)
    ·
      refine XK.skip ?_
      refine XK.norm ?_
      refine XK.seq ?_
      refine XK.block ?_
      refine XK.seq ?_
      have hnm : n = m := by
        have h0 : ¬ ¬ (n : Int) = m := by assumption
        omega
      have hkn : k < n := by omega
      obtain ⟨x, hx⟩ : ∃ x, a[k]? = some x := ⟨_, List.getElem?_eq_getElem (by omega)⟩
      obtain ⟨y, hy⟩ : ∃ y, b[k]? = some y := ⟨_, List.getElem?_eq_getElem (by omega)⟩
      obtain ⟨b1, o1, rfl, z1, c1⟩ := hs1.2 (by omega)
      obtain ⟨b2, o2, rfl, z2, c2⟩ := hs2.2 (by omega)
      have r1 : ROc w b1 (o1 + k) (.bool x) := ⟨z1, c1 k _ (boolCells_at hx)⟩
      have r2 : ROc w b2 (o2 + k) (.bool y) := ⟨z2, c2 k _ (boolCells_at hy)⟩

      refine XK.draw 8 (by kernel_rfl) (by kernel_rfl) ?_
      refine XA.dA 0 rfl rfl rfl (does_move rfl) ?_
      refine XA.dA 1 rfl rfl rfl (does_move rfl) ?_
      refine XA.dA 2 rfl rfl rfl (does_at (k) (o1 + k) (el := 4) (sz := 1) (by kernel_rfl) (by kernel_rfl) rfl rfl (by omega) (by omega) (by omega)) ?_
      refine XA.dA 3 rfl rfl rfl (does_ld rfl) ?_
      refine XA.dA 4 rfl rfl rfl (does_move rfl) ?_
      refine XA.dA 5 rfl rfl rfl (does_move rfl) ?_
      refine XA.dA 6 rfl rfl rfl (does_at (k) (o2 + k) (el := 4) (sz := 1) (by kernel_rfl) (by kernel_rfl) rfl rfl (by omega) (by omega) (by omega)) ?_
      refine XA.dA 7 rfl rfl rfl (does_ld rfl) ?_
      refine XA.next 8 rfl (by kernel_rfl) ?_
      refine xk_neqB (by kernel_rfl) rfl rfl (by decide) ?_
      refine XA.bt ?_
      refine XA.done (by kernel_rfl) ?_
      refine XK.norm ?_
      refine XK.if_ rfl (fun h => ?_) (fun h => ?_)
      ·
        refine XK.seq ?_

        refine XK.region ?_
        refine xk_assign rfl (by decide) ?_
        refine XK.nilN ?_
        refine XK.ret ?_
        refine XK.norm ?_
        exact XK.ret1 rfl rfl fun w1 st => ⟨by rw [sameB, decide_eq_false (fun e => h (by subst e; rw [hx] at hy; exact Option.some.inj hy))], st.below (by simp)⟩
      ·
        refine XK.skip ?_
        refine XK.norm ?_

        refine XK.region ?_
        refine xk_move rfl (by decide) ?_
        refine xk_add rfl rfl (wrap_in (by omega)) (by decide) ?_
        refine xk_assign rfl (by decide) ?_
        refine XK.nilN ?_
        exact XK.envS [(5, .int .i64 ((k : Int) + 1)), (1, .slice (some ⟨b2, o2, none⟩) m d), (0, .slice (some ⟨b1, o1, none⟩) n c)] (XK.round (n - (k + 1)) (by omega) ⟨k + 1, by omega, rfl, all_snoc hin (by rw [hx, hy]; congr 1; exact Classical.not_not.1 h), rfl, rfl, rfl⟩)
    ·
      refine XK.exit ?_
      refine XK.norm ?_
      refine XK.seq ?_

      refine XK.region ?_
      refine xk_assign rfl (by decide) ?_
      refine XK.nilN ?_
      refine XK.ret ?_
      refine XK.norm ?_
      exact XK.ret1 rfl rfl fun w1 st => ⟨by rw [sameB, decide_eq_true (List.ext_getElem? fun i => by
      have h0 : ¬ ¬ (n : Int) = m := by assumption
      rcases Nat.lt_or_ge i k with h1 | h1
      · exact hin i h1
      · rw [List.getElem?_eq_none (by omega), List.getElem?_eq_none (by omega)])], st.below (by simp)⟩

end Go.Proofs.YtbgibbbggajgaaaGreat
/- wishes: whether they are alike; what is wished behind a step, and the reference's answer. -/
namespace Go.Proofs.YtbgibbbggajgaaaGreat
set_option linter.all false
open Go.RowKit
def putB (l : List Bool) (id : Int) (b : Bool) : List Bool := l.set id.toNat b
theorem putB_len (l : List Bool) (id : Int) (b : Bool) : (putB l id b).length = l.length := by simp [putB]
theorem putB_out {l : List Bool} {id : Int} {b : Bool} (h0 : 0 ≤ id) (h : ¬ id < l.length) : putB l id b = l := by
  unfold putB
  exact List.set_eq_of_length_le (by omega)
/-- what is wished behind a step -/
def applyW (x : Wsh) (p : Stp) : Wsh :=
  if p.pr = 17 ∧ p.msg = 4 ∧ p.v ≤ 2 then ⟨putB x.d p.id (decide (p.v = 1)), x.c, x.l⟩
  else if p.pr = 20 ∧ p.msg = 7 ∧ p.v ≤ 1 then ⟨x.d, putB x.c p.id (decide (p.v = 1)), x.l⟩
  else if p.pr = 22 ∧ p.msg = 4 ∧ p.v ≤ 1 then ⟨x.d, x.c, putB x.l p.id (decide (p.v = 0))⟩ else x
structure Wsh.sm (x : Wsh) : Prop where
  d : x.d.length ≤ 1000000
  c : x.c.length ≤ 1000000
  l : x.l.length ≤ 1000000
theorem applyW_len (x : Wsh) (p : Stp) : (applyW x p).d.length = x.d.length ∧ (applyW x p).c.length = x.c.length ∧ (applyW x p).l.length = x.l.length := by
  unfold applyW
  split
  · simp [putB_len]
  · split
    · simp [putB_len]
    · split <;> simp [putB_len]
theorem applyW_sm {x : Wsh} (h : x.sm) (p : Stp) : (applyW x p).sm := by
  obtain ⟨h1, h2, h3⟩ := applyW_len x p
  exact ⟨by rw [h1]; exact h.d, by rw [h2]; exact h.c, by rw [h3]; exact h.l⟩
theorem boolCells_set (l : List Bool) (k : Nat) (b : Bool) : (boolCells l).set k (.bool b) = boolCells (l.set k b) := by simp [boolCells, List.map_set]
theorem boolCells_len (l : List Bool) : (boolCells l).length = l.length := by simp [boolCells]
theorem boolCells_one (l : List Bool) : ∀ u ∈ boolCells l, u.oneCell' = true := by
  intro u hu
  simp only [boolCells, List.mem_map] at hu
  obtain ⟨x, _, rfl⟩ := hu
  rfl
structure Stp.ok (p : Stp) : Prop where
  pr : -9223372036854775808 ≤ p.pr ∧ p.pr ≤ 9223372036854775807
  msg : -9223372036854775808 ≤ p.msg ∧ p.msg ≤ 9223372036854775807
  id : 0 ≤ p.id ∧ p.id < 4294967296
  v : 0 ≤ p.v ∧ p.v < 4294967296

theorem alike17_any (v1 v2 : Value) (x y : Wsh) (w : World) (hx : WshR (all w) x v1) (hy : WshR (all w) y v2) (hsx : x.sm) (hsy : y.sm) :
    Calls Tryz.prog 23 #[v1, v2] w (Rt (.bool (x.same y)) w) := by
  obtain ⟨A1, k1, A2, k2, A3, k3, rfl, hx1, hx2, hx3⟩ := hx
  obtain ⟨B1, m1, B2, m2, B3, m3, rfl, hy1, hy2, hy3⟩ := hy
  refine XK.enter (vs := [.agg #[.slice A1 x.d.length k1, .slice A2 x.c.length k2, .slice A3 x.l.length k3], .agg #[.slice B1 y.d.length m1, .slice B2 y.c.length m2, .slice B3 y.l.length m3]]) Tryz.func23 rfl Tryz.ntmps23 (by simp) ?_
  refine XK.seq ?_

  refine XK.region ?_
  refine xk_box rfl (by decide) fun g1 => ?_
  refine xk_box rfl (by decide) fun g2 => ?_
  refine xk_assign rfl (by decide) ?_
  refine XK.nilN ?_
  refine XK.seq ?_

  refine XK.region ?_
  refine xk_field (off := 0) (by kernel_rfl) rfl (by decide) ?_
  refine xk_ld rfl ?_
  refine xk_field (off := 0) (by kernel_rfl) rfl (by decide) ?_
  refine xk_ld rfl ?_
  refine xk_callR (f := 50) (fi := []) (ca := []) (by kernel_rfl) rfl rfl (by decide) (fun w1 st => bools17_any A1 B1 _ k1 _ m1 x.d y.d w1 (hx1.le (st.le (by simp))) rfl hsx.d (hy1.le (st.le (by simp))) rfl hsy.d) ?_
  refine xk_move rfl (by decide) ?_
  refine xk_splitB (t := 10) rfl (fun hg => ?_) (fun hg => ?_)
  ·
    refine xk_guardT rfl rfl ?_; refine xk_field (off := 1) (by kernel_rfl) rfl (by decide) ?_
    refine xk_guardT rfl rfl ?_; refine xk_ld rfl ?_
    refine xk_guardT rfl rfl ?_; refine xk_field (off := 1) (by kernel_rfl) rfl (by decide) ?_
    refine xk_guardT rfl rfl ?_; refine xk_ld rfl ?_
    refine xk_guardT rfl rfl ?_; refine xk_callR (f := 50) (fi := []) (ca := []) (by kernel_rfl) rfl rfl (by decide) (fun w1 st => bools17_any A2 B2 _ k2 _ m2 x.c y.c w1 (hx2.le (st.le (by simp))) rfl hsx.c (hy2.le (st.le (by simp))) rfl hsy.c) ?_
    (first | refine xk_pickT rfl rfl (by decide) ?_ | refine xk_pickF rfl rfl (by decide) ?_)
    refine xk_move rfl (by decide) ?_
    refine xk_splitB (t := 17) rfl (fun hg => ?_) (fun hg => ?_)
    ·
      refine xk_guardT rfl rfl ?_; refine xk_field (off := 2) (by kernel_rfl) rfl (by decide) ?_
      refine xk_guardT rfl rfl ?_; refine xk_ld rfl ?_
      refine xk_guardT rfl rfl ?_; refine xk_field (off := 2) (by kernel_rfl) rfl (by decide) ?_
      refine xk_guardT rfl rfl ?_; refine xk_ld rfl ?_
      refine xk_guardT rfl rfl ?_; refine xk_callR (f := 50) (fi := []) (ca := []) (by kernel_rfl) rfl rfl (by decide) (fun w1 st => bools17_any A3 B3 _ k3 _ m3 x.l y.l w1 (hx3.le (st.le (by simp))) rfl hsx.l (hy3.le (st.le (by simp))) rfl hsy.l) ?_
      (first | refine xk_pickT rfl rfl (by decide) ?_ | refine xk_pickF rfl rfl (by decide) ?_)
      refine xk_assign rfl (by decide) ?_
      refine XK.nilN ?_
      refine XK.ret ?_
      refine XK.norm ?_
      exact XK.ret1 rfl rfl fun w1 st => ⟨by simp [Wsh.same, *], st.below (by simp)⟩
    ·
      refine xk_guardF rfl rfl rfl (by decide) ?_
      refine xk_guardF rfl rfl rfl (by decide) ?_
      refine xk_guardF rfl rfl rfl (by decide) ?_
      refine xk_guardF rfl rfl rfl (by decide) ?_
      refine xk_guardF rfl rfl rfl (by decide) ?_
      (first | refine xk_pickT rfl rfl (by decide) ?_ | refine xk_pickF rfl rfl (by decide) ?_)
      refine xk_assign rfl (by decide) ?_
      refine XK.nilN ?_
      refine XK.ret ?_
      refine XK.norm ?_
      exact XK.ret1 rfl rfl fun w1 st => ⟨by simp [Wsh.same, *], st.below (by simp)⟩
  ·
    refine xk_guardF rfl rfl rfl (by decide) ?_
    refine xk_guardF rfl rfl rfl (by decide) ?_
    refine xk_guardF rfl rfl rfl (by decide) ?_
    refine xk_guardF rfl rfl rfl (by decide) ?_
    refine xk_guardF rfl rfl rfl (by decide) ?_
    (first | refine xk_pickT rfl rfl (by decide) ?_ | refine xk_pickF rfl rfl (by decide) ?_)
    refine xk_move rfl (by decide) ?_
    refine xk_guardF rfl rfl rfl (by decide) ?_
    refine xk_guardF rfl rfl rfl (by decide) ?_
    refine xk_guardF rfl rfl rfl (by decide) ?_
    refine xk_guardF rfl rfl rfl (by decide) ?_
    refine xk_guardF rfl rfl rfl (by decide) ?_
    (first | refine xk_pickT rfl rfl (by decide) ?_ | refine xk_pickF rfl rfl (by decide) ?_)
    refine xk_assign rfl (by decide) ?_
    refine XK.nilN ?_
    refine XK.ret ?_
    refine XK.norm ?_
    exact XK.ret1 rfl rfl fun w1 st => ⟨by simp [Wsh.same, *], st.below (by simp)⟩

theorem as17_any (A1 A2 A3 : Option Addr) (n1 k1 n2 k2 n3 k3 : Nat) (w : World) :
    Calls Tryz.prog 29 #[.agg #[.slice A1 n1 k1, .slice A2 n2 k2, .slice A3 n3 k3]] w (Rt (.agg #[.slice A1 n1 k1, .slice A2 n2 k2, .slice A3 n3 k3]) w) := by
  refine XK.enter (vs := [.agg #[.slice A1 n1 k1, .slice A2 n2 k2, .slice A3 n3 k3]]) Tryz.func29 rfl Tryz.ntmps29 (by simp) ?_
  refine XK.seq ?_

  refine XK.region ?_
  refine xk_box rfl (by decide) fun g1 => ?_
  refine xk_alloc (cs := [.slice none 0 0, .slice none 0 0, .slice none 0 0]) (zeroB_of (by kernel_rfl)) (by decide) fun g2 => ?_
  refine XK.nilN ?_
  refine XK.seq ?_

  refine XK.region ?_
  refine xk_field (off := 0) (by kernel_rfl) rfl (by decide) ?_
  refine xk_ld rfl ?_
  refine xk_field (off := 1) (by kernel_rfl) rfl (by decide) ?_
  refine xk_ld rfl ?_
  refine xk_field (off := 2) (by kernel_rfl) rfl (by decide) ?_
  refine xk_ld rfl ?_
  refine xk_buildS (zs := [.slice none 0 0, .slice none 0 0, .slice none 0 0]) (L := [(0, 1), (1, 1), (2, 1)]) (zeroB_of (by kernel_rfl)) (by kernel_rfl) rfl (by simp [fillL, setN, Value.cells]; rfl) (by decide) ?_
  (first | (refine xk_storeN 0 rfl rfl rfl (by kernel_rfl) (by simp [Value.cells, Value.oneCell']) (by simp [Value.cells]) ?_) | (refine xk_storeN 1 rfl rfl rfl (by kernel_rfl) (by simp [Value.cells, Value.oneCell']) (by simp [Value.cells]) ?_) | (refine xk_storeN 2 rfl rfl rfl (by kernel_rfl) (by simp [Value.cells, Value.oneCell']) (by simp [Value.cells]) ?_) | (refine xk_storeN 3 rfl rfl rfl (by kernel_rfl) (by simp [Value.cells, Value.oneCell']) (by simp [Value.cells]) ?_) | (refine xk_storeN 4 rfl rfl rfl (by kernel_rfl) (by simp [Value.cells, Value.oneCell']) (by simp [Value.cells]) ?_) | (refine xk_storeN 5 rfl rfl rfl (by kernel_rfl) (by simp [Value.cells, Value.oneCell']) (by simp [Value.cells]) ?_) | (refine xk_storeN 6 rfl rfl rfl (by kernel_rfl) (by simp [Value.cells, Value.oneCell']) (by simp [Value.cells]) ?_) | (refine xk_storeN 7 rfl rfl rfl (by kernel_rfl) (by simp [Value.cells, Value.oneCell']) (by simp [Value.cells]) ?_) | (refine xk_storeN 8 rfl rfl rfl (by kernel_rfl) (by simp [Value.cells, Value.oneCell']) (by simp [Value.cells]) ?_)); simp only [putN, Value.cells, List.set, List.take, List.drop, List.nil_append, List.append_nil, List.length_cons, List.length_nil, List.cons_append, Nat.reduceAdd]
  refine XK.nilN ?_
  refine XK.ret ?_
  refine XK.norm ?_
  exact XK.retC rfl (by kernel_rfl) rfl rfl (RdN.whole 0 rfl) fun w1 st => ⟨rfl, st.below (by simp)⟩

theorem of17_any (A1 A2 A3 : Option Addr) (n1 k1 n2 k2 n3 k3 : Nat) (w : World) :
    Calls Tryz.prog 24 #[.agg #[.slice A1 n1 k1, .slice A2 n2 k2, .slice A3 n3 k3]] w (Rt (.agg #[.slice A1 n1 k1, .slice A2 n2 k2, .slice A3 n3 k3]) w) := by
  refine XK.enter (vs := [.agg #[.slice A1 n1 k1, .slice A2 n2 k2, .slice A3 n3 k3]]) Tryz.func24 rfl Tryz.ntmps24 (by simp) ?_
  refine XK.seq ?_

  refine XK.region ?_
  refine xk_box rfl (by decide) fun g1 => ?_
  refine xk_alloc (cs := [.slice none 0 0, .slice none 0 0, .slice none 0 0]) (zeroB_of (by kernel_rfl)) (by decide) fun g2 => ?_
  refine XK.nilN ?_
  refine XK.seq ?_

  refine XK.region ?_
  refine xk_field (off := 0) (by kernel_rfl) rfl (by decide) ?_
  refine xk_ld rfl ?_
  refine xk_field (off := 1) (by kernel_rfl) rfl (by decide) ?_
  refine xk_ld rfl ?_
  refine xk_field (off := 2) (by kernel_rfl) rfl (by decide) ?_
  refine xk_ld rfl ?_
  refine xk_buildS (zs := [.slice none 0 0, .slice none 0 0, .slice none 0 0]) (L := [(0, 1), (1, 1), (2, 1)]) (zeroB_of (by kernel_rfl)) (by kernel_rfl) rfl (by simp [fillL, setN, Value.cells]; rfl) (by decide) ?_
  (first | (refine xk_storeN 0 rfl rfl rfl (by kernel_rfl) (by simp [Value.cells, Value.oneCell']) (by simp [Value.cells]) ?_) | (refine xk_storeN 1 rfl rfl rfl (by kernel_rfl) (by simp [Value.cells, Value.oneCell']) (by simp [Value.cells]) ?_) | (refine xk_storeN 2 rfl rfl rfl (by kernel_rfl) (by simp [Value.cells, Value.oneCell']) (by simp [Value.cells]) ?_) | (refine xk_storeN 3 rfl rfl rfl (by kernel_rfl) (by simp [Value.cells, Value.oneCell']) (by simp [Value.cells]) ?_) | (refine xk_storeN 4 rfl rfl rfl (by kernel_rfl) (by simp [Value.cells, Value.oneCell']) (by simp [Value.cells]) ?_) | (refine xk_storeN 5 rfl rfl rfl (by kernel_rfl) (by simp [Value.cells, Value.oneCell']) (by simp [Value.cells]) ?_) | (refine xk_storeN 6 rfl rfl rfl (by kernel_rfl) (by simp [Value.cells, Value.oneCell']) (by simp [Value.cells]) ?_) | (refine xk_storeN 7 rfl rfl rfl (by kernel_rfl) (by simp [Value.cells, Value.oneCell']) (by simp [Value.cells]) ?_) | (refine xk_storeN 8 rfl rfl rfl (by kernel_rfl) (by simp [Value.cells, Value.oneCell']) (by simp [Value.cells]) ?_)); simp only [putN, Value.cells, List.set, List.take, List.drop, List.nil_append, List.append_nil, List.length_cons, List.length_nil, List.cons_append, Nat.reduceAdd]
  refine XK.nilN ?_
  refine XK.ret ?_
  refine XK.norm ?_
  exact XK.retC rfl (by kernel_rfl) rfl rfl (RdN.whole 0 rfl) fun w1 st => ⟨rfl, st.below (by simp)⟩

theorem apply_any (v1 : Value) (x : Wsh) (p : Stp) (w : World) (hx : WshR (all w) x v1) (hsx : x.sm) (hp : p.ok) :
    Calls Tryz.prog 33 #[v1, .agg #[.int .i64 p.pr, .int .i64 p.msg, .int .u32 p.id, .int .u32 p.v]] w (RtW (WishOk (applyW x p)) w) := by
  obtain ⟨A1, k1, A2, k2, A3, k3, rfl, hx1, hx2, hx3⟩ := hx
  have hpi := hp.id
  refine XK.enter (vs := [.agg #[.slice A1 x.d.length k1, .slice A2 x.c.length k2, .slice A3 x.l.length k3], .agg #[.int .i64 p.pr, .int .i64 p.msg, .int .u32 p.id, .int .u32 p.v]]) Tryz.func33 rfl Tryz.ntmps33 (by simp) ?_
  refine XK.seq ?_

  refine XK.region ?_
  refine xk_box rfl (by decide) fun g1 => ?_
  refine xk_box rfl (by decide) fun g2 => ?_
  refine xk_alloc (cs := [.slice none 0 0, .slice none 0 0, .slice none 0 0]) (zeroB_of (by kernel_rfl)) (by decide) fun g3 => ?_
  refine XK.nilN ?_
  refine XK.cut (fun e R H => ∃ D1 j1 D2 j2 D3 j3 g5, e = [(5, .pointer (some ⟨g5, 0, none⟩)), (4, .pointer (some ⟨g3, 0, none⟩)), (3, .pointer (some ⟨g2, 0, none⟩))] ∧ R = [all w] ∧ H = [HP.blk g5 62 [.slice D1 x.d.length j1, .slice D2 x.c.length j2, .slice D3 x.l.length j3], HP.own 4 1 (.slice D3 x.l.length j3) x.l.length (boolCells x.l), HP.own 4 1 (.slice D2 x.c.length j2) x.c.length (boolCells x.c), HP.own 4 1 (.slice D1 x.d.length j1) x.d.length (boolCells x.d), HP.blk g3 62 [.slice none 0 0, .slice none 0 0, .slice none 0 0], HP.blk g2 75 [.int .i64 p.pr, .int .i64 p.msg, .int .u32 p.id, .int .u32 p.v], HP.blk g1 62 [.slice A1 x.d.length k1, .slice A2 x.c.length k2, .slice A3 x.l.length k3]]) ?_ ?_
  ·

    refine XK.draw 11 (by kernel_rfl) (by kernel_rfl) ?_
    refine XA.dA 0 rfl rfl rfl (does_field (off := 0) (by kernel_rfl) rfl) ?_
    refine XA.dA 1 rfl rfl rfl (does_ld rfl) ?_
    refine XA.dA 3 rfl rfl rfl (does_field (off := 1) (by kernel_rfl) rfl) ?_
    refine XA.dA 4 rfl rfl rfl (does_ld rfl) ?_
    refine XA.dA 6 rfl rfl rfl (does_field (off := 2) (by kernel_rfl) rfl) ?_
    refine XA.dA 7 rfl rfl rfl (does_ld rfl) ?_
    refine XA.maybe0 (j := 10) 5 62 [.slice none 0 0, .slice none 0 0, .slice none 0 0] fun M => ?_
    refine XA.maybe 2 10 rfl rfl (zeroB_of (by kernel_rfl)) (by decide) (by kernel_rfl) (by kernel_rfl) (fun _ h => h) (fun M => ?_)
    refine xk_callN (f := 62) (fi := []) (ca := []) (by kernel_rfl) (ev_M M rfl rfl) (evs_M M rfl rfl) (by decide) (CloneOk_clone_bool x.d.length (boolCells x.d)) (fun w1 st => clone_bool A1 _ k1 _ w1 (hx1.le (st.le (by simp))) (boolCells_one _) hsx.d) ?_
    rintro _ _ q1 ⟨D1, j1, rfl, rfl⟩ _
    dsimp only [List.cons_append, List.nil_append]
    refine XK.swapM ?_
    refine XK.nil ?_; refine XK.thenN ?_; refine XA.backM (by decide) rfl (fun _ h => h.tailR.tail) ?_
    skip
    refine XA.maybe 5 10 rfl rfl (zeroB_of (by kernel_rfl)) (by decide) (by kernel_rfl) (by kernel_rfl) (fun _ h => h.tailR.tail) (fun M => ?_)
    refine xk_callN (f := 62) (fi := []) (ca := []) (by kernel_rfl) (ev_M M rfl rfl) (evs_M M rfl rfl) (by decide) (CloneOk_clone_bool x.c.length (boolCells x.c)) (fun w1 st => clone_bool A2 _ k2 _ w1 (hx2.le (st.le (by simp))) (boolCells_one _) hsx.c) ?_
    rintro _ _ q2 ⟨D2, j2, rfl, rfl⟩ _
    dsimp only [List.cons_append, List.nil_append]
    refine XK.swapM ?_
    refine XK.nil ?_; refine XK.thenN ?_; refine XA.backM (by decide) rfl (fun _ h => h.tailR.tail.tailR.tail) ?_
    skip
    refine XA.maybe 8 10 rfl rfl (zeroB_of (by kernel_rfl)) (by decide) (by kernel_rfl) (by kernel_rfl) (fun _ h => h.tailR.tail.tailR.tail) (fun M => ?_)
    refine xk_callN (f := 62) (fi := []) (ca := []) (by kernel_rfl) (ev_M M rfl rfl) (evs_M M rfl rfl) (by decide) (CloneOk_clone_bool x.l.length (boolCells x.l)) (fun w1 st => clone_bool A3 _ k3 _ w1 (hx3.le (st.le (by simp))) (boolCells_one _) hsx.l) ?_
    rintro _ _ q3 ⟨D3, j3, rfl, rfl⟩ _
    dsimp only [List.cons_append, List.nil_append]
    refine XK.swapM ?_
    refine XK.nil ?_; refine XK.thenN ?_; refine XA.backM (by decide) rfl (fun _ h => h.tailR.tail.tailR.tail.tailR.tail) ?_
    cases M with
    | none =>
      dsimp only [emM, hmM, lmM, fmM]
      refine XA.do_ 9 rfl rfl rfl (by decide) (does_buildS (zs := [.slice none 0 0, .slice none 0 0, .slice none 0 0]) (L := [(0, 1), (1, 1), (2, 1)]) (zeroB_of (by kernel_rfl)) (by kernel_rfl) rfl (by simp [fillL, setN, Value.cells]; rfl)) (by kernel_rfl) (fun _ _ _ h => h) (fun _ h => h.tailR.tail.tailR.tail.tailR.tail) ?_
      refine XA.next 10 rfl (by kernel_rfl) ?_
      refine xk_alloc (cs := [.slice none 0 0, .slice none 0 0, .slice none 0 0]) (zeroB_of (by kernel_rfl)) (by decide) fun g5 => ?_
      refine XK.nil ?_; refine XK.thenN ?_; refine XA.back (fun _ h => h.tail.tailR.tail.tailR.tail.tailR.tail) ?_
      refine XA.next 11 rfl (by kernel_rfl) ?_
      (first | (refine xk_storeN 0 rfl rfl rfl (by kernel_rfl) (by simp [Value.cells, Value.oneCell']) (by simp [Value.cells]) ?_) | (refine xk_storeN 1 rfl rfl rfl (by kernel_rfl) (by simp [Value.cells, Value.oneCell']) (by simp [Value.cells]) ?_) | (refine xk_storeN 2 rfl rfl rfl (by kernel_rfl) (by simp [Value.cells, Value.oneCell']) (by simp [Value.cells]) ?_) | (refine xk_storeN 3 rfl rfl rfl (by kernel_rfl) (by simp [Value.cells, Value.oneCell']) (by simp [Value.cells]) ?_) | (refine xk_storeN 4 rfl rfl rfl (by kernel_rfl) (by simp [Value.cells, Value.oneCell']) (by simp [Value.cells]) ?_) | (refine xk_storeN 5 rfl rfl rfl (by kernel_rfl) (by simp [Value.cells, Value.oneCell']) (by simp [Value.cells]) ?_) | (refine xk_storeN 6 rfl rfl rfl (by kernel_rfl) (by simp [Value.cells, Value.oneCell']) (by simp [Value.cells]) ?_) | (refine xk_storeN 7 rfl rfl rfl (by kernel_rfl) (by simp [Value.cells, Value.oneCell']) (by simp [Value.cells]) ?_) | (refine xk_storeN 8 rfl rfl rfl (by kernel_rfl) (by simp [Value.cells, Value.oneCell']) (by simp [Value.cells]) ?_)); simp only [putN, Value.cells, List.set, List.take, List.drop, List.nil_append, List.append_nil, List.length_cons, List.length_nil, List.cons_append, Nat.reduceAdd]
      refine XA.bt ?_
      refine XA.done (by kernel_rfl) ?_
      refine XK.norm ?_
      exact XK.weak [0, 1, 2, 3, 4, 5, 6] rfl (by decide) (by simp) (XK.envS [(5, .pointer (some ⟨g5, 0, none⟩)), (4, .pointer (some ⟨g3, 0, none⟩)), (3, .pointer (some ⟨g2, 0, none⟩))] (XK.meet ⟨D1, j1, D2, j2, D3, j3, g5, rfl, rfl, rfl⟩))
    | some g5 =>
      dsimp only [emM, hmM, lmM, fmM]
      refine XA.do_ 9 rfl rfl rfl (by decide) (does_buildS (zs := [.slice none 0 0, .slice none 0 0, .slice none 0 0]) (L := [(0, 1), (1, 1), (2, 1)]) (zeroB_of (by kernel_rfl)) (by kernel_rfl) rfl (by simp [fillL, setN, Value.cells]; rfl)) (by kernel_rfl) (fun _ _ _ h => h) (fun _ h => h.tail.tailR.tail.tailR.tail.tailR.tail) ?_
      refine XA.next 11 rfl (by kernel_rfl) ?_
      (first | (refine xk_storeN 0 rfl rfl rfl (by kernel_rfl) (by simp [Value.cells, Value.oneCell']) (by simp [Value.cells]) ?_) | (refine xk_storeN 1 rfl rfl rfl (by kernel_rfl) (by simp [Value.cells, Value.oneCell']) (by simp [Value.cells]) ?_) | (refine xk_storeN 2 rfl rfl rfl (by kernel_rfl) (by simp [Value.cells, Value.oneCell']) (by simp [Value.cells]) ?_) | (refine xk_storeN 3 rfl rfl rfl (by kernel_rfl) (by simp [Value.cells, Value.oneCell']) (by simp [Value.cells]) ?_) | (refine xk_storeN 4 rfl rfl rfl (by kernel_rfl) (by simp [Value.cells, Value.oneCell']) (by simp [Value.cells]) ?_) | (refine xk_storeN 5 rfl rfl rfl (by kernel_rfl) (by simp [Value.cells, Value.oneCell']) (by simp [Value.cells]) ?_) | (refine xk_storeN 6 rfl rfl rfl (by kernel_rfl) (by simp [Value.cells, Value.oneCell']) (by simp [Value.cells]) ?_) | (refine xk_storeN 7 rfl rfl rfl (by kernel_rfl) (by simp [Value.cells, Value.oneCell']) (by simp [Value.cells]) ?_) | (refine xk_storeN 8 rfl rfl rfl (by kernel_rfl) (by simp [Value.cells, Value.oneCell']) (by simp [Value.cells]) ?_)); simp only [putN, Value.cells, List.set, List.take, List.drop, List.nil_append, List.append_nil, List.length_cons, List.length_nil, List.cons_append, Nat.reduceAdd]
      refine XA.bt ?_
      refine XA.done (by kernel_rfl) ?_
      refine XK.norm ?_
      exact XK.weak [0, 1, 2, 3, 4, 5, 6] rfl (by decide) (by simp) (XK.envS [(5, .pointer (some ⟨g5, 0, none⟩)), (4, .pointer (some ⟨g3, 0, none⟩)), (3, .pointer (some ⟨g2, 0, none⟩))] (XK.meet ⟨D1, j1, D2, j2, D3, j3, g5, rfl, rfl, rfl⟩))

  rintro _ _ _ ⟨D1, j1, D2, j2, D3, j3, g5, rfl, rfl, rfl⟩
  refine XK.seq ?_

  refine XK.region ?_
  refine xk_assign rfl (by decide) ?_
  refine XK.nilN ?_
  refine XK.seq ?_

  refine XK.region ?_
  refine xk_field (off := 3) (by kernel_rfl) rfl (by decide) ?_
  refine xk_ld rfl ?_
  refine xk_eql rfl rfl (by decide) ?_
  refine xk_assign rfl (by decide) ?_
  refine XK.nilN ?_
  refine XK.seq ?_
  refine XK.block ?_
  refine XK.cutB 21 (p.pr = 17 ∧ p.msg = 4 ∧ p.v ≤ 2) ?_ ?_
  · skip

    refine XK.region ?_
    refine xk_field (off := 0) (by kernel_rfl) rfl (by decide) ?_
    refine xk_ld rfl ?_
    refine xk_eql rfl rfl (by decide) ?_
    refine xk_move rfl (by decide) ?_
    refine xk_split (t := 25) rfl (fun hg => ?_) (fun hg => ?_)
    ·
      refine xk_guardT rfl rfl ?_; refine xk_field (off := 1) (by kernel_rfl) rfl (by decide) ?_
      refine xk_guardT rfl rfl ?_; refine xk_ld rfl ?_
      refine xk_guardT rfl rfl ?_; refine xk_eql rfl rfl (by decide) ?_
      (first | refine xk_pickT rfl rfl (by decide) ?_ | refine xk_pickF rfl rfl (by decide) ?_)
      refine xk_move rfl (by decide) ?_
      refine xk_split (t := 30) rfl (fun hg => ?_) (fun hg => ?_)
      ·
        refine xk_guardT rfl rfl ?_; refine xk_field (off := 3) (by kernel_rfl) rfl (by decide) ?_
        refine xk_guardT rfl rfl ?_; refine xk_ld rfl ?_
        refine xk_guardT rfl rfl ?_; refine xk_leq rfl rfl (by decide) ?_
        (first | refine xk_pickT rfl rfl (by decide) ?_ | refine xk_pickF rfl rfl (by decide) ?_)
        refine xk_assign rfl (by decide) ?_
        refine XK.nilN ?_
        exact XK.meetB (by repeat (first | exact trivial | refine ⟨rfl, ?_⟩)) (by first | (refine get_iff rfl ?_; omega) | (refine get_iff rfl ?_; simp_all; done) | (refine get_false rfl ?_; first | omega | (simp_all; done)) | (refine get_true rfl ?_; first | omega | (simp_all; done)) | (refine get_bool rfl ?_; simp_all; done) | (refine get_iff rfl ⟨fun hh => ?_, fun hh => ?_⟩ <;> first | omega | (simp_all; done) | (simp_all; omega)) | (exfalso; omega))
      ·
        refine xk_guardF rfl rfl rfl (by decide) ?_
        refine xk_guardF rfl rfl rfl (by decide) ?_
        refine xk_guardF rfl rfl rfl (by decide) ?_
        (first | refine xk_pickT rfl rfl (by decide) ?_ | refine xk_pickF rfl rfl (by decide) ?_)
        refine xk_assign rfl (by decide) ?_
        refine XK.nilN ?_
        exact XK.meetB (by repeat (first | exact trivial | refine ⟨rfl, ?_⟩)) (by first | (refine get_iff rfl ?_; omega) | (refine get_iff rfl ?_; simp_all; done) | (refine get_false rfl ?_; first | omega | (simp_all; done)) | (refine get_true rfl ?_; first | omega | (simp_all; done)) | (refine get_bool rfl ?_; simp_all; done) | (refine get_iff rfl ⟨fun hh => ?_, fun hh => ?_⟩ <;> first | omega | (simp_all; done) | (simp_all; omega)) | (exfalso; omega))
    ·
      refine xk_guardF rfl rfl rfl (by decide) ?_
      refine xk_guardF rfl rfl rfl (by decide) ?_
      refine xk_guardF rfl rfl rfl (by decide) ?_
      (first | refine xk_pickT rfl rfl (by decide) ?_ | refine xk_pickF rfl rfl (by decide) ?_)
      refine xk_move rfl (by decide) ?_
      refine xk_guardF rfl rfl rfl (by decide) ?_
      refine xk_guardF rfl rfl rfl (by decide) ?_
      refine xk_guardF rfl rfl rfl (by decide) ?_
      (first | refine xk_pickT rfl rfl (by decide) ?_ | refine xk_pickF rfl rfl (by decide) ?_)
      refine xk_assign rfl (by decide) ?_
      refine XK.nilN ?_
      exact XK.meetB (by repeat (first | exact trivial | refine ⟨rfl, ?_⟩)) (by first | (refine get_iff rfl ?_; omega) | (refine get_iff rfl ?_; simp_all; done) | (refine get_false rfl ?_; first | omega | (simp_all; done)) | (refine get_true rfl ?_; first | omega | (simp_all; done)) | (refine get_bool rfl ?_; simp_all; done) | (refine get_iff rfl ⟨fun hh => ?_, fun hh => ?_⟩ <;> first | omega | (simp_all; done) | (simp_all; omega)) | (exfalso; omega))
  refine XK.if_ rfl (fun hc1 => ?_) (fun hc1 => ?_)
  ·

    refine XK.region ?_
    refine xk_field (off := 0) (by kernel_rfl) rfl (by decide) ?_
    refine xk_ld rfl ?_
    refine xk_assign rfl (by decide) ?_
    refine XK.nilN ?_
    refine XK.seq ?_
    refine XK.seq ?_

    refine XK.region ?_
    refine xk_field (off := 2) (by kernel_rfl) rfl (by decide) ?_
    refine xk_ld rfl ?_
    refine xk_conv (ds := .int .u32) (by kernel_rfl) (by kernel_rfl) rfl (wrap_in (by have := hp.id; omega)) (by decide) ?_
    refine xk_move rfl (by decide) ?_
    refine xk_len (el := 4) (by kernel_rfl) rfl (by decide) ?_
    refine xk_lss rfl rfl (by decide) ?_
    refine XK.nilN ?_
    refine XK.if_ rfl (fun h => ?_) (fun h => ?_)
    ·
      have h' : p.id < (x.d.length : Int) := h
      obtain ⟨k, hk⟩ : ∃ k : Nat, p.id = (k : Int) := ⟨p.id.toNat, by omega⟩
      refine XK.ownHead 3 rfl (by omega) fun gD hD => ?_
      subst hD

      refine XK.region ?_
      refine xk_move rfl (by decide) ?_
      refine xk_field (off := 2) (by kernel_rfl) rfl (by decide) ?_
      refine xk_ld rfl ?_
      refine xk_move rfl (by decide) ?_
      refine xk_at (k) (k) (el := 4) (sz := 1) (by kernel_rfl) (by kernel_rfl) rfl rfl (by omega) (by omega) (by omega) (by decide) ?_
      refine xk_storeOwn 3 k rfl (by kernel_rfl) rfl (by omega) rfl rfl (by omega) ?_
      dsimp only [List.set]
      rw [boolCells_set, show x.d.set k (decide (p.v = 1)) = putB x.d p.id (decide (p.v = 1)) by rw [putB, hk]; simp]
      refine XK.nilN ?_
      refine XK.seq ?_

      refine XK.region ?_
      refine xk_ldN 3 rfl ?_
      (first | (refine xk_storeN 0 rfl rfl rfl (by kernel_rfl) (by simp [Value.cells, Value.oneCell']) (by simp [Value.cells]) ?_) | (refine xk_storeN 1 rfl rfl rfl (by kernel_rfl) (by simp [Value.cells, Value.oneCell']) (by simp [Value.cells]) ?_) | (refine xk_storeN 2 rfl rfl rfl (by kernel_rfl) (by simp [Value.cells, Value.oneCell']) (by simp [Value.cells]) ?_) | (refine xk_storeN 3 rfl rfl rfl (by kernel_rfl) (by simp [Value.cells, Value.oneCell']) (by simp [Value.cells]) ?_) | (refine xk_storeN 4 rfl rfl rfl (by kernel_rfl) (by simp [Value.cells, Value.oneCell']) (by simp [Value.cells]) ?_) | (refine xk_storeN 5 rfl rfl rfl (by kernel_rfl) (by simp [Value.cells, Value.oneCell']) (by simp [Value.cells]) ?_) | (refine xk_storeN 6 rfl rfl rfl (by kernel_rfl) (by simp [Value.cells, Value.oneCell']) (by simp [Value.cells]) ?_) | (refine xk_storeN 7 rfl rfl rfl (by kernel_rfl) (by simp [Value.cells, Value.oneCell']) (by simp [Value.cells]) ?_) | (refine xk_storeN 8 rfl rfl rfl (by kernel_rfl) (by simp [Value.cells, Value.oneCell']) (by simp [Value.cells]) ?_)); simp only [putN, Value.cells, List.set, List.take, List.drop, List.nil_append, List.append_nil, List.length_cons, List.length_nil, List.cons_append, Nat.reduceAdd]
      refine XK.nilN ?_
      refine XK.ret ?_
      refine XK.norm ?_
      refine XK.still [] [1, 2, 3] [4] (by simp) rfl (by decide) (by decide) fun qf hqf _ hfr => ?_
      have s1 := SlS.own (hqf 3 _ (by simp) rfl)
      have s2 := SlS.own (hqf 2 _ (by simp) rfl)
      have s3 := SlS.own (hqf 1 _ (by simp) rfl)
      exact XK.retC rfl (by kernel_rfl) rfl rfl (RdN.whole 0 rfl) fun w1 st => ⟨⟨_, rfl, by
        have hl := st.fresh_le (by simp) (hfr (by simp) (by simp))
        have e1 : applyW x p = ⟨putB x.d p.id (decide (p.v = 1)), x.c, x.l⟩ := by unfold applyW; rw [if_pos hc1]
        unfold WishOk
        rw [e1]
        unfold WshR
        simp only [putB_len]
        exact ⟨some ⟨gD, 0, none⟩, j1, D2, j2, D3, j3, rfl, s1.le hl, s2.le hl, s3.le hl⟩⟩, st.below (by simp)⟩
    ·
      refine XK.skip ?_
      refine XK.norm ?_
      refine XK.seq ?_

      refine XK.region ?_
      refine xk_ldN 3 rfl ?_
      (first | (refine xk_storeN 0 rfl rfl rfl (by kernel_rfl) (by simp [Value.cells, Value.oneCell']) (by simp [Value.cells]) ?_) | (refine xk_storeN 1 rfl rfl rfl (by kernel_rfl) (by simp [Value.cells, Value.oneCell']) (by simp [Value.cells]) ?_) | (refine xk_storeN 2 rfl rfl rfl (by kernel_rfl) (by simp [Value.cells, Value.oneCell']) (by simp [Value.cells]) ?_) | (refine xk_storeN 3 rfl rfl rfl (by kernel_rfl) (by simp [Value.cells, Value.oneCell']) (by simp [Value.cells]) ?_) | (refine xk_storeN 4 rfl rfl rfl (by kernel_rfl) (by simp [Value.cells, Value.oneCell']) (by simp [Value.cells]) ?_) | (refine xk_storeN 5 rfl rfl rfl (by kernel_rfl) (by simp [Value.cells, Value.oneCell']) (by simp [Value.cells]) ?_) | (refine xk_storeN 6 rfl rfl rfl (by kernel_rfl) (by simp [Value.cells, Value.oneCell']) (by simp [Value.cells]) ?_) | (refine xk_storeN 7 rfl rfl rfl (by kernel_rfl) (by simp [Value.cells, Value.oneCell']) (by simp [Value.cells]) ?_) | (refine xk_storeN 8 rfl rfl rfl (by kernel_rfl) (by simp [Value.cells, Value.oneCell']) (by simp [Value.cells]) ?_)); simp only [putN, Value.cells, List.set, List.take, List.drop, List.nil_append, List.append_nil, List.length_cons, List.length_nil, List.cons_append, Nat.reduceAdd]
      refine XK.nilN ?_
      refine XK.ret ?_
      refine XK.norm ?_
      have h' : ¬ p.id < (x.d.length : Int) := h
      refine XK.still [] [1, 2, 3] [4] (by simp) rfl (by decide) (by decide) fun qf hqf _ hfr => ?_
      have s1 := SlS.own (hqf 3 _ (by simp) rfl)
      have s2 := SlS.own (hqf 2 _ (by simp) rfl)
      have s3 := SlS.own (hqf 1 _ (by simp) rfl)
      exact XK.retC rfl (by kernel_rfl) rfl rfl (RdN.whole 0 rfl) fun w1 st => ⟨⟨_, rfl, by
        have hl := st.fresh_le (by simp) (hfr (by simp) (by simp))
        have e1 : applyW x p = ⟨x.d, x.c, x.l⟩ := by unfold applyW; rw [if_pos hc1]; rw [putB_out (by omega) h']
        unfold WishOk
        rw [e1]
        unfold WshR
        simp only [putB_len]
        exact ⟨D1, j1, D2, j2, D3, j3, rfl, s1.le hl, s2.le hl, s3.le hl⟩⟩, st.below (by simp)⟩
  ·
    refine XK.cutB 37 (p.pr = 20 ∧ p.msg = 7 ∧ p.v ≤ 1) ?_ ?_
    · skip

      refine XK.region ?_
      refine xk_field (off := 0) (by kernel_rfl) rfl (by decide) ?_
      refine xk_ld rfl ?_
      refine xk_eql rfl rfl (by decide) ?_
      refine xk_move rfl (by decide) ?_
      refine xk_split (t := 41) rfl (fun hg => ?_) (fun hg => ?_)
      ·
        refine xk_guardT rfl rfl ?_; refine xk_field (off := 1) (by kernel_rfl) rfl (by decide) ?_
        refine xk_guardT rfl rfl ?_; refine xk_ld rfl ?_
        refine xk_guardT rfl rfl ?_; refine xk_eql rfl rfl (by decide) ?_
        (first | refine xk_pickT rfl rfl (by decide) ?_ | refine xk_pickF rfl rfl (by decide) ?_)
        refine xk_move rfl (by decide) ?_
        refine xk_split (t := 46) rfl (fun hg => ?_) (fun hg => ?_)
        ·
          refine xk_guardT rfl rfl ?_; refine xk_field (off := 3) (by kernel_rfl) rfl (by decide) ?_
          refine xk_guardT rfl rfl ?_; refine xk_ld rfl ?_
          refine xk_guardT rfl rfl ?_; refine xk_leq rfl rfl (by decide) ?_
          (first | refine xk_pickT rfl rfl (by decide) ?_ | refine xk_pickF rfl rfl (by decide) ?_)
          refine xk_assign rfl (by decide) ?_
          refine XK.nilN ?_
          exact XK.meetB (by repeat (first | exact trivial | refine ⟨rfl, ?_⟩)) (by first | (refine get_iff rfl ?_; omega) | (refine get_iff rfl ?_; simp_all; done) | (refine get_false rfl ?_; first | omega | (simp_all; done)) | (refine get_true rfl ?_; first | omega | (simp_all; done)) | (refine get_bool rfl ?_; simp_all; done) | (refine get_iff rfl ⟨fun hh => ?_, fun hh => ?_⟩ <;> first | omega | (simp_all; done) | (simp_all; omega)) | (exfalso; omega))
        ·
          refine xk_guardF rfl rfl rfl (by decide) ?_
          refine xk_guardF rfl rfl rfl (by decide) ?_
          refine xk_guardF rfl rfl rfl (by decide) ?_
          (first | refine xk_pickT rfl rfl (by decide) ?_ | refine xk_pickF rfl rfl (by decide) ?_)
          refine xk_assign rfl (by decide) ?_
          refine XK.nilN ?_
          exact XK.meetB (by repeat (first | exact trivial | refine ⟨rfl, ?_⟩)) (by first | (refine get_iff rfl ?_; omega) | (refine get_iff rfl ?_; simp_all; done) | (refine get_false rfl ?_; first | omega | (simp_all; done)) | (refine get_true rfl ?_; first | omega | (simp_all; done)) | (refine get_bool rfl ?_; simp_all; done) | (refine get_iff rfl ⟨fun hh => ?_, fun hh => ?_⟩ <;> first | omega | (simp_all; done) | (simp_all; omega)) | (exfalso; omega))
      ·
        refine xk_guardF rfl rfl rfl (by decide) ?_
        refine xk_guardF rfl rfl rfl (by decide) ?_
        refine xk_guardF rfl rfl rfl (by decide) ?_
        (first | refine xk_pickT rfl rfl (by decide) ?_ | refine xk_pickF rfl rfl (by decide) ?_)
        refine xk_move rfl (by decide) ?_
        refine xk_guardF rfl rfl rfl (by decide) ?_
        refine xk_guardF rfl rfl rfl (by decide) ?_
        refine xk_guardF rfl rfl rfl (by decide) ?_
        (first | refine xk_pickT rfl rfl (by decide) ?_ | refine xk_pickF rfl rfl (by decide) ?_)
        refine xk_assign rfl (by decide) ?_
        refine XK.nilN ?_
        exact XK.meetB (by repeat (first | exact trivial | refine ⟨rfl, ?_⟩)) (by first | (refine get_iff rfl ?_; omega) | (refine get_iff rfl ?_; simp_all; done) | (refine get_false rfl ?_; first | omega | (simp_all; done)) | (refine get_true rfl ?_; first | omega | (simp_all; done)) | (refine get_bool rfl ?_; simp_all; done) | (refine get_iff rfl ⟨fun hh => ?_, fun hh => ?_⟩ <;> first | omega | (simp_all; done) | (simp_all; omega)) | (exfalso; omega))
    refine XK.if_ rfl (fun hc2 => ?_) (fun hc2 => ?_)
    ·

      refine XK.region ?_
      refine xk_field (off := 1) (by kernel_rfl) rfl (by decide) ?_
      refine xk_ld rfl ?_
      refine xk_assign rfl (by decide) ?_
      refine XK.nilN ?_
      refine XK.seq ?_
      refine XK.seq ?_

      refine XK.region ?_
      refine xk_field (off := 2) (by kernel_rfl) rfl (by decide) ?_
      refine xk_ld rfl ?_
      refine xk_conv (ds := .int .u32) (by kernel_rfl) (by kernel_rfl) rfl (wrap_in (by have := hp.id; omega)) (by decide) ?_
      refine xk_move rfl (by decide) ?_
      refine xk_len (el := 4) (by kernel_rfl) rfl (by decide) ?_
      refine xk_lss rfl rfl (by decide) ?_
      refine XK.nilN ?_
      refine XK.if_ rfl (fun h => ?_) (fun h => ?_)
      ·
        have h' : p.id < (x.c.length : Int) := h
        obtain ⟨k, hk⟩ : ∃ k : Nat, p.id = (k : Int) := ⟨p.id.toNat, by omega⟩
        refine XK.ownHead 2 rfl (by omega) fun gD hD => ?_
        subst hD

        refine XK.region ?_
        refine xk_move rfl (by decide) ?_
        refine xk_field (off := 2) (by kernel_rfl) rfl (by decide) ?_
        refine xk_ld rfl ?_
        refine xk_move rfl (by decide) ?_
        refine xk_at (k) (k) (el := 4) (sz := 1) (by kernel_rfl) (by kernel_rfl) rfl rfl (by omega) (by omega) (by omega) (by decide) ?_
        refine xk_storeOwn 2 k rfl (by kernel_rfl) rfl (by omega) rfl rfl (by omega) ?_
        dsimp only [List.set]
        rw [boolCells_set, show x.c.set k (decide (p.v = 1)) = putB x.c p.id (decide (p.v = 1)) by rw [putB, hk]; simp]
        refine XK.nilN ?_
        refine XK.seq ?_

        refine XK.region ?_
        refine xk_ldN 3 rfl ?_
        (first | (refine xk_storeN 0 rfl rfl rfl (by kernel_rfl) (by simp [Value.cells, Value.oneCell']) (by simp [Value.cells]) ?_) | (refine xk_storeN 1 rfl rfl rfl (by kernel_rfl) (by simp [Value.cells, Value.oneCell']) (by simp [Value.cells]) ?_) | (refine xk_storeN 2 rfl rfl rfl (by kernel_rfl) (by simp [Value.cells, Value.oneCell']) (by simp [Value.cells]) ?_) | (refine xk_storeN 3 rfl rfl rfl (by kernel_rfl) (by simp [Value.cells, Value.oneCell']) (by simp [Value.cells]) ?_) | (refine xk_storeN 4 rfl rfl rfl (by kernel_rfl) (by simp [Value.cells, Value.oneCell']) (by simp [Value.cells]) ?_) | (refine xk_storeN 5 rfl rfl rfl (by kernel_rfl) (by simp [Value.cells, Value.oneCell']) (by simp [Value.cells]) ?_) | (refine xk_storeN 6 rfl rfl rfl (by kernel_rfl) (by simp [Value.cells, Value.oneCell']) (by simp [Value.cells]) ?_) | (refine xk_storeN 7 rfl rfl rfl (by kernel_rfl) (by simp [Value.cells, Value.oneCell']) (by simp [Value.cells]) ?_) | (refine xk_storeN 8 rfl rfl rfl (by kernel_rfl) (by simp [Value.cells, Value.oneCell']) (by simp [Value.cells]) ?_)); simp only [putN, Value.cells, List.set, List.take, List.drop, List.nil_append, List.append_nil, List.length_cons, List.length_nil, List.cons_append, Nat.reduceAdd]
        refine XK.nilN ?_
        refine XK.ret ?_
        refine XK.norm ?_
        refine XK.still [] [1, 2, 3] [4] (by simp) rfl (by decide) (by decide) fun qf hqf _ hfr => ?_
        have s1 := SlS.own (hqf 3 _ (by simp) rfl)
        have s2 := SlS.own (hqf 2 _ (by simp) rfl)
        have s3 := SlS.own (hqf 1 _ (by simp) rfl)
        exact XK.retC rfl (by kernel_rfl) rfl rfl (RdN.whole 0 rfl) fun w1 st => ⟨⟨_, rfl, by
          have hl := st.fresh_le (by simp) (hfr (by simp) (by simp))
          have e1 : applyW x p = ⟨x.d, putB x.c p.id (decide (p.v = 1)), x.l⟩ := by unfold applyW; rw [if_neg hc1, if_pos hc2]
          unfold WishOk
          rw [e1]
          unfold WshR
          simp only [putB_len]
          exact ⟨D1, j1, some ⟨gD, 0, none⟩, j2, D3, j3, rfl, s1.le hl, s2.le hl, s3.le hl⟩⟩, st.below (by simp)⟩
      ·
        refine XK.skip ?_
        refine XK.norm ?_
        refine XK.seq ?_

        refine XK.region ?_
        refine xk_ldN 3 rfl ?_
        (first | (refine xk_storeN 0 rfl rfl rfl (by kernel_rfl) (by simp [Value.cells, Value.oneCell']) (by simp [Value.cells]) ?_) | (refine xk_storeN 1 rfl rfl rfl (by kernel_rfl) (by simp [Value.cells, Value.oneCell']) (by simp [Value.cells]) ?_) | (refine xk_storeN 2 rfl rfl rfl (by kernel_rfl) (by simp [Value.cells, Value.oneCell']) (by simp [Value.cells]) ?_) | (refine xk_storeN 3 rfl rfl rfl (by kernel_rfl) (by simp [Value.cells, Value.oneCell']) (by simp [Value.cells]) ?_) | (refine xk_storeN 4 rfl rfl rfl (by kernel_rfl) (by simp [Value.cells, Value.oneCell']) (by simp [Value.cells]) ?_) | (refine xk_storeN 5 rfl rfl rfl (by kernel_rfl) (by simp [Value.cells, Value.oneCell']) (by simp [Value.cells]) ?_) | (refine xk_storeN 6 rfl rfl rfl (by kernel_rfl) (by simp [Value.cells, Value.oneCell']) (by simp [Value.cells]) ?_) | (refine xk_storeN 7 rfl rfl rfl (by kernel_rfl) (by simp [Value.cells, Value.oneCell']) (by simp [Value.cells]) ?_) | (refine xk_storeN 8 rfl rfl rfl (by kernel_rfl) (by simp [Value.cells, Value.oneCell']) (by simp [Value.cells]) ?_)); simp only [putN, Value.cells, List.set, List.take, List.drop, List.nil_append, List.append_nil, List.length_cons, List.length_nil, List.cons_append, Nat.reduceAdd]
        refine XK.nilN ?_
        refine XK.ret ?_
        refine XK.norm ?_
        have h' : ¬ p.id < (x.c.length : Int) := h
        refine XK.still [] [1, 2, 3] [4] (by simp) rfl (by decide) (by decide) fun qf hqf _ hfr => ?_
        have s1 := SlS.own (hqf 3 _ (by simp) rfl)
        have s2 := SlS.own (hqf 2 _ (by simp) rfl)
        have s3 := SlS.own (hqf 1 _ (by simp) rfl)
        exact XK.retC rfl (by kernel_rfl) rfl rfl (RdN.whole 0 rfl) fun w1 st => ⟨⟨_, rfl, by
          have hl := st.fresh_le (by simp) (hfr (by simp) (by simp))
          have e1 : applyW x p = ⟨x.d, x.c, x.l⟩ := by unfold applyW; rw [if_neg hc1, if_pos hc2]; rw [putB_out (by omega) h']
          unfold WishOk
          rw [e1]
          unfold WshR
          simp only [putB_len]
          exact ⟨D1, j1, D2, j2, D3, j3, rfl, s1.le hl, s2.le hl, s3.le hl⟩⟩, st.below (by simp)⟩
    ·
      refine XK.cutB 53 (p.pr = 22 ∧ p.msg = 4 ∧ p.v ≤ 1) ?_ ?_
      · skip

        refine XK.region ?_
        refine xk_field (off := 0) (by kernel_rfl) rfl (by decide) ?_
        refine xk_ld rfl ?_
        refine xk_eql rfl rfl (by decide) ?_
        refine xk_move rfl (by decide) ?_
        refine xk_split (t := 57) rfl (fun hg => ?_) (fun hg => ?_)
        ·
          refine xk_guardT rfl rfl ?_; refine xk_field (off := 1) (by kernel_rfl) rfl (by decide) ?_
          refine xk_guardT rfl rfl ?_; refine xk_ld rfl ?_
          refine xk_guardT rfl rfl ?_; refine xk_eql rfl rfl (by decide) ?_
          (first | refine xk_pickT rfl rfl (by decide) ?_ | refine xk_pickF rfl rfl (by decide) ?_)
          refine xk_move rfl (by decide) ?_
          refine xk_split (t := 62) rfl (fun hg => ?_) (fun hg => ?_)
          ·
            refine xk_guardT rfl rfl ?_; refine xk_field (off := 3) (by kernel_rfl) rfl (by decide) ?_
            refine xk_guardT rfl rfl ?_; refine xk_ld rfl ?_
            refine xk_guardT rfl rfl ?_; refine xk_leq rfl rfl (by decide) ?_
            (first | refine xk_pickT rfl rfl (by decide) ?_ | refine xk_pickF rfl rfl (by decide) ?_)
            refine xk_assign rfl (by decide) ?_
            refine XK.nilN ?_
            exact XK.meetB (by repeat (first | exact trivial | refine ⟨rfl, ?_⟩)) (by first | (refine get_iff rfl ?_; omega) | (refine get_iff rfl ?_; simp_all; done) | (refine get_false rfl ?_; first | omega | (simp_all; done)) | (refine get_true rfl ?_; first | omega | (simp_all; done)) | (refine get_bool rfl ?_; simp_all; done) | (refine get_iff rfl ⟨fun hh => ?_, fun hh => ?_⟩ <;> first | omega | (simp_all; done) | (simp_all; omega)) | (exfalso; omega))
          ·
            refine xk_guardF rfl rfl rfl (by decide) ?_
            refine xk_guardF rfl rfl rfl (by decide) ?_
            refine xk_guardF rfl rfl rfl (by decide) ?_
            (first | refine xk_pickT rfl rfl (by decide) ?_ | refine xk_pickF rfl rfl (by decide) ?_)
            refine xk_assign rfl (by decide) ?_
            refine XK.nilN ?_
            exact XK.meetB (by repeat (first | exact trivial | refine ⟨rfl, ?_⟩)) (by first | (refine get_iff rfl ?_; omega) | (refine get_iff rfl ?_; simp_all; done) | (refine get_false rfl ?_; first | omega | (simp_all; done)) | (refine get_true rfl ?_; first | omega | (simp_all; done)) | (refine get_bool rfl ?_; simp_all; done) | (refine get_iff rfl ⟨fun hh => ?_, fun hh => ?_⟩ <;> first | omega | (simp_all; done) | (simp_all; omega)) | (exfalso; omega))
        ·
          refine xk_guardF rfl rfl rfl (by decide) ?_
          refine xk_guardF rfl rfl rfl (by decide) ?_
          refine xk_guardF rfl rfl rfl (by decide) ?_
          (first | refine xk_pickT rfl rfl (by decide) ?_ | refine xk_pickF rfl rfl (by decide) ?_)
          refine xk_move rfl (by decide) ?_
          refine xk_guardF rfl rfl rfl (by decide) ?_
          refine xk_guardF rfl rfl rfl (by decide) ?_
          refine xk_guardF rfl rfl rfl (by decide) ?_
          (first | refine xk_pickT rfl rfl (by decide) ?_ | refine xk_pickF rfl rfl (by decide) ?_)
          refine xk_assign rfl (by decide) ?_
          refine XK.nilN ?_
          exact XK.meetB (by repeat (first | exact trivial | refine ⟨rfl, ?_⟩)) (by first | (refine get_iff rfl ?_; omega) | (refine get_iff rfl ?_; simp_all; done) | (refine get_false rfl ?_; first | omega | (simp_all; done)) | (refine get_true rfl ?_; first | omega | (simp_all; done)) | (refine get_bool rfl ?_; simp_all; done) | (refine get_iff rfl ⟨fun hh => ?_, fun hh => ?_⟩ <;> first | omega | (simp_all; done) | (simp_all; omega)) | (exfalso; omega))
      refine XK.if_ rfl (fun hc3 => ?_) (fun hc3 => ?_)
      ·
        refine XK.seq ?_

        refine XK.region ?_
        refine xk_field (off := 2) (by kernel_rfl) rfl (by decide) ?_
        refine xk_ld rfl ?_
        refine xk_assign rfl (by decide) ?_
        refine XK.nilN ?_

        refine XK.region ?_
        refine xk_field (off := 3) (by kernel_rfl) rfl (by decide) ?_
        refine xk_ld rfl ?_
        refine xk_eql rfl rfl (by decide) ?_
        refine xk_assign rfl (by decide) ?_
        refine XK.nilN ?_
        refine XK.seq ?_
        refine XK.seq ?_

        refine XK.region ?_
        refine xk_field (off := 2) (by kernel_rfl) rfl (by decide) ?_
        refine xk_ld rfl ?_
        refine xk_conv (ds := .int .u32) (by kernel_rfl) (by kernel_rfl) rfl (wrap_in (by have := hp.id; omega)) (by decide) ?_
        refine xk_move rfl (by decide) ?_
        refine xk_len (el := 4) (by kernel_rfl) rfl (by decide) ?_
        refine xk_lss rfl rfl (by decide) ?_
        refine XK.nilN ?_
        refine XK.if_ rfl (fun h => ?_) (fun h => ?_)
        ·
          have h' : p.id < (x.l.length : Int) := h
          obtain ⟨k, hk⟩ : ∃ k : Nat, p.id = (k : Int) := ⟨p.id.toNat, by omega⟩
          refine XK.ownHead 1 rfl (by omega) fun gD hD => ?_
          subst hD

          refine XK.region ?_
          refine xk_move rfl (by decide) ?_
          refine xk_field (off := 2) (by kernel_rfl) rfl (by decide) ?_
          refine xk_ld rfl ?_
          refine xk_move rfl (by decide) ?_
          refine xk_at (k) (k) (el := 4) (sz := 1) (by kernel_rfl) (by kernel_rfl) rfl rfl (by omega) (by omega) (by omega) (by decide) ?_
          refine xk_storeOwn 1 k rfl (by kernel_rfl) rfl (by omega) rfl rfl (by omega) ?_
          dsimp only [List.set]
          rw [boolCells_set, show x.l.set k (decide (p.v = 0)) = putB x.l p.id (decide (p.v = 0)) by rw [putB, hk]; simp]
          refine XK.nilN ?_
          refine XK.seq ?_

          refine XK.region ?_
          refine xk_ldN 3 rfl ?_
          (first | (refine xk_storeN 0 rfl rfl rfl (by kernel_rfl) (by simp [Value.cells, Value.oneCell']) (by simp [Value.cells]) ?_) | (refine xk_storeN 1 rfl rfl rfl (by kernel_rfl) (by simp [Value.cells, Value.oneCell']) (by simp [Value.cells]) ?_) | (refine xk_storeN 2 rfl rfl rfl (by kernel_rfl) (by simp [Value.cells, Value.oneCell']) (by simp [Value.cells]) ?_) | (refine xk_storeN 3 rfl rfl rfl (by kernel_rfl) (by simp [Value.cells, Value.oneCell']) (by simp [Value.cells]) ?_) | (refine xk_storeN 4 rfl rfl rfl (by kernel_rfl) (by simp [Value.cells, Value.oneCell']) (by simp [Value.cells]) ?_) | (refine xk_storeN 5 rfl rfl rfl (by kernel_rfl) (by simp [Value.cells, Value.oneCell']) (by simp [Value.cells]) ?_) | (refine xk_storeN 6 rfl rfl rfl (by kernel_rfl) (by simp [Value.cells, Value.oneCell']) (by simp [Value.cells]) ?_) | (refine xk_storeN 7 rfl rfl rfl (by kernel_rfl) (by simp [Value.cells, Value.oneCell']) (by simp [Value.cells]) ?_) | (refine xk_storeN 8 rfl rfl rfl (by kernel_rfl) (by simp [Value.cells, Value.oneCell']) (by simp [Value.cells]) ?_)); simp only [putN, Value.cells, List.set, List.take, List.drop, List.nil_append, List.append_nil, List.length_cons, List.length_nil, List.cons_append, Nat.reduceAdd]
          refine XK.nilN ?_
          refine XK.ret ?_
          refine XK.norm ?_
          refine XK.still [] [1, 2, 3] [4] (by simp) rfl (by decide) (by decide) fun qf hqf _ hfr => ?_
          have s1 := SlS.own (hqf 3 _ (by simp) rfl)
          have s2 := SlS.own (hqf 2 _ (by simp) rfl)
          have s3 := SlS.own (hqf 1 _ (by simp) rfl)
          exact XK.retC rfl (by kernel_rfl) rfl rfl (RdN.whole 0 rfl) fun w1 st => ⟨⟨_, rfl, by
            have hl := st.fresh_le (by simp) (hfr (by simp) (by simp))
            have e1 : applyW x p = ⟨x.d, x.c, putB x.l p.id (decide (p.v = 0))⟩ := by unfold applyW; rw [if_neg hc1, if_neg hc2, if_pos hc3]
            unfold WishOk
            rw [e1]
            unfold WshR
            simp only [putB_len]
            exact ⟨D1, j1, D2, j2, some ⟨gD, 0, none⟩, j3, rfl, s1.le hl, s2.le hl, s3.le hl⟩⟩, st.below (by simp)⟩
        ·
          refine XK.skip ?_
          refine XK.norm ?_
          refine XK.seq ?_

          refine XK.region ?_
          refine xk_ldN 3 rfl ?_
          (first | (refine xk_storeN 0 rfl rfl rfl (by kernel_rfl) (by simp [Value.cells, Value.oneCell']) (by simp [Value.cells]) ?_) | (refine xk_storeN 1 rfl rfl rfl (by kernel_rfl) (by simp [Value.cells, Value.oneCell']) (by simp [Value.cells]) ?_) | (refine xk_storeN 2 rfl rfl rfl (by kernel_rfl) (by simp [Value.cells, Value.oneCell']) (by simp [Value.cells]) ?_) | (refine xk_storeN 3 rfl rfl rfl (by kernel_rfl) (by simp [Value.cells, Value.oneCell']) (by simp [Value.cells]) ?_) | (refine xk_storeN 4 rfl rfl rfl (by kernel_rfl) (by simp [Value.cells, Value.oneCell']) (by simp [Value.cells]) ?_) | (refine xk_storeN 5 rfl rfl rfl (by kernel_rfl) (by simp [Value.cells, Value.oneCell']) (by simp [Value.cells]) ?_) | (refine xk_storeN 6 rfl rfl rfl (by kernel_rfl) (by simp [Value.cells, Value.oneCell']) (by simp [Value.cells]) ?_) | (refine xk_storeN 7 rfl rfl rfl (by kernel_rfl) (by simp [Value.cells, Value.oneCell']) (by simp [Value.cells]) ?_) | (refine xk_storeN 8 rfl rfl rfl (by kernel_rfl) (by simp [Value.cells, Value.oneCell']) (by simp [Value.cells]) ?_)); simp only [putN, Value.cells, List.set, List.take, List.drop, List.nil_append, List.append_nil, List.length_cons, List.length_nil, List.cons_append, Nat.reduceAdd]
          refine XK.nilN ?_
          refine XK.ret ?_
          refine XK.norm ?_
          have h' : ¬ p.id < (x.l.length : Int) := h
          refine XK.still [] [1, 2, 3] [4] (by simp) rfl (by decide) (by decide) fun qf hqf _ hfr => ?_
          have s1 := SlS.own (hqf 3 _ (by simp) rfl)
          have s2 := SlS.own (hqf 2 _ (by simp) rfl)
          have s3 := SlS.own (hqf 1 _ (by simp) rfl)
          exact XK.retC rfl (by kernel_rfl) rfl rfl (RdN.whole 0 rfl) fun w1 st => ⟨⟨_, rfl, by
            have hl := st.fresh_le (by simp) (hfr (by simp) (by simp))
            have e1 : applyW x p = ⟨x.d, x.c, x.l⟩ := by unfold applyW; rw [if_neg hc1, if_neg hc2, if_pos hc3]; rw [putB_out (by omega) h']
            unfold WishOk
            rw [e1]
            unfold WshR
            simp only [putB_len]
            exact ⟨D1, j1, D2, j2, D3, j3, rfl, s1.le hl, s2.le hl, s3.le hl⟩⟩, st.below (by simp)⟩
      ·
        refine XK.skip ?_
        refine XK.norm ?_
        refine XK.seq ?_
        refine XK.seq ?_

        refine XK.region ?_
        refine xk_field (off := 2) (by kernel_rfl) rfl (by decide) ?_
        refine xk_ld rfl ?_
        refine xk_conv (ds := .int .u32) (by kernel_rfl) (by kernel_rfl) rfl (wrap_in (by have := hp.id; omega)) (by decide) ?_
        refine xk_move rfl (by decide) ?_
        refine xk_len (el := 4) (by kernel_rfl) rfl (by decide) ?_
        refine xk_lss rfl rfl (by decide) ?_
        refine XK.nilN ?_
        refine XK.if_ rfl (fun h => ?_) (fun h => ?_)
        · have h' : p.id < ((0 : Nat) : Int) := h
          omega

        ·
          refine XK.skip ?_
          refine XK.norm ?_
          refine XK.seq ?_

          refine XK.region ?_
          refine xk_ldN 3 rfl ?_
          (first | (refine xk_storeN 0 rfl rfl rfl (by kernel_rfl) (by simp [Value.cells, Value.oneCell']) (by simp [Value.cells]) ?_) | (refine xk_storeN 1 rfl rfl rfl (by kernel_rfl) (by simp [Value.cells, Value.oneCell']) (by simp [Value.cells]) ?_) | (refine xk_storeN 2 rfl rfl rfl (by kernel_rfl) (by simp [Value.cells, Value.oneCell']) (by simp [Value.cells]) ?_) | (refine xk_storeN 3 rfl rfl rfl (by kernel_rfl) (by simp [Value.cells, Value.oneCell']) (by simp [Value.cells]) ?_) | (refine xk_storeN 4 rfl rfl rfl (by kernel_rfl) (by simp [Value.cells, Value.oneCell']) (by simp [Value.cells]) ?_) | (refine xk_storeN 5 rfl rfl rfl (by kernel_rfl) (by simp [Value.cells, Value.oneCell']) (by simp [Value.cells]) ?_) | (refine xk_storeN 6 rfl rfl rfl (by kernel_rfl) (by simp [Value.cells, Value.oneCell']) (by simp [Value.cells]) ?_) | (refine xk_storeN 7 rfl rfl rfl (by kernel_rfl) (by simp [Value.cells, Value.oneCell']) (by simp [Value.cells]) ?_) | (refine xk_storeN 8 rfl rfl rfl (by kernel_rfl) (by simp [Value.cells, Value.oneCell']) (by simp [Value.cells]) ?_)); simp only [putN, Value.cells, List.set, List.take, List.drop, List.nil_append, List.append_nil, List.length_cons, List.length_nil, List.cons_append, Nat.reduceAdd]
          refine XK.nilN ?_
          refine XK.ret ?_
          refine XK.norm ?_
          refine XK.still [] [1, 2, 3] [4] (by simp) rfl (by decide) (by decide) fun qf hqf _ hfr => ?_
          have s1 := SlS.own (hqf 3 _ (by simp) rfl)
          have s2 := SlS.own (hqf 2 _ (by simp) rfl)
          have s3 := SlS.own (hqf 1 _ (by simp) rfl)
          exact XK.retC rfl (by kernel_rfl) rfl rfl (RdN.whole 0 rfl) fun w1 st => ⟨⟨_, rfl, by
            have hl := st.fresh_le (by simp) (hfr (by simp) (by simp))
            have e1 : applyW x p = ⟨x.d, x.c, x.l⟩ := by unfold applyW; rw [if_neg hc1, if_neg hc2, if_neg hc3]
            unfold WishOk
            rw [e1]
            unfold WshR
            simp only [putB_len]
            exact ⟨D1, j1, D2, j2, D3, j3, rfl, s1.le hl, s2.le hl, s3.le hl⟩⟩, st.below (by simp)⟩

end Go.Proofs.YtbgibbbggajgaaaGreat
