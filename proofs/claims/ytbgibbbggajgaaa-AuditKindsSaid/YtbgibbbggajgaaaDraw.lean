/- The small logic in a region that draws its order: what yields one value is taken first, what writes comes last; the rest in whatever order. -/
import Derived.Test.YtbgibbbggajgaaaMops
import Derived.OrdersHeld
namespace Go.Proofs.Ytbgibbbggajgaaa
set_option linter.all false
open Go.RowKit

/-! ### what must have come ahead of an operation -/
def predM (o : Oper) : Nat := o.after.toList.foldl (fun s x => if Region.binds .any x then s ||| 2 ^ x.on else s) 0
def closeM (ops : Array Oper) : Nat → Nat → Nat
  | 0, s => s
  | n + 1, s => closeM ops n (if s.testBit n then s ||| (match ops[n]? with | some o => predM o | none => 0) else s)
/-- whatever stands ahead of number j has come ahead of it -/
def tailB (ops : Array Oper) (j : Nat) : Bool := match ops[j]? with
  | some o => (List.range j).all fun i => (closeM ops j (predM o)).testBit i
  | none => true
/-- so from number m on -/
def tlB (ops : Array Oper) (m : Nat) : Bool := (List.range ops.size).all fun j => decide (j < m) || tailB ops j
/-- what is listed has all listed that must come ahead -/
def Down (ops : Array Oper) (listed : Array Bool) : Prop := ∀ j o, ops[j]? = some o → listed.getD j false = true → ∀ x ∈ o.after, Region.binds .any x = true → listed.getD x.on false = true
theorem predM_fold (P : Nat → Prop) : ∀ (l : List Edge) (s : Nat), (∀ i, s.testBit i = true → P i) → (∀ x ∈ l, Region.binds .any x = true → P x.on) → ∀ i, (l.foldl (fun s x => if Region.binds .any x then s ||| 2 ^ x.on else s) s).testBit i = true → P i
  | [], s, hs, _, i, h => hs i h
  | x :: l, s, hs, hl, i, h => by
    rw [List.foldl_cons] at h
    refine predM_fold P l _ (fun k hk => ?_) (fun y hy => hl y (List.mem_cons_of_mem _ hy)) i h
    split at hk
    · rename_i hb
      rw [Nat.testBit_or, Bool.or_eq_true] at hk
      rcases hk with hk | hk
      · exact hs k hk
      · rw [Nat.testBit_two_pow] at hk
        have : x.on = k := by simpa using hk
        exact this ▸ hl x (by simp) hb
    · exact hs k hk
theorem predM_spec {o : Oper} {P : Nat → Prop} (h : ∀ x ∈ o.after, Region.binds .any x = true → P x.on) : ∀ i, (predM o).testBit i = true → P i :=
  predM_fold P o.after.toList 0 (fun i hi => by simp at hi) (fun x hx hb => h x (by simpa using hx) hb)
theorem closeM_spec {ops : Array Oper} {listed : Array Bool} (hd : Down ops listed) : ∀ (n s : Nat), (∀ i, s.testBit i = true → listed.getD i false = true) → ∀ i, (closeM ops n s).testBit i = true → listed.getD i false = true
  | 0, s, hs, i, h => hs i h
  | n + 1, s, hs, i, h => by
    unfold closeM at h
    refine closeM_spec hd n _ (fun k hk => ?_) i h
    split at hk
    · rename_i hn
      rw [Nat.testBit_or, Bool.or_eq_true] at hk
      rcases hk with hk | hk
      · exact hs k hk
      · split at hk
        · rename_i o ho
          exact predM_spec (P := fun k => listed.getD k false = true) (fun x hx hb => hd n o ho (hs n hn) x hx hb) k hk
        · simp at hk
    · exact hs k hk
theorem tail_listed {ops : Array Oper} {listed : Array Bool} (hd : Down ops listed) {j : Nat} (hj : j ∈ Region.ready .any ops listed) (ht : tailB ops j = true) {i : Nat} (hi : i < j) : listed.getD i false = true := by
  obtain ⟨_, o, ho, hall⟩ := mem_ready.1 hj
  unfold tailB at ht
  rw [ho] at ht
  simp only [List.all_eq_true, List.mem_range] at ht
  exact closeM_spec hd j _ (predM_spec (P := fun k => listed.getD k false = true) fun x hx hb => hall x hx hb) i (ht i hi)
theorem Down.set_ {ops : Array Oper} {listed : Array Bool} (hd : Down ops listed) {j : Nat} (hj : j ∈ Region.ready .any ops listed) : Down ops (listed.setIfInBounds j true) := by
  intro k o ho hk x hx hb
  obtain ⟨_, oj, hoj, hall⟩ := mem_ready.1 hj
  by_cases hkj : j = k
  · subst hkj
    rw [hoj] at ho
    cases ho
    exact getD_set_true (hall x hx hb)
  · rw [getD_set_ne false hkj] at hk
    exact getD_set_true (hd k o ho hk x hx hb)
theorem Down.start (ops : Array Oper) (n : Nat) : Down ops (Array.replicate n false) := by
  intro j o _ h
  rw [Array.getD_eq_getD_getElem?, Array.getElem?_replicate] at h
  split at h <;> simp at h

/-! ### any order -/
section
variable {P : Program} {ops : Array Oper} {Q : Exit → Act → World → Prop} {S : World → Prop} {m : Nat}
/-- whatever order is picked; S holds behind each of the operations ahead of number m -/
def wpAnyX (P : Program) (ops : Array Oper) (Q : Exit → Act → World → Prop) (S : World → Prop) (m : Nat) : Nat → Array Bool → Act → World → Prop
  | 0, listed, a, w => Region.ready .any ops listed = [] ∧ Q .normal a w
  | fuel + 1, listed, a, w => (Region.ready .any ops listed = [] → Q .normal a w) ∧
    ∀ i ∈ Region.ready .any ops listed, wpOp P ops Q i (fun a' w' => (i < m → S w') ∧ wpAnyX P ops Q S m fuel (listed.setIfInBounds i true) a' w') a w
theorem wpAny_of_x : ∀ (fuel : Nat) (listed : Array Bool) (a : Act) (w : World), wpAnyX P ops Q S m fuel listed a w → wpAny P .any ops Q fuel listed a w
  | 0, _, _, _, h => h
  | fuel + 1, _, _, _, h => ⟨h.1, fun i hi => wpOp_mono (fun a' w' h' => wpAny_of_x fuel _ a' w' h'.2) (h.2 i hi)⟩
theorem wpAnyX_first {i : Nat} {oi : Oper} {v : Value} (hi : ops[i]? = some oi) (hsel : ∀ (j : Nat) (o : Oper) cs b, ops[j]? = some o → o.op ≠ .select cs b)
    (hQ : ∀ c a w, Q (.panic c) (a.put oi.dst v) w → Q (.panic c) a w) (htl : tlB ops m = true) (him : i < m) :
    ∀ (fuel : Nat) (listed : Array Bool) (a : Act) (w : World), Down ops listed →
      (∀ j oj, ops[j]? = some oj → j ≠ i → listed.getD j true = false → (∀ e ∈ oj.after, Region.binds .any e = true → e.on ≠ i) → oi.apart ops oj = true) →
      i ∈ Region.ready .any ops listed → YieldsIf P ops S oi v a → S w →
      wpAnyX P ops Q S m fuel (listed.setIfInBounds i true) (a.put oi.dst v) w → wpAnyX P ops Q S m (fuel + 1) listed a w := by
  intro fuel
  induction fuel with
  | zero =>
    intro listed a w hdn _ hr hy hS H
    refine ⟨fun h => (by rw [h] at hr; cases hr), fun j hj => ?_⟩
    by_cases hji : j = i
    · subst hji; exact hy.wpOp hi hS ⟨fun _ => hS, H⟩
    · have := ready_mono hj hji
      rw [H.1] at this
      cases this
  | succ fuel ih =>
    intro listed a w hdn hfree hr hy hS H
    refine ⟨fun h => (by rw [h] at hr; cases hr), fun j hj => ?_⟩
    by_cases hji : j = i
    · subst hji; exact hy.wpOp hi hS ⟨fun _ => hS, H⟩
    · have h1 := H.2 j (ready_mono hj hji)
      obtain ⟨hjun, oj, hoj, hall⟩ := mem_ready.1 hj
      have hun : ∀ k, k ∈ Region.ready .any ops listed → listed.getD k false = true → False := fun k hk h => by
        have h0 := (mem_ready.1 hk).1
        rcases Nat.lt_or_ge k listed.size with h' | h'
        · simp [h'] at h0 h; rw [h0] at h; cases h
        · simp [Array.getElem?_eq_none h'] at h
      have hjm : j < m := by
        rcases Nat.lt_or_ge j m with h | h
        · exact h
        · exfalso
          have hlt : j < ops.size := (Array.getElem?_eq_some_iff.1 hoj).1
          have ht : tailB ops j = true := by
            unfold tlB at htl
            simp only [List.all_eq_true, List.mem_range, Bool.or_eq_true, decide_eq_true_eq] at htl
            exact (htl j hlt).resolve_left (by omega)
          exact hun i hr (tail_listed hdn hj ht (by omega))
      have hnot : ∀ e ∈ oj.after, Region.binds .any e = true → e.on ≠ i := fun e he hb heq => hun i hr (heq ▸ hall e he hb)
      have h2 := wpOp_putIf hoj (hfree j oj hoj hji hjun hnot) (fun cs b => hsel i oi cs b hi) (fun cs b => hsel j oj cs b hoj) hQ hy h1
      have hfree' : ∀ k ok, ops[k]? = some ok → k ≠ i → (listed.setIfInBounds j true).getD k true = false →
          (∀ e ∈ ok.after, Region.binds .any e = true → e.on ≠ i) → oi.apart ops ok = true := fun k ok hk hki hun hno => by
        refine hfree k ok hk hki ?_ hno
        by_cases hjk : j = k
        · subst hjk; exact hjun
        · rw [getD_set_ne true hjk] at hun; exact hun
      refine wpOp_mono (fun a' w' h3 => ⟨h3.2.1, ih (listed.setIfInBounds j true) a' w' (hdn.set_ hj) hfree' (ready_mono hr (Ne.symm hji)) h3.1 (h3.2.1 hjm) ?_⟩) h2
      rw [Array.setIfInBounds_comm _ _ hji]
      exact h3.2.2
end

/-! ### the judgement -/
section
variable {P : Program} {N : Nat} {w0 : World} {e e' : Env} {R R' R0 : List Piece} {H H' H0 : List HP} {Q : Exit → Act → World → Prop} {ops : Array Oper} {m fuel : Nat} {listed : Array Bool}
/-- what is known of the list of those that came up -/
structure Up (ops : Array Oper) (m : Nat) (listed : Array Bool) : Prop where
  down : Down ops listed
  sel : Region.noSelect ops = true
  tl : tlB ops m = true
theorem Up.set_ {i : Nat} (h : Up ops m listed) (hi : i ∈ Region.ready .any ops listed) : Up ops m (listed.setIfInBounds i true) := ⟨h.down.set_ hi, h.sel, h.tl⟩
/-- whatever order is picked from here on -/
def XA (P : Program) (N : Nat) (w0 : World) (ops : Array Oper) (Q : Exit → Act → World → Prop) (R0 : List Piece) (H0 : List HP) (m fuel : Nat) (listed : Array Bool) (e : Env) (R : List Piece) (H : List HP) : Prop :=
  Up ops m listed → XK N w0 (wpAnyX P ops Q (St w0 R0 H0) m fuel listed) e R H
/-- .. behind operation i -/
def XAK (P : Program) (w0 : World) (ops : Array Oper) (Q : Exit → Act → World → Prop) (R0 : List Piece) (H0 : List HP) (m fuel : Nat) (listed : Array Bool) (i : Nat) : Act → World → Prop :=
  fun a' w' => (i < m → St w0 R0 H0 w') ∧ (Up ops m (listed.setIfInBounds i true) → wpAnyX P ops Q (St w0 R0 H0) m fuel (listed.setIfInBounds i true) a' w')
theorem XK.draw (m : Nat) {id : Nat} {l : List Oper} (hm : P.follows .mixedOrders = true) (hc : (Region.noSelect l.toArray && tlB l.toArray m) = true) (h : XA P N w0 l.toArray Q R H m l.length (Array.replicate l.length false) e R H) : XK N w0 ((Code.region id l.toArray true).wp P Q) e R H := fun a w hr st => by
  simp only [Bool.and_eq_true] at hc
  have := h ⟨Down.start _ _, hc.1, hc.2⟩ a w.drew hr st.drew
  refine wp_region_any hm (wpAny_of_x (S := St w0 R H) (m := m) _ _ _ _ ?_)
  simpa using this
theorem XA.do_ (i : Nat) {oi : Oper} {v : Value} {d : Nat} (hi : ops[i]? = some oi) (hdst : oi.dst = some d) (hg : oi.guard = none) (hd : d < N) (hdo : Does P N w0 e R0 H0 oi v)
    (hc : (Region.free .any ops listed i && (Region.ready .any ops listed).contains i && decide (i < m)) = true) (hQ : ∀ c a w, Q (.panic c) (a.put oi.dst v) w → Q (.panic c) a w)
    (hsub : ∀ w, St w0 R H w → St w0 R0 H0 w)
    (k : XA P N w0 ops Q R0 H0 m fuel (listed.setIfInBounds i true) ((d, v) :: e) R H) : XA P N w0 ops Q R0 H0 m (fuel + 1) listed e R H := by
  simp only [Bool.and_eq_true, decide_eq_true_eq] at hc
  obtain ⟨⟨h2, h3⟩, h5⟩ := hc
  intro up a w hr st
  have hp := k (up.set_ (by simpa using h3)) (a.put oi.dst v) w (by rw [hdst]; exact hr.put hd v) st
  refine wpAnyX_first hi (Region.noSelect_spec up.sel) hQ up.tl h5 fuel listed a w up.down (Region.free_spec hi h2) (by simpa using h3) (.inl ⟨by simp [Region.wanted, hg], fun w' hw' => ?_⟩) (hsub w st) hp
  exact hdo a w' hr hw'
theorem xa_step {i : Nat} {oi : Oper} (hi : ops[i]? = some oi) {a : Act} {w : World} {K K' : Act → World → Prop} (hK : ∀ a w, K a w → K' a w) (h : wpList P ops (Exit.then K Q) [oi] a w) : wpOp P ops Q i K' a w := by
  unfold wpList at h
  unfold wpOp
  simp only [hi]
  split
  · rename_i hw
    rw [if_pos hw] at h
    rcases h with h | h
    · refine .inl ?_
      unfold Oper.wp at h ⊢
      generalize (execOp a.eval oi).run P w = r at h ⊢
      cases r with
      | ok n w' =>
        cases n <;> simp only [Oper.upon] at h ⊢ <;> first | exact hK _ _ h | exact Calls.mono h (fun x w'' hx => by cases x <;> first | exact hK _ _ hx | exact hx) | exact Rows.mono h (fun _ _ hx => hK _ _ hx) | exact h
      | halt x w' => cases x <;> simp only [Oper.upon] at h ⊢ <;> exact h
    · exact .inr h
  · rename_i hw
    rw [if_neg hw] at h
    exact hK _ _ h
/-- only number i may come up -/
theorem XA.next (i : Nat) {oi : Oper} (hi : ops[i]? = some oi) (hr : Region.ready .any ops listed = [i]) (k : XK N w0 (wpList P ops (Exit.then (XAK P w0 ops Q R0 H0 m fuel listed i) Q) [oi]) e R H) : XA P N w0 ops Q R0 H0 m (fuel + 1) listed e R H := by
  intro up a w hrp st
  refine ⟨fun h => (by rw [hr] at h; cases h), fun j hj => ?_⟩
  rw [hr] at hj
  simp at hj
  subst hj
  exact xa_step hi (fun a w h => ⟨h.1, h.2 (up.set_ (by rw [hr]; simp))⟩) (k a w hrp st)
/-- number i or number j may come up -/
theorem XA.either (i j : Nat) {oi oj : Oper} (hi : ops[i]? = some oi) (hj : ops[j]? = some oj) (hr : Region.ready .any ops listed = [i, j])
    (k1 : XK N w0 (wpList P ops (Exit.then (XAK P w0 ops Q R0 H0 m fuel listed i) Q) [oi]) e R H) (k2 : XK N w0 (wpList P ops (Exit.then (XAK P w0 ops Q R0 H0 m fuel listed j) Q) [oj]) e R H) : XA P N w0 ops Q R0 H0 m (fuel + 1) listed e R H := by
  intro up a w hrp st
  refine ⟨fun h => (by rw [hr] at h; cases h), fun q hq => ?_⟩
  have hq' := hq
  rw [hr] at hq
  simp at hq
  rcases hq with rfl | rfl
  · exact xa_step hi (fun a w h => ⟨h.1, h.2 (up.set_ hq')⟩) (k1 a w hrp st)
  · exact xa_step hj (fun a w h => ⟨h.1, h.2 (up.set_ hq')⟩) (k2 a w hrp st)
/-- one of three -/
theorem XA.three (i j k : Nat) {oi oj ok : Oper} (hi : ops[i]? = some oi) (hj : ops[j]? = some oj) (hk : ops[k]? = some ok) (hr : Region.ready .any ops listed = [i, j, k])
    (k1 : XK N w0 (wpList P ops (Exit.then (XAK P w0 ops Q R0 H0 m fuel listed i) Q) [oi]) e R H) (k2 : XK N w0 (wpList P ops (Exit.then (XAK P w0 ops Q R0 H0 m fuel listed j) Q) [oj]) e R H)
    (k3 : XK N w0 (wpList P ops (Exit.then (XAK P w0 ops Q R0 H0 m fuel listed k) Q) [ok]) e R H) : XA P N w0 ops Q R0 H0 m (fuel + 1) listed e R H := by
  intro up a w hrp st
  refine ⟨fun h => (by rw [hr] at h; cases h), fun q hq => ?_⟩
  have hq' := hq
  rw [hr] at hq
  simp at hq
  rcases hq with rfl | rfl | rfl
  · exact xa_step hi (fun a w h => ⟨h.1, h.2 (up.set_ hq')⟩) (k1 a w hrp st)
  · exact xa_step hj (fun a w h => ⟨h.1, h.2 (up.set_ hq')⟩) (k2 a w hrp st)
  · exact xa_step hk (fun a w h => ⟨h.1, h.2 (up.set_ hq')⟩) (k3 a w hrp st)
theorem XA.back {i : Nat} (hS : ∀ w, St w0 R H w → St w0 R0 H0 w) (h : XA P N w0 ops Q R0 H0 m fuel (listed.setIfInBounds i true) e R H) : XK N w0 (XAK P w0 ops Q R0 H0 m fuel listed i) e R H := fun a w hr st => ⟨fun _ => hS w st, fun up => h up a w hr st⟩
theorem XA.backT {i : Nat} (hm : Nat.ble m i = true) (h : XA P N w0 ops Q R0 H0 m fuel (listed.setIfInBounds i true) e R H) : XK N w0 (XAK P w0 ops Q R0 H0 m fuel listed i) e R H := fun a w hr st => ⟨fun hlt => by have := Nat.le_of_ble_eq_true hm; omega, fun up => h up a w hr st⟩
theorem XA.done (hr : Region.ready .any ops listed = []) (h : XK N w0 (Q .normal) e R H) : XA P N w0 ops Q R0 H0 m fuel listed e R H := by
  intro up a w hrp st
  cases fuel with
  | zero => exact ⟨hr, h a w hrp st⟩
  | succ fuel => exact ⟨fun _ => h a w hrp st, by rw [hr]; simp⟩
theorem St.tail {p : HP} {w : World} (h : St w0 R (p :: H) w) : St w0 R H w := h.weak (fun _ hp => hp) (· + 1) (fun i j _ _ h => by omega) (fun i q hq => by simpa using hq)
theorem St.tailR {p : Piece} {w : World} (h : St w0 (p :: R) H w) : St w0 R H w := h.weak (fun _ hp => List.mem_cons_of_mem _ hp) id (fun _ _ _ _ h => h) (fun i q hq => hq)
theorem does_load {x : Operand} {t ty : TypeId} {b o d : Nat} {v : Value} {pos : String} {aft : Array Edge} (ht : oneB P t = true) (hx : e.ev x = some (.pointer (some ⟨b, o, none⟩))) (hr : Rd w0 R H b o v) : Does P N w0 e R H ⟨some d, .load t x, ty, pos, aft, none⟩ v :=
  fun a w hrp st => by simp [execOp, hrp.ev hx, run_load_one ht (hr w st)]
theorem does_loadN (n : Nat) {x : Operand} {t ty : TypeId} {b o d : Nat} {vs : List Value} {pos : String} {aft : Array Edge} (ht : rowB P t n = true) (hx : e.ev x = some (.pointer (some ⟨b, o, none⟩))) (hr : RdN w0 R H b o vs) (hn : vs.length = n) : Does P N w0 e R H ⟨some d, .load t x, ty, pos, aft, none⟩ (.agg vs.toArray) :=
  fun a w hrp st => by simp [execOp, hrp.ev hx, run_load_row ht hn (hr w st)]
end
end Go.Proofs.Ytbgibbbggajgaaa
