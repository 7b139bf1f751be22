/- Chips and their texts: what the laws of chapter 5 need, in plain words. -/
import Derived.KernelRfl
import Derived.Test.YtgopaoidgcgalaaGreatDoorProg
import Derived.Test.YtgopaoidgcgalaaGreatDoorLinesBackK4
namespace Go.Proofs.YtgopaoidgcgalaaGreatDoor
set_option linter.all false
open Go.RowKit
theorem firstE_zero {es : List Int} (h : firstE es = 0) : ∀ e ∈ es, e = 0 := by
  intro e he
  refine Classical.byContradiction fun hne => ?_
  unfold firstE at h
  cases hf : es.find? (fun e => decide (e ≠ 0)) with
  | none =>
    have := List.find?_eq_none.1 hf e he
    simp [hne] at this
  | some x =>
    have h1 := List.find?_some hf
    rw [hf] at h
    simp at h h1
    exact h1 h
theorem whenE_zero {b : Bool} {e : Int} (he : e ≠ 0) (h : whenE b e = 0) : b = false := by
  unfold whenE at h
  cases b
  · rfl
  · exact absurd h he
/-- what conf.Check has looked at -/
structure Soc.okB (s : Soc) : Prop where
  nc : s.clocks.length ≤ 12
  nd : s.domains.length ≤ 6
  nr : s.resets.length ≤ 6
  nv : s.devs.length ≤ 6
  src : ∀ c ∈ s.clocks, c.src.length ≤ 4
  devs : ∀ d ∈ s.devs, d.regs.length ≤ 8 ∧ d.needs.length ≤ 6
theorem full_zero {s : Soc} (h : fullE s = 0) : s.clocks.length ≤ 12 ∧ s.domains.length ≤ 6 ∧ s.resets.length ≤ 6 ∧ s.devs.length ≤ 6 ∧ ∀ d ∈ s.devs, d.regs.length ≤ 8 ∧ d.needs.length ≤ 6 := by
  unfold fullE at h
  split at h
  · cases h
  · rename_i hn
    refine ⟨by omega, by omega, by omega, by omega, fun d hd => ?_⟩
    have h1 := firstE_zero h (manyE d) (List.mem_map.2 ⟨d, hd, rfl⟩)
    have h2 := whenE_zero (by decide) h1
    rw [Bool.or_eq_false_iff] at h2
    have h3 := of_decide_eq_false h2.1
    have h4 := of_decide_eq_false h2.2
    omega
theorem check_ok {s : Soc} (h : checkS s = 0) : s.okB := by
  have hz := firstE_zero h
  obtain ⟨h1, h2, h3, h4, h5⟩ := full_zero (hz (fullE s) (by simp [checkL]))
  refine ⟨h1, h2, h3, h4, fun c hc => ?_, h5⟩
  have hc1 := firstE_zero (hz (firstE (s.clocks.map (clockE s.clocks.length))) (by simp [checkL])) _ (List.mem_map.2 ⟨c, hc, rfl⟩)
  have hc2 := whenE_zero (by decide) (firstE_zero hc1 (whenE (!shapeB c.kind c.src.length) 1) (by simp))
  unfold shapeB at hc2
  simp only [Bool.not_eq_false'] at hc2
  split at hc2
  · have := of_decide_eq_true hc2; omega
  · split at hc2
    · have := of_decide_eq_true hc2; omega
    · split at hc2
      · unfold withinB at hc2
        rw [Bool.and_eq_true] at hc2
        have := of_decide_eq_true hc2.2
        omega
      · cases hc2
/-! ### chips that texts can say -/
theorem num_i64 {n : Int} (h : isNum n) : isI64 n := ⟨by have := h.1; omega, by have := h.2; omega⟩
theorem clockN_zero {k : Nat} {l : List Int} {c : Clk} (h : clockN k (some l) = some c) : (∀ x ∈ c.src, x ∈ l) ∧ (c.rate = 0 ∨ c.rate ∈ l) ∧ (c.mul = 0 ∨ c.mul ∈ l) ∧ (c.div = 0 ∨ c.div ∈ l) ∧ (c.lock = 0 ∨ c.lock ∈ l) := by
  unfold clockN at h
  dsimp only at h
  repeat' (split at h)
  all_goals first | (cases h; done) | (cases h; simp; done) | (cases h; subst_vars; simp)
theorem isNum0 : isNum 0 := ⟨by omega, by omega⟩
theorem can_nums {c : Clk} (h : c.can) : (∀ x ∈ c.src, isNum x) ∧ isNum c.rate ∧ isNum c.mul ∧ isNum c.div ∧ isNum c.lock := by
  obtain ⟨_, h2, _, _, h5⟩ := h
  obtain ⟨g1, g2, g3, g4, g5⟩ := clockN_zero h5
  have key : ∀ x : Int, (x = 0 ∨ x ∈ c.nums) → isNum x := fun x hx => by
    rcases hx with rfl | hx
    · exact isNum0
    · exact h2 x hx
  exact ⟨fun x hx => h2 x (g1 x hx), key _ g2, key _ g3, key _ g4, key _ g5⟩
theorem can_in64 {s : Soc} (h : s.can) : s.in64 := by
  refine ⟨fun c hc => ?_, fun d hd => ?_, fun r hr => num_i64 (h.resets r hr), fun d hd => ?_⟩
  · have hcan := h.clocks c hc
    obtain ⟨g1, g2, g3, g4, g5⟩ := can_nums hcan
    exact ⟨fun x hx => num_i64 (g1 x hx), ⟨hcan.2.2.1, hcan.2.2.2.1⟩, ⟨g2.1, by have := g2.2; omega⟩, num_i64 g3, num_i64 g4, num_i64 g5⟩
  · obtain ⟨h1, h2⟩ := h.domains d hd
    refine ⟨?_, num_i64 h2⟩
    rcases h1 with h1 | h1
    · rw [h1]; exact ⟨by omega, by omega⟩
    · exact num_i64 h1
  · obtain ⟨⟨h1, h2, h3, h4, h5, h6⟩, h7⟩ := h.devs d hd
    exact ⟨num_i64 h1, num_i64 h2, num_i64 h3, ⟨h4, h5⟩, fun x hx => num_i64 (h6 x hx), fun r hr => h7 r hr⟩
section
variable {s : Soc} (h : s.made)
include h
theorem made_can : s.can := by
  refine ⟨fun c hc => ?_, fun d hd => ?_, fun r hr => ?_, fun d hd => ?_⟩
  · obtain ⟨k, hk⟩ := List.getElem?_of_mem hc
    have hkl := (List.getElem?_eq_some_iff.1 hk).1
    have hnc := h.nc.2
    obtain ⟨h1, h2⟩ := h.clocks k c hk
    have hs : ∀ f ∈ c.src, isNum f := fun f hf => ⟨(h1 f hf).1, by have := (h1 f hf).2; omega⟩
    obtain ⟨kd, src, rt, ml, dv, lk⟩ := c
    dsimp only at h2 hs
    rcases h2 with ⟨rfl, rfl, g1, g2, rfl, rfl, rfl⟩ | ⟨rfl, g0, rfl, g1, g2, g3, g4, g5, g6⟩ | ⟨rfl, g0, rfl, rfl, g1, g2, rfl⟩ | ⟨rfl, g0, rfl, rfl, rfl, rfl⟩ | ⟨rfl, g0, rfl, rfl, rfl, rfl⟩
    · exact ⟨by simp [Clk.nums], by simp [Clk.nums]; exact ⟨by omega, by omega⟩, by dsimp only; omega, by dsimp only; omega, rfl⟩
    · obtain ⟨a, rfl⟩ := len1 g0
      refine ⟨by simp [Clk.nums], fun n hn => ?_, by dsimp only; omega, by dsimp only; omega, rfl⟩
      simp [Clk.nums] at hn
      rcases hn with rfl | rfl | rfl | rfl
      · exact hs _ (by simp)
      · exact ⟨by omega, by omega⟩
      · exact ⟨by omega, by omega⟩
      · exact ⟨by omega, by omega⟩
    · obtain ⟨a, rfl⟩ := len1 g0
      refine ⟨by simp [Clk.nums], fun n hn => ?_, by dsimp only; omega, by dsimp only; omega, rfl⟩
      simp [Clk.nums] at hn
      rcases hn with rfl | rfl
      · exact hs _ (by simp)
      · exact ⟨by omega, by omega⟩
    · obtain ⟨a, rfl⟩ := len1 g0
      refine ⟨by simp [Clk.nums], fun n hn => ?_, by dsimp only; omega, by dsimp only; omega, rfl⟩
      simp [Clk.nums] at hn
      rw [hn]; exact hs _ (by simp)
    · obtain ⟨a, b, rfl⟩ := len2 g0
      refine ⟨by simp [Clk.nums], fun n hn => ?_, by dsimp only; omega, by dsimp only; omega, rfl⟩
      simp [Clk.nums] at hn
      rcases hn with rfl | rfl <;> exact hs _ (by simp)
  · obtain ⟨k, hk⟩ := List.getElem?_of_mem hd
    have hkl := (List.getElem?_eq_some_iff.1 hk).1
    have := h.nd.2
    obtain ⟨h1, h2, h3⟩ := h.domains k d hk
    refine ⟨?_, by omega, by omega⟩
    rcases h1 with h1 | h1
    · exact .inl h1
    · exact .inr ⟨h1.1, by have := h1.2; omega⟩
  · have := h.resets r hr
    exact ⟨by omega, by omega⟩
  · obtain ⟨k, hk⟩ := List.getElem?_of_mem hd
    have hkl := (List.getElem?_eq_some_iff.1 hk).1
    have n1 := h.nc
    have n2 := h.nd
    have n3 := h.nr
    have n4 := h.nv
    obtain ⟨g1, g2, g3, g4, g5, g6, g7, g8, g9, g10, g11, g12⟩ := h.devs k d hk
    refine ⟨⟨⟨g1, by omega⟩, ⟨g3, by omega⟩, ⟨g5, by omega⟩, g7, by omega, fun x hx => ⟨(g12 x hx).1, by have := (g12 x hx).2; omega⟩⟩, fun r hr => ⟨(g10 r hr).1, by have := (g10 r hr).2; omega⟩⟩
theorem made_regs : ∀ d ∈ s.devs, d.regs.length ≤ 4 := fun d hd => by
  obtain ⟨k, hk⟩ := List.getElem?_of_mem hd
  exact (h.devs k d hk).2.2.2.2.2.2.2.2.1
end
/-! ### how long they are -/
theorem dd_len64 {n : Nat} (h : n < 18446744073709551616) : (Lib.decDigits n).length ≤ 20 := dd_len 19 n (by omega)
theorem numW_len {n : Int} (h1 : -9223372036854775808 ≤ n) (h2 : n < 18446744073709551616) : (numW n).length ≤ 20 := by
  unfold numW Lib.itoa
  split
  · have := dd_len 18 n.natAbs (by omega)
    simp; omega
  · exact dd_len64 (by omega)
theorem joinW_app : ∀ (ws : List (List UInt8)) (b : Nat), (∀ w ∈ ws, w.length ≤ b) → (joinW ws).length ≤ ws.length * (b + 1)
  | [], _, _ => Nat.zero_le _
  | [w], b, h => by have := h w (by simp); simp [joinW]; omega
  | w :: x :: ws, b, h => by
    have h1 := h w (by simp)
    have h2 := joinW_app (x :: ws) b (fun y hy => h y (by simp [hy]))
    simp only [joinW, List.length_append, List.length_cons] at h2 ⊢
    rw [Nat.succ_mul] 
    omega
theorem keptW_len (b : Bool) : (keptW b).length = 4 := by cases b <;> rfl
theorem item_len {i : Item} {n : Nat} (hn : i.words.length ≤ n) (hw : ∀ w ∈ i.words, w.length ≤ 20) : itemL i ≤ 21 * n + 1 := by
  have := joinW_app i.words 20 hw
  unfold itemL Item.line
  have h2 : i.words.length * 21 ≤ n * 21 := Nat.mul_le_mul_right 21 hn
  omega
theorem i64_w {n : Int} (h : isI64 n) : (numW n).length ≤ 20 := numW_len h.1 (by have := h.2; omega)
theorem items_le {α : Type} (f : α → Item) (b : Nat) : ∀ l : List α, (∀ x ∈ l, itemL (f x) ≤ b) → itemsL (l.map f) ≤ l.length * b
  | [], _ => Nat.zero_le _
  | x :: l, h => by
    have h1 := h x (by simp)
    have h2 := items_le f b l (fun y hy => h y (by simp [hy]))
    rw [List.map_cons, itemsL_cons, List.length_cons, Nat.succ_mul]
    omega
theorem devs_le (b : Nat) : ∀ l : List Dev, (∀ d ∈ l, itemsL d.items ≤ b) → devsL l ≤ l.length * b
  | [], _ => Nat.zero_le _
  | d :: l, h => by
    have h1 := h d (by simp)
    have h2 := devs_le b l (fun y hy => h y (by simp [hy]))
    rw [show d :: l = [d] ++ l from rfl, devsL_app, List.length_append, List.length_singleton, Nat.add_mul, Nat.one_mul]
    have : devsL [d] = itemsL d.items := by simp [devsL]
    omega
theorem mul_mono {a b c : Nat} (h : a ≤ b) : a * c ≤ b * c := Nat.mul_le_mul_right c h
theorem print_len {s : Soc} (h : s.okB) (h64 : s.in64) : (printF s).length ≤ 6700 := by
  rw [printF, itemsT_len, show itemsL s.items = socL s from rfl, socL_eq]
  have hc : itemsL (s.clocks.map .clk) ≤ 12 * 190 := by
    refine Nat.le_trans (items_le _ 190 _ fun c hc => ?_) (mul_mono h.nc)
    obtain ⟨h1, h2, h3, h4, h5, h6⟩ := h64.clocks c hc
    have hl := (clkW_len c).2
    have hs := h.src c hc
    refine Nat.le_trans (item_len (n := 9) (by show (clkW c).length ≤ 9; omega) fun w hw => ?_) (by omega)
    simp only [Item.words, clkW, List.mem_cons, List.mem_map] at hw
    rcases hw with rfl | rfl | ⟨x, hx, rfl⟩
    · decide
    · simp
    · unfold Clk.nums at hx
      rcases List.mem_append.1 hx with hx | hx
      · exact i64_w (h1 x hx)
      · split at hx
        · simp at hx; subst hx; exact numW_len (by omega) h3.2
        · split at hx
          · simp at hx
            rcases hx with rfl | rfl | rfl
            · exact i64_w h4
            · exact i64_w h5
            · exact i64_w h6
          · split at hx
            · simp at hx; subst hx; exact i64_w h5
            · cases hx
  have hd : itemsL (s.domains.map .dom) ≤ 6 * 85 := by
    refine Nat.le_trans (items_le _ 85 _ fun c hc => ?_) (mul_mono h.nd)
    obtain ⟨h1, h2⟩ := h64.domains c hc
    refine Nat.le_trans (item_len (n := 4) (by simp [Item.words, domW]) fun w hw => ?_) (by omega)
    simp only [Item.words, domW, List.mem_cons, List.not_mem_nil, or_false] at hw
    rcases hw with rfl | rfl | rfl | rfl
    · decide
    · unfold aboveW; split
      · simp
      · exact i64_w h1
    · exact i64_w h2
    · rw [keptW_len]; omega
  have hr : itemsL (s.resets.map .res) ≤ 6 * 43 := by
    refine Nat.le_trans (items_le _ 43 _ fun c hc => ?_) (mul_mono h.nr)
    have h1 := h64.resets c hc
    refine Nat.le_trans (item_len (n := 2) (by simp [Item.words, resW]) fun w hw => ?_) (by omega)
    simp only [Item.words, resW, List.mem_cons, List.not_mem_nil, or_false] at hw
    rcases hw with rfl | rfl
    · decide
    · exact i64_w h1
  have hv : devsL s.devs ≤ 6 * 600 := by
    refine Nat.le_trans (devs_le 600 _ fun d hd => ?_) (mul_mono h.nv)
    obtain ⟨h1, h2, h3, h4, h5, h6⟩ := h64.devs d hd
    obtain ⟨g1, g2⟩ := h.devs d hd
    have e1 : itemL (.dev d.bare) ≤ 232 := by
      refine Nat.le_trans (item_len (n := 11) (by simp [Item.words, devW, Dev.bare]; omega) fun w hw => ?_) (by omega)
      simp only [Item.words, devW, Dev.bare, List.mem_cons, List.mem_map] at hw
      rcases hw with rfl | rfl | rfl | rfl | rfl | ⟨x, hx, rfl⟩
      · decide
      · exact i64_w h1
      · exact i64_w h2
      · exact i64_w h3
      · exact numW_len (by omega) (by omega)
      · exact i64_w (h5 x hx)
    have e2 : itemsL (d.regs.map .reg) ≤ 8 * 46 := by
      refine Nat.le_trans (items_le _ 46 _ fun r hr => ?_) (mul_mono g1)
      obtain ⟨k1, k2⟩ := h6 r hr
      have hj : itemL (.reg r) ≤ 46 := by
        unfold itemL Item.line
        have hnum : (numW r.reset).length ≤ 20 := numW_len (by omega) (by omega)
        simp only [Item.words, rgW, joinW, List.length_append, List.length_cons, keptW_len]
        have : kwG.length = 3 := rfl
        omega
      exact hj
    rw [Dev.items, itemsL_cons]
    omega
  omega
/-! ### a text is read as it was printed -/
theorem readF_of {t : List UInt8} (h : t.length ≤ 8000) : readF (strOf t) = contF soc0 t := by
  unfold readF
  rw [if_neg (by rw [strOf_size]; omega)]
  simp [strOf]
theorem parse_of {t : List UInt8} {s : Soc} (h : t.length ≤ 8000) (hc : contF soc0 t = some s) : parseF (strOf t) = if checkS s = 0 then (0, s) else (checkS s, soc0) := by
  unfold parseF
  rw [readF_of h, hc]
theorem parse_print {s : Soc} (h : s.can) (hk : checkS s = 0) : parseF (strOf (printF s)) = (0, s) := by
  rw [parse_of (Nat.le_trans (print_len (check_ok hk) (can_in64 h)) (by omega)) (cont_print h), if_pos hk]
/-- what is parsed is right -/
theorem parse_back {t : ByteArray} {e : Int} {s : Soc} (h : parseF t = (e, s)) : (e = 0 ∧ s.can ∧ checkS s = 0 ∧ contF soc0 t.data.toList = some s ∧ t.size ≤ 8000) ∨ (e ≠ 0 ∧ s = soc0) := by
  unfold parseF at h
  cases hr : readF t with
  | none => rw [hr] at h; cases h; exact .inr ⟨by decide, rfl⟩
  | some x =>
    rw [hr] at h
    dsimp only at h
    unfold readF at hr
    split at hr
    · cases hr
    · split at h
      · rename_i h0
        cases h
        exact .inl ⟨rfl, contF_can hr, h0, hr, by omega⟩
      · rename_i h0
        cases h
        exact .inr ⟨h0, rfl⟩
end Go.Proofs.YtgopaoidgcgalaaGreatDoor
/- Chapter 5's laws: digits, shown. -/
namespace Go.Proofs.YtgopaoidgcgalaaGreatDoor
set_option linter.all false
open Go.RowKit
def shownT : List UInt8 := [99, 108, 111, 99, 107, 32, 111, 32, 53, 10, 100, 111, 109, 97, 105, 110, 32, 45, 32, 48, 32, 108, 111, 115, 101, 10, 114, 101, 115, 101, 116, 32, 49, 10, 100, 101, 118, 105, 99, 101, 32, 48, 32, 48, 32, 48, 32, 55, 10, 114, 101, 103, 32, 51, 32, 107, 101, 101, 112, 10]
def shownS : Soc := ⟨[⟨111, [], 5, 0, 0, 0⟩], [⟨-1, 0, false⟩], [1], [⟨0, 0, 0, 7, [⟨3, true⟩], []⟩]⟩
theorem shown_parse : parseF (strOf shownT) = (0, shownS) := by
  have h : readF (strOf shownT) = some shownS := by rfl
  unfold parseF
  rw [h]
  rfl
theorem RsR.rowP {α : Type} {p : Piece} {R : α → List Value → Prop} {t : TypeId} {sz n : Nat} {A : Option Addr} {es : List α} (h : RsR (slq p) R t sz A n es) {k : Nat} {e : α} (hk : es[k]? = some e) :
    ∃ b off r, A = some ⟨b, off, none⟩ ∧ r.length = sz ∧ R e r ∧ p.Z b ∧ ∀ f u, r[f]? = some u → p.w.cell? ⟨b, off + k * sz + f, none⟩ = some u := by
  obtain ⟨rows, h1, h2, h3⟩ := h
  have hke := (List.getElem?_eq_some_iff.1 hk).1
  have hl := h1.len.1
  obtain ⟨r, hr⟩ : ∃ r, rows[k]? = some r := ⟨_, List.getElem?_eq_getElem (by omega)⟩
  obtain ⟨e', he, hrl, hR⟩ := h1.at_ hr
  rw [hk] at he
  cases he
  obtain ⟨b, off, hA, hz, hc⟩ := SlS.at_ h3 (k := k) (by omega)
  refine ⟨b, off, r, hA, hrl, hR, hz, fun f u hu => hc f u ?_⟩
  have hf : f < sz := by rw [← hrl]; exact (List.getElem?_eq_some_iff.1 hu).1
  have := flat_get (fun x : List Value => x) sz rows h1.all_len k f r hr hf
  rw [List.flatMap_id'] at this
  rw [this]; exact hu
theorem RsR.len {α : Type} {S : SlP} {R : α → List Value → Prop} {t : TypeId} {sz n : Nat} {A : Option Addr} {es : List α} (h : RsR S R t sz A n es) : n = es.length := by obtain ⟨_, _, h, _⟩ := h; exact h

theorem xk_eqlV {P : Program} {N : Frm} {w0 : World} {e : Env} {R : List Piece} {H : List HP} {Q : Exit → Act → World → Prop} {ops : Array Oper} {rest : List Oper} {d : Nat} {ty : TypeId} {pos : String} {aft : Array Edge} {x y : Operand} {t u : TypeId} {a b : Value} (r : Bool) (hx : e.ev x = some a) (hy : e.ev y = some b)
    (hrun : ∀ (ev : Operand → Value) (w : World), ev x = a → ev y = b → (execOp ev ⟨some d, .binOp .eql t x y u, ty, pos, aft, none⟩).run P w = .ok (.value (.bool r)) w) (hd : d < N.n) (k : XK N w0 (wpList P ops Q rest) ((d, .bool r) :: e) R H) :
    XK N w0 (wpList P ops Q (⟨some d, .binOp .eql t x y u, ty, pos, aft, none⟩ :: rest)) e R H := xk_pure hd (fun a' w hr => hrun _ w (hr.ev hx) (hr.ev hy)) k
theorem shown5_ok (mm : Int) (w : World) (hM : ROc w 0 0 (.int .i64 mm)) :
    Calls Tryz.prog 10 #[] w (Rt (.bool true) w) := by
  refine XK.enter (vs := []) Tryz.func10 rfl Tryz.ntmps10 (by simp) ?_
  refine XK.seq ?_

  refine XK.region ?_
  refine xk_assign rfl (by decide) ?_
  refine XK.nilN ?_
  refine XK.seq ?_

  refine XK.region ?_
  refine xk_call [] (f := 11) (fi := []) (ca := []) (by kernel_rfl) rfl rfl (by decide) (by simp) (fun v w w' => ∃ cs, v = .tuple #[.agg cs, .int .i64 0] ∧ SocR (slq (fresh w w')) shownS cs) (fun w1 st => (parse_ok (strOf shownT) mm w1 ⟨Nat.lt_of_lt_of_le hM.1 (st.below (by simp)).size, hM.go (st.below (by simp))⟩).mono fun y w' h => by
    obtain ⟨⟨cs, h1, h2⟩, h3⟩ := h
    rw [shown_parse] at h1 h2
    exact ⟨⟨_, h1, cs, rfl, h2⟩, h3⟩) ?_
  rintro _ w1 q ⟨_, rfl, A1, n1, c1, A2, n2, c2, A3, n3, c3, A4, n4, c4, rfl, r1, r2, r3, r4⟩ hq _ _
  have hl := slq_le hq
  have r1 := r1.mono hl (fun _ _ => ClkR.mono hl)
  have r2 := r2.mono hl (fun _ _ h => h)
  have r3 := r3.mono hl (fun _ _ h => h)
  have r4 := r4.mono hl (fun _ _ => DevR.mono hl)
  obtain rfl : n1 = 1 := r1.len
  obtain rfl : n2 = 1 := r2.len
  obtain rfl : n3 = 1 := r3.len
  obtain rfl : n4 = 1 := r4.len
  obtain ⟨b1, o1, row1, rfl, _, ⟨Af, nf, kf, rfl, _, _⟩, hz1, hc1⟩ := RsR.rowP r1 (k := 0) rfl
  obtain ⟨b4, o4, row4, rfl, _, ⟨Ar, nr, kr, An, nn, kn, rfl, rfl, _, hreg, _⟩, hz4, hc4⟩ := RsR.rowP r4 (k := 0) rfl
  obtain ⟨br, orr, rfl, hzr, hcr⟩ := hreg.2 (by decide)
  refine xk_move rfl (by decide) ?_
  refine xk_extract rfl rfl (by decide) ?_
  refine xk_extract rfl rfl (by decide) ?_
  refine xk_alloc (cs := [.slice none 0 0, .slice none 0 0, .slice none 0 0, .slice none 0 0]) (zeroB_of (by kernel_rfl)) (by decide) fun g1 => ?_
  (first | (refine xk_storeN 0 rfl rfl rfl (by kernel_rfl) (by simp [Value.cells, Value.oneCell']) (by simp [Value.cells]) ?_) | (refine xk_storeN 1 rfl rfl rfl (by kernel_rfl) (by simp [Value.cells, Value.oneCell']) (by simp [Value.cells]) ?_) | (refine xk_storeN 2 rfl rfl rfl (by kernel_rfl) (by simp [Value.cells, Value.oneCell']) (by simp [Value.cells]) ?_) | (refine xk_storeN 3 rfl rfl rfl (by kernel_rfl) (by simp [Value.cells, Value.oneCell']) (by simp [Value.cells]) ?_) | (refine xk_storeN 4 rfl rfl rfl (by kernel_rfl) (by simp [Value.cells, Value.oneCell']) (by simp [Value.cells]) ?_) | (refine xk_storeN 5 rfl rfl rfl (by kernel_rfl) (by simp [Value.cells, Value.oneCell']) (by simp [Value.cells]) ?_) | (refine xk_storeN 6 rfl rfl rfl (by kernel_rfl) (by simp [Value.cells, Value.oneCell']) (by simp [Value.cells]) ?_) | (refine xk_storeN 7 rfl rfl rfl (by kernel_rfl) (by simp [Value.cells, Value.oneCell']) (by simp [Value.cells]) ?_) | (refine xk_storeN 8 rfl rfl rfl (by kernel_rfl) (by simp [Value.cells, Value.oneCell']) (by simp [Value.cells]) ?_)); simp only [putN, Value.cells, List.set, List.take, List.drop, List.nil_append, List.append_nil, List.length_cons, List.length_nil, List.cons_append, Nat.reduceAdd]
  refine xk_assign rfl (by decide) ?_
  refine XK.nilN ?_
  refine XK.seq ?_

  refine XK.region ?_
  refine xk_move rfl (by decide) ?_
  refine xk_eql rfl rfl (by decide) ?_
  refine xk_move rfl (by decide) ?_
  refine xk_isV (t := 9) true rfl (by first | (exact decide_eq_true (by omega)) | (exact decide_eq_false (by omega)) | rfl | assumption | (simp_all; done)) ?_
  refine xk_guardT rfl rfl ?_; refine xk_field (off := 0) (by kernel_rfl) rfl (by decide) ?_
  refine xk_guardT rfl rfl ?_; refine xk_ld rfl ?_
  refine xk_guardT rfl rfl ?_; refine xk_len (el := 55) (by kernel_rfl) rfl (by decide) ?_
  refine xk_guardT rfl rfl ?_; refine xk_eql rfl rfl (by decide) ?_
  (first | refine xk_pickT rfl rfl (by decide) ?_ | refine xk_pickF rfl rfl (by decide) ?_)
  refine xk_move rfl (by decide) ?_
  refine xk_isV (t := 15) true rfl (by first | (exact decide_eq_true (by omega)) | (exact decide_eq_false (by omega)) | rfl | assumption | (simp_all; done)) ?_
  refine xk_guardT rfl rfl ?_; refine xk_field (off := 0) (by kernel_rfl) rfl (by decide) ?_
  refine xk_guardT rfl rfl ?_; refine xk_ld rfl ?_
  refine xk_guardT rfl rfl ?_; refine xk_at 0 (o1 + 0 * 6) (el := 55) (sz := 6) (by kernel_rfl) (by kernel_rfl) rfl rfl rfl (by decide) (by omega) (by decide) ?_
  refine xk_guardT rfl rfl ?_; refine xk_field (off := 2) (by kernel_rfl) rfl (by decide) ?_
  refine xk_guardT rfl rfl ?_; refine xk_load (by kernel_rfl) rfl (Rd.ro (p := q) (by simp) hz1 (hc1 2 _ rfl)) (by decide) ?_
  refine xk_guardT rfl rfl ?_; refine xk_eql rfl rfl (by decide) ?_
  (first | refine xk_pickT rfl rfl (by decide) ?_ | refine xk_pickF rfl rfl (by decide) ?_)
  refine xk_move rfl (by decide) ?_
  refine xk_isV (t := 23) true rfl (by first | (exact decide_eq_true (by omega)) | (exact decide_eq_false (by omega)) | rfl | assumption | (simp_all; done)) ?_
  refine xk_guardT rfl rfl ?_; refine xk_field (off := 1) (by kernel_rfl) rfl (by decide) ?_
  refine xk_guardT rfl rfl ?_; refine xk_ld rfl ?_
  refine xk_guardT rfl rfl ?_; refine xk_len (el := 69) (by kernel_rfl) rfl (by decide) ?_
  refine xk_guardT rfl rfl ?_; refine xk_eql rfl rfl (by decide) ?_
  (first | refine xk_pickT rfl rfl (by decide) ?_ | refine xk_pickF rfl rfl (by decide) ?_)
  refine xk_move rfl (by decide) ?_
  refine xk_isV (t := 29) true rfl (by first | (exact decide_eq_true (by omega)) | (exact decide_eq_false (by omega)) | rfl | assumption | (simp_all; done)) ?_
  refine xk_guardT rfl rfl ?_; refine xk_field (off := 2) (by kernel_rfl) rfl (by decide) ?_
  refine xk_guardT rfl rfl ?_; refine xk_ld rfl ?_
  refine xk_guardT rfl rfl ?_; refine xk_len (el := 71) (by kernel_rfl) rfl (by decide) ?_
  refine xk_guardT rfl rfl ?_; refine xk_eql rfl rfl (by decide) ?_
  (first | refine xk_pickT rfl rfl (by decide) ?_ | refine xk_pickF rfl rfl (by decide) ?_)
  refine xk_move rfl (by decide) ?_
  refine xk_isV (t := 35) true rfl (by first | (exact decide_eq_true (by omega)) | (exact decide_eq_false (by omega)) | rfl | assumption | (simp_all; done)) ?_
  refine xk_guardT rfl rfl ?_; refine xk_field (off := 3) (by kernel_rfl) rfl (by decide) ?_
  refine xk_guardT rfl rfl ?_; refine xk_ld rfl ?_
  refine xk_guardT rfl rfl ?_; refine xk_len (el := 51) (by kernel_rfl) rfl (by decide) ?_
  refine xk_guardT rfl rfl ?_; refine xk_eql rfl rfl (by decide) ?_
  (first | refine xk_pickT rfl rfl (by decide) ?_ | refine xk_pickF rfl rfl (by decide) ?_)
  refine xk_move rfl (by decide) ?_
  refine xk_isV (t := 41) true rfl (by first | (exact decide_eq_true (by omega)) | (exact decide_eq_false (by omega)) | rfl | assumption | (simp_all; done)) ?_
  refine xk_guardT rfl rfl ?_; refine xk_field (off := 3) (by kernel_rfl) rfl (by decide) ?_
  refine xk_guardT rfl rfl ?_; refine xk_ld rfl ?_
  refine xk_guardT rfl rfl ?_; refine xk_at 0 (o4 + 0 * 6) (el := 51) (sz := 6) (by kernel_rfl) (by kernel_rfl) rfl rfl rfl (by decide) (by omega) (by decide) ?_
  refine xk_guardT rfl rfl ?_; refine xk_field (off := 3) (by kernel_rfl) rfl (by decide) ?_
  refine xk_guardT rfl rfl ?_; refine xk_load (by kernel_rfl) rfl (Rd.ro (p := q) (by simp) hz4 (hc4 3 _ rfl)) (by decide) ?_
  refine xk_guardT rfl rfl ?_; refine xk_eql rfl rfl (by decide) ?_
  (first | refine xk_pickT rfl rfl (by decide) ?_ | refine xk_pickF rfl rfl (by decide) ?_)
  refine xk_move rfl (by decide) ?_
  refine xk_isV (t := 49) true rfl (by first | (exact decide_eq_true (by omega)) | (exact decide_eq_false (by omega)) | rfl | assumption | (simp_all; done)) ?_
  refine xk_guardT rfl rfl ?_; refine xk_field (off := 3) (by kernel_rfl) rfl (by decide) ?_
  refine xk_guardT rfl rfl ?_; refine xk_ld rfl ?_
  refine xk_guardT rfl rfl ?_; refine xk_at 0 (o4 + 0 * 6) (el := 51) (sz := 6) (by kernel_rfl) (by kernel_rfl) rfl rfl rfl (by decide) (by omega) (by decide) ?_
  refine xk_guardT rfl rfl ?_; refine xk_field (off := 4) (by kernel_rfl) rfl (by decide) ?_
  refine xk_guardT rfl rfl ?_; refine xk_load (by kernel_rfl) rfl (Rd.ro (p := q) (by simp) hz4 (hc4 4 _ rfl)) (by decide) ?_
  refine xk_guardT rfl rfl ?_; refine xk_len (el := 57) (by kernel_rfl) rfl (by decide) ?_
  refine xk_guardT rfl rfl ?_; refine xk_eql rfl rfl (by decide) ?_
  (first | refine xk_pickT rfl rfl (by decide) ?_ | refine xk_pickF rfl rfl (by decide) ?_)
  refine xk_move rfl (by decide) ?_
  refine xk_isV (t := 58) true rfl (by first | (exact decide_eq_true (by omega)) | (exact decide_eq_false (by omega)) | rfl | assumption | (simp_all; done)) ?_
  refine xk_guardT rfl rfl ?_; refine xk_field (off := 3) (by kernel_rfl) rfl (by decide) ?_
  refine xk_guardT rfl rfl ?_; refine xk_ld rfl ?_
  refine xk_guardT rfl rfl ?_; refine xk_at 0 (o4 + 0 * 6) (el := 51) (sz := 6) (by kernel_rfl) (by kernel_rfl) rfl rfl rfl (by decide) (by omega) (by decide) ?_
  refine xk_guardT rfl rfl ?_; refine xk_field (off := 4) (by kernel_rfl) rfl (by decide) ?_
  refine xk_guardT rfl rfl ?_; refine xk_load (by kernel_rfl) rfl (Rd.ro (p := q) (by simp) hz4 (hc4 4 _ rfl)) (by decide) ?_
  refine xk_guardT rfl rfl ?_; refine xk_at 0 (orr + 0 * 2) (el := 57) (sz := 2) (by kernel_rfl) (by kernel_rfl) rfl rfl rfl (by decide) (by omega) (by decide) ?_
  refine xk_guardT rfl rfl ?_; refine xk_loadN 2 (by kernel_rfl) rfl (RdN.of (vs := [.int .u32 3, .bool true]) fun j v hv => Rd.ro (p := q) (by simp) hzr (by rw [Nat.add_assoc]; exact hcr (0 * 2 + j) v (by rw [Nat.zero_mul, Nat.zero_add]; exact hv))) rfl (by decide) ?_
  refine xk_guardT rfl rfl ?_; refine xk_buildS (zs := [.int .u32 0, .bool false]) (L := [(0, 1), (1, 1)]) (zeroB_of (by kernel_rfl)) (by kernel_rfl) rfl (by simp [fillL, setN, Value.cells]; rfl) (by decide) ?_
  refine xk_guardT rfl rfl ?_; refine xk_eqlV true rfl rfl (fun ev w h1 h2 => by simp [execOp, h1, h2, run_eqGuard_agg (hm := (by kernel_rfl)), run_eql_struct, run_equalIn_agg (ht := (by kernel_rfl)) (hp := (by kernel_rfl)), go_sem]) (by decide) ?_
  (first | refine xk_pickT rfl rfl (by decide) ?_ | refine xk_pickF rfl rfl (by decide) ?_)
  refine xk_assign rfl (by decide) ?_
  refine XK.nilN ?_
  refine XK.ret ?_
  refine XK.norm ?_
  exact XK.ret1 rfl rfl fun w1 st => ⟨rfl, st.below (by simp)⟩

end Go.Proofs.YtgopaoidgcgalaaGreatDoor
/- chip: a description that is right, of any raw numbers. No condition of ours. -/
namespace Go.Proofs.YtgopaoidgcgalaaGreatDoor
set_option linter.all false
open Go.RowKit

theorem pick5_any (c n : Int) (w : World) (hc : -9223372036854775808 ≤ c ∧ c ≤ 9223372036854775807) (hn : 0 < n) :
    Calls Tryz.prog 20 #[.int .i64 c, .int .i64 n] w fun x w' => (∃ v, x = .returned v ∧ ∃ r : Int, v = .int .i64 r ∧ 0 ≤ r ∧ r < n) ∧ Below w.heap.size w w' := by
  refine XK.enter (vs := [.int .i64 c, .int .i64 n]) Tryz.func20 rfl Tryz.ntmps20 (by simp) ?_
  refine XK.seq ?_
  refine XK.region ?_
  refine xk_assign rfl (by decide) ?_
  refine XK.nilN ?_
  refine XK.cut (fun e R H => ∃ c : Int, 0 ≤ c ∧ e = [(0, .int .i64 c), (1, .int .i64 n)] ∧ R = [all w] ∧ H = []) ?_ ?_
  · refine XK.seq ?_
    refine XK.region ?_
    refine xk_move rfl (by decide) ?_
    refine xk_lss rfl rfl (by decide) ?_
    refine XK.nilN ?_
    refine XK.if_ rfl (fun h => ?_) (fun h => ?_)
    · refine XK.region ?_
      refine xk_move rfl (by decide) ?_
      refine xk_add rfl rfl (wrap_in (by omega)) (by decide) ?_
      refine xk_neg rfl (wrap_in (by omega)) (by decide) ?_
      refine xk_assign rfl (by decide) ?_
      refine XK.nilN ?_
      exact XK.envS [(0, .int .i64 (0 - (c + 1))), (1, .int .i64 n)] (XK.meet ⟨_, by omega, rfl, rfl, rfl⟩)
    · refine XK.skip ?_
      refine XK.norm ?_
      exact XK.envS [(0, .int .i64 c), (1, .int .i64 n)] (XK.meet ⟨_, by omega, rfl, rfl, rfl⟩)
  rintro _ _ _ ⟨c, hc0, rfl, rfl, rfl⟩
  refine XK.seq ?_
  refine XK.region ?_
  refine xk_move rfl (by decide) ?_
  refine xk_move rfl (by decide) ?_
  refine xk_rem rfl rfl (by omega) (rem_in (by omega)) (by decide) ?_
  refine xk_assign rfl (by decide) ?_
  refine XK.nilN ?_
  refine XK.ret ?_
  refine XK.norm ?_
  exact XK.ret1 rfl rfl fun w' st => ⟨⟨_, rfl, _, rfl, Int.emod_nonneg _ (by omega), Int.emod_lt_of_pos _ hn⟩, st.below (by simp)⟩

set_option maxRecDepth 100000 in
set_option maxHeartbeats 4000000 in
theorem chip5_any (A : Option Addr) (n c : Nat) (zs : List Int) (w : World) (h0 : SlS (all w) 1 A n (intCells zs)) (hz : I64s zs) (hn : n = zs.length) (hn2 : n ≤ 9223372036854775807) :
    Calls Tryz.prog 19 #[.slice A n c] w fun x w' => (∃ v, x = .returned v ∧ ∃ cs s, v = .agg cs ∧ SocR (slq (fresh w w')) s cs ∧ s.made) ∧ Below w.heap.size w w' := by
  refine XK.enter (vs := [.slice A n c]) Tryz.func19 rfl Tryz.ntmps19 (by simp) ?_
  refine XK.seq ?_

  refine XK.region ?_
  refine xk_alloc (cs := [.slice none 0 0, .slice none 0 0, .slice none 0 0, .slice none 0 0]) (zeroB_of (by kernel_rfl)) (by decide) fun g1 => ?_
  refine XK.nilN ?_
  refine XK.seq ?_

  refine XK.region ?_
  refine xk_assign rfl (by decide) ?_
  refine XK.nilN ?_
  refine XK.seq ?_

  refine XK.region ?_
  refine xk_makeT 8 (n := 120) (el := 3) (z := .int .i64 0) (by kernel_rfl) (by kernel_rfl) rfl rfl rfl (by omega) (by omega) (by decide) fun g2 => ?_
  refine xk_assign rfl (by decide) ?_
  refine XK.nilN ?_
  refine XK.cut (fun e R H => ∃ ds, Draw ds ∧ e = [(4, .slice (some ⟨g2, 0, none⟩) 120 120), (2, .pointer (some ⟨g1, 0, none⟩))] ∧ R = [all w] ∧ H = [HP.blk g2 3 (intCells ds), HP.blk g1 28 [.slice none 0 0, .slice none 0 0, .slice none 0 0, .slice none 0 0]]) ?_ ?_
  ·
    refine XK.seq ?_

    refine XK.region ?_
    refine xk_assign rfl (by decide) ?_
    refine XK.nilN ?_
    refine XK.envS [(5, .int .i64 0), (4, .slice (some ⟨g2, 0, none⟩) 120 120), (2, .pointer (some ⟨g1, 0, none⟩)), (0, .slice A n c)] ?_
    refine XK.block ?_
    refine XK.loop (fun m e R H => ∃ (k : Nat) (ds : List Int), Draw ds ∧ k ≤ 120 ∧ m = 120 - k ∧ e = [(5, .int .i64 k), (4, .slice (some ⟨g2, 0, none⟩) 120 120), (2, .pointer (some ⟨g1, 0, none⟩)), (0, .slice A n c)] ∧ R = [all w] ∧ H = [HP.blk g2 3 (intCells ds), HP.blk g1 28 [.slice none 0 0, .slice none 0 0, .slice none 0 0, .slice none 0 0]]) 120 ⟨0, List.replicate 120 0, Draw.zero, by omega, rfl, rfl, rfl, by simp [intCells]⟩ fun m e R H hI => ?_
    obtain ⟨k, ds, hd, hk, rfl, rfl, rfl, rfl⟩ := hI
    refine XK.seq ?_
    refine XK.seq ?_

    refine XK.region ?_
    refine xk_move rfl (by decide) ?_
    refine xk_move rfl (by decide) ?_
    refine xk_len (el := 3) (by kernel_rfl) rfl (by decide) ?_
    refine xk_lss rfl rfl (by decide) ?_
    refine xk_move rfl (by decide) ?_
    refine xk_split (t := 23) rfl (fun hg => ?_) (fun hg => ?_)
    ·
      refine xk_guardT rfl rfl ?_; refine xk_move rfl (by decide) ?_
      refine xk_guardT rfl rfl ?_; refine xk_len (el := 3) (by kernel_rfl) rfl (by decide) ?_
      refine xk_guardT rfl rfl ?_; refine xk_gtr rfl rfl (by decide) ?_
      (first | refine xk_pickT rfl rfl (by decide) ?_ | refine xk_pickF rfl rfl (by decide) ?_)
      refine XK.nilN ?_
      refine XK.if_ rfl (fun h => ?_) (fun h => ?_)
      ·
        refine XK.skip ?_
        refine XK.norm ?_
        refine XK.seq ?_
        refine XK.block ?_
        have hk2 : k < 120 := by omega
        have hn0 : 0 < n := by omega
        obtain ⟨b, off, rfl, hzb, hc⟩ := h0.2 hn0
        have hkn : ((k % n : Nat) : Int) = (k : Int) % (n : Int) := Int.natCast_emod k n
        have hkl : k % n < n := Nat.mod_lt _ hn0
        have hdv : ((k / n : Nat) : Int) = (k : Int) / (n : Int) := Int.natCast_ediv k n
        have hdl : k / n ≤ k := Nat.div_le_self _ _
        have hdb : 0 ≤ (k : Int) / (n : Int) ∧ (k : Int) / (n : Int) ≤ k := ⟨Int.ediv_nonneg (by omega) (by omega), by have h2 : ((k / n : Nat) : Int) ≤ (k : Int) := Int.ofNat_le.2 hdl; rwa [hdv] at h2⟩
        have hrd : ∀ H, Rd w [all w] H b (off + k % n) (.int .i64 (zs[k % n]?.getD 0)) := fun H => Rd.ro (p := all w) (by simp) hzb (by exact hc _ _ (intCells_get zs _ (by omega)))
        have hzz := hz (k % n)
        have hyb := tdiv_bd (z := zs[k % n]?.getD 0) (d := 1 + (k : Int) / (n : Int)) (lo := -9223372036854775808) (hi := 9223372036854775807) (by omega) (by omega) (by omega) hzz

        refine XK.draw 16 (by kernel_rfl) (by kernel_rfl) ?_
        refine XA.dA 0 rfl rfl rfl (does_move rfl) ?_
        refine XA.dA 1 rfl rfl rfl (does_move rfl) ?_
        refine XA.dA 2 rfl rfl rfl (does_move rfl) ?_
        refine XA.dA 3 rfl rfl rfl (does_move rfl) ?_
        refine XA.dA 4 rfl rfl rfl (does_move rfl) ?_
        refine XA.dA 5 rfl rfl rfl (does_len (el := 3) (by kernel_rfl) rfl) ?_
        refine XA.dA 6 rfl rfl rfl (does_rem rfl rfl (by omega) (rem_in (by omega))) ?_
        refine XA.dA 7 rfl rfl rfl (does_at (k % n) (off + k % n) (el := 3) (sz := 1) (by kernel_rfl) (by kernel_rfl) rfl rfl hkn.symm hkl (by omega)) ?_
        refine XA.dA 8 rfl rfl rfl (does_load (by kernel_rfl) rfl (hrd _)) ?_
        refine XA.dA 9 rfl rfl rfl (does_move rfl) ?_
        refine XA.dA 10 rfl rfl rfl (does_move rfl) ?_
        refine XA.dA 11 rfl rfl rfl (does_len (el := 3) (by kernel_rfl) rfl) ?_
        refine XA.dA 12 rfl rfl rfl (does_quo rfl rfl (by omega) (quo_in (by omega) (by omega) (by omega))) ?_
        refine XA.dA 13 rfl rfl rfl (does_add rfl rfl (wrap_in (by omega))) ?_
        refine XA.dA 14 rfl rfl rfl (does_quo rfl rfl (by omega) (wrap_in hyb)) ?_
        refine XA.next 15 rfl (by kernel_rfl) ?_
        refine xk_callV (f := 20) (fi := []) (ca := []) (by kernel_rfl) rfl rfl (by decide) (fun v => ∃ r : Int, v = .int .i64 r ∧ 0 ≤ r ∧ r < 1000000) (fun w1 st => pick5_any _ _ w1 hyb (by omega)) fun v hv => ?_
        obtain ⟨r, rfl, hr0, hr1⟩ := hv
        refine XA.bk ?_
        refine XA.next 16 rfl (by kernel_rfl) ?_
        refine xk_at k k (el := 3) (sz := 1) (by kernel_rfl) (by kernel_rfl) rfl rfl rfl hk2 (by omega) (by decide) ?_
        refine XA.bt ?_
        refine XA.next 17 rfl (by kernel_rfl) ?_
        refine xk_store 0 rfl (by kernel_rfl) rfl rfl rfl (by simp [intCells, hd.1]; omega) ?_
        refine XA.bt ?_
        refine XA.done (by kernel_rfl) ?_
        refine XK.norm ?_

        refine XK.region ?_
        refine xk_move rfl (by decide) ?_
        refine xk_add rfl rfl (wrap_in (by omega)) (by decide) ?_
        refine xk_assign rfl (by decide) ?_
        refine XK.nilN ?_
        exact XK.envS [(5, .int .i64 (k + 1)), (4, .slice (some ⟨g2, 0, none⟩) 120 120), (2, .pointer (some ⟨g1, 0, none⟩)), (0, .slice (some ⟨b, off, none⟩) n c)] (XK.round (120 - (k + 1)) (by omega) ⟨k + 1, ds.set k r, hd.set_ k hr0 hr1, by omega, rfl, rfl, rfl, by simp [intCells, List.map_set]⟩)
      ·
        refine XK.exit ?_
        refine XK.norm ?_
        exact XK.envS [(4, .slice (some ⟨g2, 0, none⟩) 120 120), (2, .pointer (some ⟨g1, 0, none⟩))] (XK.meet ⟨ds, hd, rfl, rfl, rfl⟩)
    ·
      refine xk_guardF rfl rfl rfl (by decide) ?_
      refine xk_guardF rfl rfl rfl (by decide) ?_
      refine xk_guardF rfl rfl rfl (by decide) ?_
      (first | refine xk_pickT rfl rfl (by decide) ?_ | refine xk_pickF rfl rfl (by decide) ?_)
      refine XK.nilN ?_
      refine XK.cond rfl (fun h => by cases h) (fun _ => ?_)
      refine XK.exit ?_
      refine XK.norm ?_
      exact XK.envS [(4, .slice (some ⟨g2, 0, none⟩) 120 120), (2, .pointer (some ⟨g1, 0, none⟩))] (XK.meet ⟨ds, hd, rfl, rfl, rfl⟩)
  rintro _ _ _ ⟨ds, hd, rfl, rfl, rfl⟩
  have dd := hd.at_
  have b0 := hd.bd 0
  have b1 := hd.bd 1
  refine XK.seq ?_

  refine XK.region ?_
  refine xk_move rfl (by decide) ?_
  refine xk_at 0 0 (el := 3) (sz := 1) (by kernel_rfl) (by kernel_rfl) rfl rfl (by rfl) (by omega) (by omega) (by decide) ?_
  refine xk_load (by kernel_rfl) rfl (by first | assumption | exact Rd.blk 0 rfl (dd _ (by omega)) | exact Rd.blk 1 rfl (dd _ (by omega)) | exact Rd.blk 2 rfl (dd _ (by omega)) | exact Rd.blk 3 rfl (dd _ (by omega)) | exact Rd.blk 4 rfl (dd _ (by omega)) | exact Rd.blk 5 rfl (dd _ (by omega)) | exact Rd.blk 6 rfl (dd _ (by omega)) | exact Rd.blk 7 rfl (dd _ (by omega)) | exact Rd.blk 8 rfl (dd _ (by omega)) | exact Rd.blk 9 rfl (dd _ (by omega)) | exact Rd.blk 0 rfl rfl | exact Rd.blk 1 rfl rfl | exact Rd.blk 2 rfl rfl | exact Rd.blk 3 rfl rfl | exact Rd.blk 4 rfl rfl | exact Rd.blk 5 rfl rfl | exact Rd.blk 6 rfl rfl | exact Rd.blk 7 rfl rfl | exact Rd.blk 8 rfl rfl | exact Rd.blk 9 rfl rfl) (by decide) ?_
  refine xk_add rfl rfl (wrap_in (by omega)) (by decide) ?_
  refine xk_conv (ds := .int .i64) (by kernel_rfl) (by kernel_rfl) rfl (wrap_u64 (by omega)) (by decide) ?_
  refine xk_buildS (zs := [.int .u8 0, .slice none 0 0, .int .u64 0, .int .i64 0, .int .i64 0, .int .i64 0]) (L := [(0, 1), (1, 1), (2, 1), (3, 1), (4, 1), (5, 1)]) (zeroB_of (by kernel_rfl)) (by kernel_rfl) rfl (by simp [fillL, setN, Value.cells]; rfl) (by decide) ?_
  refine xk_slice (el := 55) (sz := 6) (zs := [.int .u8 0, .slice none 0 0, .int .u64 0, .int .i64 0, .int .i64 0, .int .i64 0]) (by kernel_rfl) (zeroB_of (by kernel_rfl)) (by kernel_rfl) rfl (by decide) (by decide) rfl (by simp [fillL, setN, Value.cells, List.range_succ, List.set]; rfl) (by decide) fun g3 => ?_
  refine xk_buildS (zs := [.slice none 0 0, .slice none 0 0, .slice none 0 0, .slice none 0 0]) (L := [(0, 1), (1, 1), (2, 1), (3, 1)]) (zeroB_of (by kernel_rfl)) (by kernel_rfl) rfl (by simp [fillL, setN, Value.cells]; rfl) (by decide) ?_
  refine xk_alloc (cs := [.slice none 0 0, .slice none 0 0, .slice none 0 0, .slice none 0 0]) (zeroB_of (by kernel_rfl)) (by decide) fun g4 => ?_
  (first | (refine xk_storeN 0 rfl rfl rfl (by kernel_rfl) (by simp [Value.cells, Value.oneCell']) (by simp [Value.cells]) ?_) | (refine xk_storeN 1 rfl rfl rfl (by kernel_rfl) (by simp [Value.cells, Value.oneCell']) (by simp [Value.cells]) ?_) | (refine xk_storeN 2 rfl rfl rfl (by kernel_rfl) (by simp [Value.cells, Value.oneCell']) (by simp [Value.cells]) ?_) | (refine xk_storeN 3 rfl rfl rfl (by kernel_rfl) (by simp [Value.cells, Value.oneCell']) (by simp [Value.cells]) ?_) | (refine xk_storeN 4 rfl rfl rfl (by kernel_rfl) (by simp [Value.cells, Value.oneCell']) (by simp [Value.cells]) ?_) | (refine xk_storeN 5 rfl rfl rfl (by kernel_rfl) (by simp [Value.cells, Value.oneCell']) (by simp [Value.cells]) ?_) | (refine xk_storeN 6 rfl rfl rfl (by kernel_rfl) (by simp [Value.cells, Value.oneCell']) (by simp [Value.cells]) ?_) | (refine xk_storeN 7 rfl rfl rfl (by kernel_rfl) (by simp [Value.cells, Value.oneCell']) (by simp [Value.cells]) ?_) | (refine xk_storeN 8 rfl rfl rfl (by kernel_rfl) (by simp [Value.cells, Value.oneCell']) (by simp [Value.cells]) ?_)); simp only [putN, Value.cells, List.set, List.take, List.drop, List.nil_append, List.append_nil, List.length_cons, List.length_nil, List.cons_append, Nat.reduceAdd]
  refine XK.nilN ?_
  refine XK.seq ?_

  refine XK.region ?_
  refine xk_assign rfl (by decide) ?_
  refine XK.nilN ?_
  refine XK.seq ?_

  refine XK.region ?_
  refine xk_assign rfl (by decide) ?_
  refine XK.nilN ?_
  refine XK.cut (fun e R H => ∃ (cs : List Clk) (A1 : Option Addr) (c1 : Nat) (q : Piece) (rows1 : List (List Value)), 1 ≤ cs.length ∧ cs.length ≤ 9 ∧ Fits Clk.fit cs ∧ Rows (ClkR (slq q)) 6 cs rows1 ∧ Fresh w q ∧ e = [(6, .pointer (some ⟨g4, 0, none⟩)), (4, .slice (some ⟨g2, 0, none⟩) 120 120), (2, .pointer (some ⟨g1, 0, none⟩))] ∧ R = [q, all w] ∧ H = [HP.blk g4 28 [.slice A1 cs.length c1, .slice none 0 0, .slice none 0 0, .slice none 0 0], HP.own 55 6 (.slice A1 cs.length c1) cs.length rows1.flatten, HP.blk g2 3 (intCells ds), HP.blk g1 28 [.slice none 0 0, .slice none 0 0, .slice none 0 0, .slice none 0 0]]) ?_ ?_
  ·
    refine XK.seq ?_

    refine XK.region ?_
    refine xk_assign rfl (by decide) ?_
    refine XK.nilN ?_
    refine XK.asOwn 1 6 1 rfl rfl (by omega) ?_
    refine XK.still [] [] [0, 1, 2, 3] (by simp) rfl (by decide) (by simp) fun q _ _ hqn => ?_
    have hq := hqn (by simp) (by simp)
    refine XK.envS [(8, .int .i64 0), (3, .int .i64 1), (7, .string ⟨#[112, 100, 103, 109, 103]⟩), (6, .pointer (some ⟨g4, 0, none⟩)), (4, .slice (some ⟨g2, 0, none⟩) 120 120), (2, .pointer (some ⟨g1, 0, none⟩))] ?_
    refine XK.block ?_
    refine XK.loop (fun m e R H => ∃ (k : Nat) (cs : List Clk) (A1 : Option Addr) (c1 : Nat) (q : Piece) (rows1 : List (List Value)), (k : Int) ≤ dv ds 1 % 9 ∧ m = 9 - k ∧ cs.length = k + 1 ∧ Fits Clk.fit cs ∧ Rows (ClkR (slq q)) 6 cs rows1 ∧ Fresh w q ∧ e = [(8, .int .i64 k), (3, .int .i64 1), (7, .string ⟨#[112, 100, 103, 109, 103]⟩), (6, .pointer (some ⟨g4, 0, none⟩)), (4, .slice (some ⟨g2, 0, none⟩) 120 120), (2, .pointer (some ⟨g1, 0, none⟩))] ∧ R = [q, all w] ∧ H = [HP.blk g4 28 [.slice A1 cs.length c1, .slice none 0 0, .slice none 0 0, .slice none 0 0], HP.own 55 6 (.slice A1 cs.length c1) cs.length rows1.flatten, HP.blk g2 3 (intCells ds), HP.blk g1 28 [.slice none 0 0, .slice none 0 0, .slice none 0 0, .slice none 0 0]]) 9 ⟨0, [⟨111, [], 1 + dv ds 0, 0, 0, 0⟩], some ⟨g3, 0, none⟩, 1, q, [[.int .u8 111, .slice none 0 0, .int .u64 (1 + dv ds 0), .int .i64 0, .int .i64 0, .int .i64 0]], by omega, rfl, rfl, (Fits.nil Clk.fit).snoc ⟨by simp, .inl ⟨rfl, rfl, by dsimp only; omega, by dsimp only; omega, rfl, rfl, rfl⟩⟩, ⟨rfl, ⟨none, 0, 0, rfl, rfl, SlS.nil _ _⟩, trivial⟩, hq, rfl, rfl, rfl⟩ fun m e R H hI => ?_
    obtain ⟨k, cs, A1, c1, q, rows1, hk, rfl, hcl, hcf, hcr, hq, rfl, rfl, rfl⟩ := hI
    refine XK.seq ?_
    refine XK.seq ?_

    refine XK.region ?_
    refine xk_move rfl (by decide) ?_
    refine xk_move rfl (by decide) ?_
    refine xk_move rfl (by decide) ?_
    refine xk_at 1 1 (el := 3) (sz := 1) (by kernel_rfl) (by kernel_rfl) rfl rfl (by omega) (by omega) (by omega) (by decide) ?_
    refine xk_load (by kernel_rfl) rfl (by first | assumption | exact Rd.blk 0 rfl (dd _ (by omega)) | exact Rd.blk 1 rfl (dd _ (by omega)) | exact Rd.blk 2 rfl (dd _ (by omega)) | exact Rd.blk 3 rfl (dd _ (by omega)) | exact Rd.blk 4 rfl (dd _ (by omega)) | exact Rd.blk 5 rfl (dd _ (by omega)) | exact Rd.blk 6 rfl (dd _ (by omega)) | exact Rd.blk 7 rfl (dd _ (by omega)) | exact Rd.blk 8 rfl (dd _ (by omega)) | exact Rd.blk 9 rfl (dd _ (by omega)) | exact Rd.blk 0 rfl rfl | exact Rd.blk 1 rfl rfl | exact Rd.blk 2 rfl rfl | exact Rd.blk 3 rfl rfl | exact Rd.blk 4 rfl rfl | exact Rd.blk 5 rfl rfl | exact Rd.blk 6 rfl rfl | exact Rd.blk 7 rfl rfl | exact Rd.blk 8 rfl rfl | exact Rd.blk 9 rfl rfl) (by decide) ?_
    refine xk_rem rfl rfl (by omega) (rem_in (by omega)) (by decide) ?_
    refine xk_lss rfl rfl (by decide) ?_
    refine XK.nilN ?_
    refine XK.if_ rfl (fun h => ?_) (fun h => ?_)
    ·
      refine XK.skip ?_
      refine XK.norm ?_
      refine XK.seq ?_
      have hk2 : k < 9 := by omega
      have hcp : (0 : Int) < cs.length := by omega
      have b2 := hd.bd (10 + 3 * k)
      have b3 := hd.bd (11 + 3 * k)
      have b4 := hd.bd (12 + 3 * k)
      have f0 := emod_bd (dv ds (11 + 3 * k)) hcp
      have f1 := emod_bd (dv ds (12 + 3 * k)) hcp
      have m5 := emod_bd (dv ds (10 + 3 * k)) (n := 5) (by omega)
      obtain ⟨kb, hkb, hkb2⟩ := kinds_at (q := (dv ds (10 + 3 * k) % 5).toNat) (by omega)
      refine XK.block ?_
      refine XK.seq ?_

      refine XK.region ?_
      refine xk_move rfl (by decide) ?_
      refine xk_mul rfl rfl (wrap_in (by omega)) (by decide) ?_
      refine xk_add rfl rfl (wrap_in (by omega)) (by decide) ?_
      refine xk_assign rfl (by decide) ?_
      refine XK.nilN ?_
      refine XK.cut (fun e R H => ∃ gC gF, e = [(10, .pointer (some ⟨gC, 0, none⟩)), (9, .int .i64 (10 + 3 * k)), (8, .int .i64 k), (3, .int .i64 1), (7, .string ⟨#[112, 100, 103, 109, 103]⟩), (6, .pointer (some ⟨g4, 0, none⟩)), (4, .slice (some ⟨g2, 0, none⟩) 120 120), (2, .pointer (some ⟨g1, 0, none⟩))] ∧ R = [q, all w] ∧ H = [HP.blk gC 55 [.int .u8 kb.toNat, .slice (some ⟨gF, 0, none⟩) 1 1, .int .u64 0, .int .i64 0, .int .i64 0, .int .i64 0], HP.blk gF 3 [.int .i64 (dv ds (11 + 3 * k) % cs.length)], HP.blk g4 28 [.slice A1 cs.length c1, .slice none 0 0, .slice none 0 0, .slice none 0 0], HP.own 55 6 (.slice A1 cs.length c1) cs.length rows1.flatten, HP.blk g2 3 (intCells ds), HP.blk g1 28 [.slice none 0 0, .slice none 0 0, .slice none 0 0, .slice none 0 0]]) ?_ ?_
      ·

        refine XK.draw 19 (by kernel_rfl) (by kernel_rfl) ?_
        refine XA.dA 0 rfl rfl rfl (does_move rfl) ?_
        refine XA.dA 1 rfl rfl rfl (does_move rfl) ?_
        refine XA.dA 2 rfl rfl rfl (does_move rfl) ?_
        refine XA.dA 3 rfl rfl rfl (does_at (10 + 3 * k) (10 + 3 * k) (el := 3) (sz := 1) (by kernel_rfl) (by kernel_rfl) rfl rfl (by omega) (by omega) (by omega)) ?_
        refine XA.dA 4 rfl rfl rfl (does_load (by kernel_rfl) rfl (by first | assumption | exact Rd.blk 0 rfl (dd _ (by omega)) | exact Rd.blk 1 rfl (dd _ (by omega)) | exact Rd.blk 2 rfl (dd _ (by omega)) | exact Rd.blk 3 rfl (dd _ (by omega)) | exact Rd.blk 4 rfl (dd _ (by omega)) | exact Rd.blk 5 rfl (dd _ (by omega)) | exact Rd.blk 6 rfl (dd _ (by omega)) | exact Rd.blk 7 rfl (dd _ (by omega)) | exact Rd.blk 8 rfl (dd _ (by omega)) | exact Rd.blk 9 rfl (dd _ (by omega)) | exact Rd.blk 0 rfl rfl | exact Rd.blk 1 rfl rfl | exact Rd.blk 2 rfl rfl | exact Rd.blk 3 rfl rfl | exact Rd.blk 4 rfl rfl | exact Rd.blk 5 rfl rfl | exact Rd.blk 6 rfl rfl | exact Rd.blk 7 rfl rfl | exact Rd.blk 8 rfl rfl | exact Rd.blk 9 rfl rfl)) ?_
        refine XA.dA 5 rfl rfl rfl (does_rem rfl rfl (by omega) (rem_in (by omega))) ?_
        refine XA.dA 6 rfl rfl rfl (does_byte (dv ds (10 + 3 * k) % 5).toNat (by kernel_rfl) rfl rfl (by omega) hkb) ?_
        refine XA.dA 7 rfl rfl rfl (does_move rfl) ?_
        refine XA.dA 8 rfl rfl rfl (does_move rfl) ?_
        refine XA.dA 9 rfl rfl rfl (does_add rfl rfl (wrap_in (by omega))) ?_
        refine XA.dA 10 rfl rfl rfl (does_at (11 + 3 * k) (11 + 3 * k) (el := 3) (sz := 1) (by kernel_rfl) (by kernel_rfl) rfl rfl (by omega) (by omega) (by omega)) ?_
        refine XA.dA 11 rfl rfl rfl (does_load (by kernel_rfl) rfl (by first | assumption | exact Rd.blk 0 rfl (dd _ (by omega)) | exact Rd.blk 1 rfl (dd _ (by omega)) | exact Rd.blk 2 rfl (dd _ (by omega)) | exact Rd.blk 3 rfl (dd _ (by omega)) | exact Rd.blk 4 rfl (dd _ (by omega)) | exact Rd.blk 5 rfl (dd _ (by omega)) | exact Rd.blk 6 rfl (dd _ (by omega)) | exact Rd.blk 7 rfl (dd _ (by omega)) | exact Rd.blk 8 rfl (dd _ (by omega)) | exact Rd.blk 9 rfl (dd _ (by omega)) | exact Rd.blk 0 rfl rfl | exact Rd.blk 1 rfl rfl | exact Rd.blk 2 rfl rfl | exact Rd.blk 3 rfl rfl | exact Rd.blk 4 rfl rfl | exact Rd.blk 5 rfl rfl | exact Rd.blk 6 rfl rfl | exact Rd.blk 7 rfl rfl | exact Rd.blk 8 rfl rfl | exact Rd.blk 9 rfl rfl)) ?_
        refine XA.dA 12 rfl rfl rfl (does_field (off := 0) (by kernel_rfl) rfl) ?_
        refine XA.dA 13 rfl rfl rfl (does_load (by kernel_rfl) rfl (by first | assumption | exact Rd.blk 0 rfl (dd _ (by omega)) | exact Rd.blk 1 rfl (dd _ (by omega)) | exact Rd.blk 2 rfl (dd _ (by omega)) | exact Rd.blk 3 rfl (dd _ (by omega)) | exact Rd.blk 4 rfl (dd _ (by omega)) | exact Rd.blk 5 rfl (dd _ (by omega)) | exact Rd.blk 6 rfl (dd _ (by omega)) | exact Rd.blk 7 rfl (dd _ (by omega)) | exact Rd.blk 8 rfl (dd _ (by omega)) | exact Rd.blk 9 rfl (dd _ (by omega)) | exact Rd.blk 0 rfl rfl | exact Rd.blk 1 rfl rfl | exact Rd.blk 2 rfl rfl | exact Rd.blk 3 rfl rfl | exact Rd.blk 4 rfl rfl | exact Rd.blk 5 rfl rfl | exact Rd.blk 6 rfl rfl | exact Rd.blk 7 rfl rfl | exact Rd.blk 8 rfl rfl | exact Rd.blk 9 rfl rfl)) ?_
        refine XA.dA 14 rfl rfl rfl (does_len (el := 55) (by kernel_rfl) rfl) ?_
        refine XA.dA 15 rfl rfl rfl (does_rem rfl rfl (by omega) (rem_in (by omega))) ?_
        refine XA.either 16 18 rfl rfl (by kernel_rfl) ?_ ?_
        · refine xk_slice (el := 3) (sz := 1) (zs := [.int .i64 0]) (by kernel_rfl) (zeroB_of (by kernel_rfl)) (by kernel_rfl) rfl (by decide) (by decide) rfl (by simp [fillL, setN, Value.cells, List.range_succ, List.set]; rfl) (by decide) fun g5 => ?_
          refine XA.bk ?_
          refine XA.dA 17 rfl rfl rfl (does_buildS (zs := [.int .u8 0, .slice none 0 0, .int .u64 0, .int .i64 0, .int .i64 0, .int .i64 0]) (L := [(0, 1), (1, 1), (2, 1), (3, 1), (4, 1), (5, 1)]) (zeroB_of (by kernel_rfl)) (by kernel_rfl) rfl (by simp [fillL, setN, Value.cells]; rfl)) ?_
          refine XA.next 18 rfl (by kernel_rfl) ?_
          refine xk_alloc (cs := [.int .u8 0, .slice none 0 0, .int .u64 0, .int .i64 0, .int .i64 0, .int .i64 0]) (zeroB_of (by kernel_rfl)) (by decide) fun g6 => ?_
          refine XA.bk ?_
          refine XA.next 19 rfl (by kernel_rfl) ?_
          (first | (refine xk_storeN 0 rfl rfl rfl (by kernel_rfl) (by simp [Value.cells, Value.oneCell']) (by simp [Value.cells]) ?_) | (refine xk_storeN 1 rfl rfl rfl (by kernel_rfl) (by simp [Value.cells, Value.oneCell']) (by simp [Value.cells]) ?_) | (refine xk_storeN 2 rfl rfl rfl (by kernel_rfl) (by simp [Value.cells, Value.oneCell']) (by simp [Value.cells]) ?_) | (refine xk_storeN 3 rfl rfl rfl (by kernel_rfl) (by simp [Value.cells, Value.oneCell']) (by simp [Value.cells]) ?_) | (refine xk_storeN 4 rfl rfl rfl (by kernel_rfl) (by simp [Value.cells, Value.oneCell']) (by simp [Value.cells]) ?_) | (refine xk_storeN 5 rfl rfl rfl (by kernel_rfl) (by simp [Value.cells, Value.oneCell']) (by simp [Value.cells]) ?_) | (refine xk_storeN 6 rfl rfl rfl (by kernel_rfl) (by simp [Value.cells, Value.oneCell']) (by simp [Value.cells]) ?_) | (refine xk_storeN 7 rfl rfl rfl (by kernel_rfl) (by simp [Value.cells, Value.oneCell']) (by simp [Value.cells]) ?_) | (refine xk_storeN 8 rfl rfl rfl (by kernel_rfl) (by simp [Value.cells, Value.oneCell']) (by simp [Value.cells]) ?_)); simp only [putN, Value.cells, List.set, List.take, List.drop, List.nil_append, List.append_nil, List.length_cons, List.length_nil, List.cons_append, Nat.reduceAdd]
          refine XA.bt ?_
          refine XA.done (by kernel_rfl) ?_
          refine XK.norm ?_
          exact XK.envS [(10, .pointer (some ⟨g6, 0, none⟩)), (9, .int .i64 (10 + 3 * k)), (8, .int .i64 k), (3, .int .i64 1), (7, .string ⟨#[112, 100, 103, 109, 103]⟩), (6, .pointer (some ⟨g4, 0, none⟩)), (4, .slice (some ⟨g2, 0, none⟩) 120 120), (2, .pointer (some ⟨g1, 0, none⟩))] (XK.meet ⟨_, _, rfl, rfl, rfl⟩)
        · refine xk_alloc (cs := [.int .u8 0, .slice none 0 0, .int .u64 0, .int .i64 0, .int .i64 0, .int .i64 0]) (zeroB_of (by kernel_rfl)) (by decide) fun g6 => ?_
          refine XA.bk ?_
          refine XA.next 16 rfl (by kernel_rfl) ?_
          refine xk_slice (el := 3) (sz := 1) (zs := [.int .i64 0]) (by kernel_rfl) (zeroB_of (by kernel_rfl)) (by kernel_rfl) rfl (by decide) (by decide) rfl (by simp [fillL, setN, Value.cells, List.range_succ, List.set]; rfl) (by decide) fun g5 => ?_
          refine XA.bk ?_
          refine XA.dA 17 rfl rfl rfl (does_buildS (zs := [.int .u8 0, .slice none 0 0, .int .u64 0, .int .i64 0, .int .i64 0, .int .i64 0]) (L := [(0, 1), (1, 1), (2, 1), (3, 1), (4, 1), (5, 1)]) (zeroB_of (by kernel_rfl)) (by kernel_rfl) rfl (by simp [fillL, setN, Value.cells]; rfl)) ?_
          refine XA.next 19 rfl (by kernel_rfl) ?_
          (first | (refine xk_storeN 0 rfl rfl rfl (by kernel_rfl) (by simp [Value.cells, Value.oneCell']) (by simp [Value.cells]) ?_) | (refine xk_storeN 1 rfl rfl rfl (by kernel_rfl) (by simp [Value.cells, Value.oneCell']) (by simp [Value.cells]) ?_) | (refine xk_storeN 2 rfl rfl rfl (by kernel_rfl) (by simp [Value.cells, Value.oneCell']) (by simp [Value.cells]) ?_) | (refine xk_storeN 3 rfl rfl rfl (by kernel_rfl) (by simp [Value.cells, Value.oneCell']) (by simp [Value.cells]) ?_) | (refine xk_storeN 4 rfl rfl rfl (by kernel_rfl) (by simp [Value.cells, Value.oneCell']) (by simp [Value.cells]) ?_) | (refine xk_storeN 5 rfl rfl rfl (by kernel_rfl) (by simp [Value.cells, Value.oneCell']) (by simp [Value.cells]) ?_) | (refine xk_storeN 6 rfl rfl rfl (by kernel_rfl) (by simp [Value.cells, Value.oneCell']) (by simp [Value.cells]) ?_) | (refine xk_storeN 7 rfl rfl rfl (by kernel_rfl) (by simp [Value.cells, Value.oneCell']) (by simp [Value.cells]) ?_) | (refine xk_storeN 8 rfl rfl rfl (by kernel_rfl) (by simp [Value.cells, Value.oneCell']) (by simp [Value.cells]) ?_)); simp only [putN, Value.cells, List.set, List.take, List.drop, List.nil_append, List.append_nil, List.length_cons, List.length_nil, List.cons_append, Nat.reduceAdd]
          refine XA.bt ?_
          refine XA.done (by kernel_rfl) ?_
          refine XK.norm ?_
          exact XK.weak [1, 0, 2, 3, 4, 5] rfl (by decide) (fun _ h => h) (XK.envS [(10, .pointer (some ⟨g6, 0, none⟩)), (9, .int .i64 (10 + 3 * k)), (8, .int .i64 k), (3, .int .i64 1), (7, .string ⟨#[112, 100, 103, 109, 103]⟩), (6, .pointer (some ⟨g4, 0, none⟩)), (4, .slice (some ⟨g2, 0, none⟩) 120 120), (2, .pointer (some ⟨g1, 0, none⟩))] (XK.meet ⟨_, _, rfl, rfl, rfl⟩))

      rintro _ _ _ ⟨gC, gF, rfl, rfl, rfl⟩
      refine XK.asOwn 1 1 1 rfl rfl (by omega) ?_
      refine XK.cut (fun e R H => ∃ (cl : Clk) (Af : Option Addr) (cf gC : Nat), cl.fit cs.length ∧ e = [(10, .pointer (some ⟨gC, 0, none⟩)), (8, .int .i64 k), (3, .int .i64 1), (7, .string ⟨#[112, 100, 103, 109, 103]⟩), (6, .pointer (some ⟨g4, 0, none⟩)), (4, .slice (some ⟨g2, 0, none⟩) 120 120), (2, .pointer (some ⟨g1, 0, none⟩))] ∧ R = [q, all w] ∧ H = [HP.blk gC 55 [.int .u8 cl.kind, .slice Af cl.src.length cf, .int .u64 cl.rate, .int .i64 cl.mul, .int .i64 cl.div, .int .i64 cl.lock], HP.own 3 1 (.slice Af cl.src.length cf) cl.src.length (intCells cl.src), HP.blk g4 28 [.slice A1 cs.length c1, .slice none 0 0, .slice none 0 0, .slice none 0 0], HP.own 55 6 (.slice A1 cs.length c1) cs.length rows1.flatten, HP.blk g2 3 (intCells ds), HP.blk g1 28 [.slice none 0 0, .slice none 0 0, .slice none 0 0, .slice none 0 0]]) ?_ ?_
      ·
        refine XK.seq ?_

        refine XK.region ?_
        refine xk_field (off := 0) (by kernel_rfl) rfl (by decide) ?_
        refine xk_load (by kernel_rfl) rfl (by first | assumption | exact Rd.blk 0 rfl (dd _ (by omega)) | exact Rd.blk 1 rfl (dd _ (by omega)) | exact Rd.blk 2 rfl (dd _ (by omega)) | exact Rd.blk 3 rfl (dd _ (by omega)) | exact Rd.blk 4 rfl (dd _ (by omega)) | exact Rd.blk 5 rfl (dd _ (by omega)) | exact Rd.blk 6 rfl (dd _ (by omega)) | exact Rd.blk 7 rfl (dd _ (by omega)) | exact Rd.blk 8 rfl (dd _ (by omega)) | exact Rd.blk 9 rfl (dd _ (by omega)) | exact Rd.blk 0 rfl rfl | exact Rd.blk 1 rfl rfl | exact Rd.blk 2 rfl rfl | exact Rd.blk 3 rfl rfl | exact Rd.blk 4 rfl rfl | exact Rd.blk 5 rfl rfl | exact Rd.blk 6 rfl rfl | exact Rd.blk 7 rfl rfl | exact Rd.blk 8 rfl rfl | exact Rd.blk 9 rfl rfl) (by decide) ?_
        refine XK.nilN ?_
        refine XK.block ?_
        refine XK.seq ?_

        refine XK.region ?_
        refine xk_eql rfl rfl (by decide) ?_
        refine xk_assign rfl (by decide) ?_
        refine XK.nilN ?_
        refine XK.if_ rfl (fun h => ?_) (fun h => ?_)
        ·
          refine XK.seq ?_

          refine XK.region ?_
          refine xk_move rfl (by decide) ?_
          refine xk_move rfl (by decide) ?_
          refine xk_add rfl rfl (wrap_in (by omega)) (by decide) ?_
          refine xk_at (12 + 3 * k) (12 + 3 * k) (el := 3) (sz := 1) (by kernel_rfl) (by kernel_rfl) rfl rfl (by omega) (by omega) (by omega) (by decide) ?_
          refine xk_load (by kernel_rfl) rfl (by first | assumption | exact Rd.blk 0 rfl (dd _ (by omega)) | exact Rd.blk 1 rfl (dd _ (by omega)) | exact Rd.blk 2 rfl (dd _ (by omega)) | exact Rd.blk 3 rfl (dd _ (by omega)) | exact Rd.blk 4 rfl (dd _ (by omega)) | exact Rd.blk 5 rfl (dd _ (by omega)) | exact Rd.blk 6 rfl (dd _ (by omega)) | exact Rd.blk 7 rfl (dd _ (by omega)) | exact Rd.blk 8 rfl (dd _ (by omega)) | exact Rd.blk 9 rfl (dd _ (by omega)) | exact Rd.blk 0 rfl rfl | exact Rd.blk 1 rfl rfl | exact Rd.blk 2 rfl rfl | exact Rd.blk 3 rfl rfl | exact Rd.blk 4 rfl rfl | exact Rd.blk 5 rfl rfl | exact Rd.blk 6 rfl rfl | exact Rd.blk 7 rfl rfl | exact Rd.blk 8 rfl rfl | exact Rd.blk 9 rfl rfl) (by decide) ?_
          refine xk_rem rfl rfl (by omega) (rem_in (by omega)) (by decide) ?_
          refine xk_add rfl rfl (wrap_in (by omega)) (by decide) ?_
          refine xk_field (off := 3) (by kernel_rfl) rfl (by decide) ?_
          refine xk_st rfl rfl ?_; dsimp only [List.set]
          refine XK.nilN ?_
          refine XK.seq ?_

          refine XK.region ?_
          refine xk_move rfl (by decide) ?_
          refine xk_move rfl (by decide) ?_
          refine xk_add rfl rfl (wrap_in (by omega)) (by decide) ?_
          refine xk_at (12 + 3 * k) (12 + 3 * k) (el := 3) (sz := 1) (by kernel_rfl) (by kernel_rfl) rfl rfl (by omega) (by omega) (by omega) (by decide) ?_
          refine xk_load (by kernel_rfl) rfl (by first | assumption | exact Rd.blk 0 rfl (dd _ (by omega)) | exact Rd.blk 1 rfl (dd _ (by omega)) | exact Rd.blk 2 rfl (dd _ (by omega)) | exact Rd.blk 3 rfl (dd _ (by omega)) | exact Rd.blk 4 rfl (dd _ (by omega)) | exact Rd.blk 5 rfl (dd _ (by omega)) | exact Rd.blk 6 rfl (dd _ (by omega)) | exact Rd.blk 7 rfl (dd _ (by omega)) | exact Rd.blk 8 rfl (dd _ (by omega)) | exact Rd.blk 9 rfl (dd _ (by omega)) | exact Rd.blk 0 rfl rfl | exact Rd.blk 1 rfl rfl | exact Rd.blk 2 rfl rfl | exact Rd.blk 3 rfl rfl | exact Rd.blk 4 rfl rfl | exact Rd.blk 5 rfl rfl | exact Rd.blk 6 rfl rfl | exact Rd.blk 7 rfl rfl | exact Rd.blk 8 rfl rfl | exact Rd.blk 9 rfl rfl) (by decide) ?_
          refine xk_quo rfl rfl (by omega) (quo_in (by omega) (by omega) (by omega)) (by decide) ?_
          refine xk_rem rfl rfl (by omega) (rem_in (by omega)) (by decide) ?_
          refine xk_add rfl rfl (wrap_in (by omega)) (by decide) ?_
          refine xk_field (off := 4) (by kernel_rfl) rfl (by decide) ?_
          refine xk_st rfl rfl ?_; dsimp only [List.set]
          refine XK.nilN ?_

          refine XK.region ?_
          refine xk_move rfl (by decide) ?_
          refine xk_move rfl (by decide) ?_
          refine xk_add rfl rfl (wrap_in (by omega)) (by decide) ?_
          refine xk_at (12 + 3 * k) (12 + 3 * k) (el := 3) (sz := 1) (by kernel_rfl) (by kernel_rfl) rfl rfl (by omega) (by omega) (by omega) (by decide) ?_
          refine xk_load (by kernel_rfl) rfl (by first | assumption | exact Rd.blk 0 rfl (dd _ (by omega)) | exact Rd.blk 1 rfl (dd _ (by omega)) | exact Rd.blk 2 rfl (dd _ (by omega)) | exact Rd.blk 3 rfl (dd _ (by omega)) | exact Rd.blk 4 rfl (dd _ (by omega)) | exact Rd.blk 5 rfl (dd _ (by omega)) | exact Rd.blk 6 rfl (dd _ (by omega)) | exact Rd.blk 7 rfl (dd _ (by omega)) | exact Rd.blk 8 rfl (dd _ (by omega)) | exact Rd.blk 9 rfl (dd _ (by omega)) | exact Rd.blk 0 rfl rfl | exact Rd.blk 1 rfl rfl | exact Rd.blk 2 rfl rfl | exact Rd.blk 3 rfl rfl | exact Rd.blk 4 rfl rfl | exact Rd.blk 5 rfl rfl | exact Rd.blk 6 rfl rfl | exact Rd.blk 7 rfl rfl | exact Rd.blk 8 rfl rfl | exact Rd.blk 9 rfl rfl) (by decide) ?_
          refine xk_quo rfl rfl (by omega) (quo_in (by omega) (by omega) (by omega)) (by decide) ?_
          refine xk_rem rfl rfl (by omega) (rem_in (by omega)) (by decide) ?_
          refine xk_field (off := 5) (by kernel_rfl) rfl (by decide) ?_
          refine xk_st rfl rfl ?_; dsimp only [List.set]
          refine XK.nilN ?_
          exact XK.envS [(10, .pointer (some ⟨gC, 0, none⟩)), (8, .int .i64 k), (3, .int .i64 1), (7, .string ⟨#[112, 100, 103, 109, 103]⟩), (6, .pointer (some ⟨g4, 0, none⟩)), (4, .slice (some ⟨g2, 0, none⟩) 120 120), (2, .pointer (some ⟨g1, 0, none⟩))] (XK.meet ⟨⟨kb.toNat, [dv ds (11 + 3 * k) % cs.length], 0, 1 + dv ds (12 + 3 * k) % 8, 1 + dv ds (12 + 3 * k) / 8 % 4, dv ds (12 + 3 * k) / 32 % 4⟩, some ⟨gF, 0, none⟩, 1, gC, ⟨fun f hf => by simp at hf; subst hf; exact f0, .inr (.inl ⟨h, rfl, rfl, by dsimp only; omega, by dsimp only; omega, by dsimp only; omega, by dsimp only; omega, by dsimp only; omega, by dsimp only; omega⟩)⟩, rfl, rfl, rfl⟩)
        ·
          refine XK.seq ?_

          refine XK.region ?_
          refine xk_eql rfl rfl (by decide) ?_
          refine xk_assign rfl (by decide) ?_
          refine XK.nilN ?_
          refine XK.if_ rfl (fun h => ?_) (fun h => ?_)
          ·

            refine XK.region ?_
            refine xk_move rfl (by decide) ?_
            refine xk_move rfl (by decide) ?_
            refine xk_add rfl rfl (wrap_in (by omega)) (by decide) ?_
            refine xk_at (12 + 3 * k) (12 + 3 * k) (el := 3) (sz := 1) (by kernel_rfl) (by kernel_rfl) rfl rfl (by omega) (by omega) (by omega) (by decide) ?_
            refine xk_load (by kernel_rfl) rfl (by first | assumption | exact Rd.blk 0 rfl (dd _ (by omega)) | exact Rd.blk 1 rfl (dd _ (by omega)) | exact Rd.blk 2 rfl (dd _ (by omega)) | exact Rd.blk 3 rfl (dd _ (by omega)) | exact Rd.blk 4 rfl (dd _ (by omega)) | exact Rd.blk 5 rfl (dd _ (by omega)) | exact Rd.blk 6 rfl (dd _ (by omega)) | exact Rd.blk 7 rfl (dd _ (by omega)) | exact Rd.blk 8 rfl (dd _ (by omega)) | exact Rd.blk 9 rfl (dd _ (by omega)) | exact Rd.blk 0 rfl rfl | exact Rd.blk 1 rfl rfl | exact Rd.blk 2 rfl rfl | exact Rd.blk 3 rfl rfl | exact Rd.blk 4 rfl rfl | exact Rd.blk 5 rfl rfl | exact Rd.blk 6 rfl rfl | exact Rd.blk 7 rfl rfl | exact Rd.blk 8 rfl rfl | exact Rd.blk 9 rfl rfl) (by decide) ?_
            refine xk_rem rfl rfl (by omega) (rem_in (by omega)) (by decide) ?_
            refine xk_add rfl rfl (wrap_in (by omega)) (by decide) ?_
            refine xk_field (off := 4) (by kernel_rfl) rfl (by decide) ?_
            refine xk_st rfl rfl ?_; dsimp only [List.set]
            refine XK.nilN ?_
            exact XK.envS [(10, .pointer (some ⟨gC, 0, none⟩)), (8, .int .i64 k), (3, .int .i64 1), (7, .string ⟨#[112, 100, 103, 109, 103]⟩), (6, .pointer (some ⟨g4, 0, none⟩)), (4, .slice (some ⟨g2, 0, none⟩) 120 120), (2, .pointer (some ⟨g1, 0, none⟩))] (XK.meet ⟨⟨kb.toNat, [dv ds (11 + 3 * k) % cs.length], 0, 0, 1 + dv ds (12 + 3 * k) % 8, 0⟩, some ⟨gF, 0, none⟩, 1, gC, ⟨fun f hf => by simp at hf; subst hf; exact f0, .inr (.inr (.inl ⟨h, rfl, rfl, rfl, by dsimp only; omega, by dsimp only; omega, rfl⟩))⟩, rfl, rfl, rfl⟩)
          ·
            refine XK.seq ?_

            refine XK.region ?_
            refine xk_eql rfl rfl (by decide) ?_
            refine xk_assign rfl (by decide) ?_
            refine XK.nilN ?_
            refine XK.if_ rfl (fun h => ?_) (fun h => ?_)
            ·

              refine XK.draw 12 (by kernel_rfl) (by kernel_rfl) ?_
              refine XA.dA 0 rfl rfl rfl (does_field (off := 1) (by kernel_rfl) rfl) ?_
              refine XA.dA 1 rfl rfl rfl (does_load (by kernel_rfl) rfl (by first | assumption | exact Rd.blk 0 rfl (dd _ (by omega)) | exact Rd.blk 1 rfl (dd _ (by omega)) | exact Rd.blk 2 rfl (dd _ (by omega)) | exact Rd.blk 3 rfl (dd _ (by omega)) | exact Rd.blk 4 rfl (dd _ (by omega)) | exact Rd.blk 5 rfl (dd _ (by omega)) | exact Rd.blk 6 rfl (dd _ (by omega)) | exact Rd.blk 7 rfl (dd _ (by omega)) | exact Rd.blk 8 rfl (dd _ (by omega)) | exact Rd.blk 9 rfl (dd _ (by omega)) | exact Rd.blk 0 rfl rfl | exact Rd.blk 1 rfl rfl | exact Rd.blk 2 rfl rfl | exact Rd.blk 3 rfl rfl | exact Rd.blk 4 rfl rfl | exact Rd.blk 5 rfl rfl | exact Rd.blk 6 rfl rfl | exact Rd.blk 7 rfl rfl | exact Rd.blk 8 rfl rfl | exact Rd.blk 9 rfl rfl)) ?_
              refine XA.dA 2 rfl rfl rfl (does_move rfl) ?_
              refine XA.dA 3 rfl rfl rfl (does_move rfl) ?_
              refine XA.dA 4 rfl rfl rfl (does_add rfl rfl (wrap_in (by omega))) ?_
              refine XA.dA 5 rfl rfl rfl (does_at (12 + 3 * k) (12 + 3 * k) (el := 3) (sz := 1) (by kernel_rfl) (by kernel_rfl) rfl rfl (by omega) (by omega) (by omega)) ?_
              refine XA.dA 6 rfl rfl rfl (does_load (by kernel_rfl) rfl (by first | assumption | exact Rd.blk 0 rfl (dd _ (by omega)) | exact Rd.blk 1 rfl (dd _ (by omega)) | exact Rd.blk 2 rfl (dd _ (by omega)) | exact Rd.blk 3 rfl (dd _ (by omega)) | exact Rd.blk 4 rfl (dd _ (by omega)) | exact Rd.blk 5 rfl (dd _ (by omega)) | exact Rd.blk 6 rfl (dd _ (by omega)) | exact Rd.blk 7 rfl (dd _ (by omega)) | exact Rd.blk 8 rfl (dd _ (by omega)) | exact Rd.blk 9 rfl (dd _ (by omega)) | exact Rd.blk 0 rfl rfl | exact Rd.blk 1 rfl rfl | exact Rd.blk 2 rfl rfl | exact Rd.blk 3 rfl rfl | exact Rd.blk 4 rfl rfl | exact Rd.blk 5 rfl rfl | exact Rd.blk 6 rfl rfl | exact Rd.blk 7 rfl rfl | exact Rd.blk 8 rfl rfl | exact Rd.blk 9 rfl rfl)) ?_
              refine XA.dA 7 rfl rfl rfl (does_field (off := 0) (by kernel_rfl) rfl) ?_
              refine XA.dA 8 rfl rfl rfl (does_load (by kernel_rfl) rfl (by first | assumption | exact Rd.blk 0 rfl (dd _ (by omega)) | exact Rd.blk 1 rfl (dd _ (by omega)) | exact Rd.blk 2 rfl (dd _ (by omega)) | exact Rd.blk 3 rfl (dd _ (by omega)) | exact Rd.blk 4 rfl (dd _ (by omega)) | exact Rd.blk 5 rfl (dd _ (by omega)) | exact Rd.blk 6 rfl (dd _ (by omega)) | exact Rd.blk 7 rfl (dd _ (by omega)) | exact Rd.blk 8 rfl (dd _ (by omega)) | exact Rd.blk 9 rfl (dd _ (by omega)) | exact Rd.blk 0 rfl rfl | exact Rd.blk 1 rfl rfl | exact Rd.blk 2 rfl rfl | exact Rd.blk 3 rfl rfl | exact Rd.blk 4 rfl rfl | exact Rd.blk 5 rfl rfl | exact Rd.blk 6 rfl rfl | exact Rd.blk 7 rfl rfl | exact Rd.blk 8 rfl rfl | exact Rd.blk 9 rfl rfl)) ?_
              refine XA.dA 9 rfl rfl rfl (does_len (el := 55) (by kernel_rfl) rfl) ?_
              refine XA.dA 10 rfl rfl rfl (does_rem rfl rfl (by omega) (rem_in (by omega))) ?_
              refine XA.next 11 rfl (by kernel_rfl) ?_
              refine xk_slice (el := 3) (sz := 1) (zs := [.int .i64 0]) (by kernel_rfl) (zeroB_of (by kernel_rfl)) (by kernel_rfl) rfl (by decide) (by decide) rfl (by simp [fillL, setN, Value.cells, List.range_succ, List.set]; rfl) (by decide) fun g7 => ?_
              refine XA.bk ?_
              refine XA.next 12 rfl (by kernel_rfl) ?_
              refine xk_appendT 2 1 8 1 (n' := 2) (el := 3) (by kernel_rfl) (by kernel_rfl) (by decide) rfl rfl rfl (sl_blk 0 rfl rfl) (by simp [Value.oneCell']) rfl (by omega) (by omega) (by decide) fun Af cf => ?_
              refine XA.bt ?_
              refine XA.next 13 rfl (by kernel_rfl) ?_
              refine xk_field (off := 1) (by kernel_rfl) rfl (by decide) ?_
              refine XA.bt ?_
              refine XA.next 14 rfl (by kernel_rfl) ?_
              refine xk_st rfl rfl ?_; dsimp only [List.set]
              refine XA.bt ?_
              refine XA.done (by kernel_rfl) ?_
              refine XK.norm ?_
              exact XK.weak [1, 2, 3, 4, 5, 6] rfl (by decide) (fun _ h => h) (XK.envS [(10, .pointer (some ⟨gC, 0, none⟩)), (8, .int .i64 k), (3, .int .i64 1), (7, .string ⟨#[112, 100, 103, 109, 103]⟩), (6, .pointer (some ⟨g4, 0, none⟩)), (4, .slice (some ⟨g2, 0, none⟩) 120 120), (2, .pointer (some ⟨g1, 0, none⟩))] (XK.meet ⟨⟨kb.toNat, [dv ds (11 + 3 * k) % cs.length, dv ds (12 + 3 * k) % cs.length], 0, 0, 0, 0⟩, Af, cf, gC, ⟨fun f hf => by simp at hf; rcases hf with rfl | rfl; exact f0; exact f1, .inr (.inr (.inr (.inr ⟨h, rfl, rfl, rfl, rfl, rfl⟩)))⟩, rfl, rfl, rfl⟩))
            ·
              refine XK.skip ?_
              refine XK.norm ?_
              exact XK.envS [(10, .pointer (some ⟨gC, 0, none⟩)), (8, .int .i64 k), (3, .int .i64 1), (7, .string ⟨#[112, 100, 103, 109, 103]⟩), (6, .pointer (some ⟨g4, 0, none⟩)), (4, .slice (some ⟨g2, 0, none⟩) 120 120), (2, .pointer (some ⟨g1, 0, none⟩))] (XK.meet ⟨⟨kb.toNat, [dv ds (11 + 3 * k) % cs.length], 0, 0, 0, 0⟩, some ⟨gF, 0, none⟩, 1, gC, ⟨fun f hf => by simp at hf; subst hf; exact f0, .inr (.inr (.inr (.inl ⟨by dsimp only; omega, rfl, rfl, rfl, rfl, rfl⟩)))⟩, rfl, rfl, rfl⟩)
      rintro _ _ _ ⟨cl, Af, cf, gC, hclf, rfl, rfl, rfl⟩

      refine XK.region ?_
      refine xk_field (off := 0) (by kernel_rfl) rfl (by decide) ?_
      refine xk_load (by kernel_rfl) rfl (by first | assumption | exact Rd.blk 0 rfl (dd _ (by omega)) | exact Rd.blk 1 rfl (dd _ (by omega)) | exact Rd.blk 2 rfl (dd _ (by omega)) | exact Rd.blk 3 rfl (dd _ (by omega)) | exact Rd.blk 4 rfl (dd _ (by omega)) | exact Rd.blk 5 rfl (dd _ (by omega)) | exact Rd.blk 6 rfl (dd _ (by omega)) | exact Rd.blk 7 rfl (dd _ (by omega)) | exact Rd.blk 8 rfl (dd _ (by omega)) | exact Rd.blk 9 rfl (dd _ (by omega)) | exact Rd.blk 0 rfl rfl | exact Rd.blk 1 rfl rfl | exact Rd.blk 2 rfl rfl | exact Rd.blk 3 rfl rfl | exact Rd.blk 4 rfl rfl | exact Rd.blk 5 rfl rfl | exact Rd.blk 6 rfl rfl | exact Rd.blk 7 rfl rfl | exact Rd.blk 8 rfl rfl | exact Rd.blk 9 rfl rfl) (by decide) ?_
      refine xk_ldN 6 rfl ?_
      refine xk_slice (el := 55) (sz := 6) (zs := [.int .u8 0, .slice none 0 0, .int .u64 0, .int .i64 0, .int .i64 0, .int .i64 0]) (by kernel_rfl) (zeroB_of (by kernel_rfl)) (by kernel_rfl) rfl (by decide) (by decide) rfl (by simp [fillL, setN, Value.cells, List.range_succ, List.set]; rfl) (by decide) fun g8 => ?_
      refine xk_appendT 4 6 64 1 (n' := cs.length + 1) (el := 55) (by kernel_rfl) (by kernel_rfl) (by decide) rfl rfl rfl (sl_blk 0 rfl rfl) (by simp [Value.oneCell']) rfl (by omega) (by omega) (by decide) fun A1n c1n => ?_
      refine xk_field (off := 0) (by kernel_rfl) rfl (by decide) ?_
      refine xk_st rfl rfl ?_; dsimp only [List.set]
      refine XK.nilN ?_

      refine XK.region ?_
      refine xk_move rfl (by decide) ?_
      refine xk_add rfl rfl (wrap_in (by omega)) (by decide) ?_
      refine xk_assign rfl (by decide) ?_
      refine XK.nilN ?_
      refine XK.still [q] [2] [3, 4, 5, 6] (by simp) rfl (by decide) (by simp) fun q2 hqf hql hqn => ?_
      have hle := hql q (by simp)
      have hq2 := hqn (by simp) (by simp; exact hq)
      have hsl := SlS.own (hqf 2 _ (by simp) rfl)
      exact XK.weak [0, 1, 2, 3] rfl (by decide) (by simp) (XK.envS [(8, .int .i64 (k + 1)), (3, .int .i64 1), (7, .string ⟨#[112, 100, 103, 109, 103]⟩), (6, .pointer (some ⟨g4, 0, none⟩)), (4, .slice (some ⟨g2, 0, none⟩) 120 120), (2, .pointer (some ⟨g1, 0, none⟩))] (XK.round (9 - (k + 1)) (by omega) ⟨k + 1, cs ++ [cl], A1n, c1n, q2, rows1 ++ [_], by omega, rfl, by simp [hcl], hcf.snoc hclf, (hcr.mono (fun c r => ClkR.mono (slq_le hle))).snoc (r := [.int .u8 cl.kind, .slice Af cl.src.length cf, .int .u64 cl.rate, .int .i64 cl.mul, .int .i64 cl.div, .int .i64 cl.lock]) rfl ⟨Af, _, cf, rfl, rfl, hsl⟩, hq2, rfl, rfl, by simp⟩))
    ·
      refine XK.exit ?_
      refine XK.norm ?_
      exact XK.envS [(6, .pointer (some ⟨g4, 0, none⟩)), (4, .slice (some ⟨g2, 0, none⟩) 120 120), (2, .pointer (some ⟨g1, 0, none⟩))] (XK.meet ⟨cs, A1, c1, q, rows1, by omega, by omega, hcf, hcr, hq, rfl, rfl, rfl⟩)
  rintro _ _ _ ⟨cs, A1, c1, q, rows1, hc1, hc9, hcf, hcr, hq, rfl, rfl, rfl⟩
  have dd := hd.at_
  have b2 := hd.bd 2
  have b3 := hd.bd 3
  have b4 := hd.bd 4
  refine XK.cut (fun e R H => ∃ (dm : List Dom) (A2 : Option Addr) (c2 : Nat) (rows2 : List (List Value)), 1 ≤ dm.length ∧ dm.length ≤ 4 ∧ Fits Dom.fit dm ∧ Rows DomR 3 dm rows2 ∧ e = [(6, .pointer (some ⟨g4, 0, none⟩)), (4, .slice (some ⟨g2, 0, none⟩) 120 120), (2, .pointer (some ⟨g1, 0, none⟩))] ∧ R = [q, all w] ∧ H = [HP.blk g4 28 [.slice A1 cs.length c1, .slice A2 dm.length c2, .slice none 0 0, .slice none 0 0], HP.own 69 3 (.slice A2 dm.length c2) dm.length rows2.flatten, HP.own 55 6 (.slice A1 cs.length c1) cs.length rows1.flatten, HP.blk g2 3 (intCells ds), HP.blk g1 28 [.slice none 0 0, .slice none 0 0, .slice none 0 0, .slice none 0 0]]) ?_ ?_
  ·
    refine XK.seq ?_

    refine XK.region ?_
    refine xk_assign rfl (by decide) ?_
    refine XK.nilN ?_
    refine XK.nilrow 69 3 ?_
    refine XK.weak [1, 0, 2, 3, 4] rfl (by decide) (fun _ h => h) ?_
    refine XK.envS [(11, .int .i64 0), (6, .pointer (some ⟨g4, 0, none⟩)), (4, .slice (some ⟨g2, 0, none⟩) 120 120), (2, .pointer (some ⟨g1, 0, none⟩))] ?_
    refine XK.block ?_
    refine XK.loop (fun m e R H => ∃ (dm : List Dom) (A2 : Option Addr) (c2 : Nat) (rows2 : List (List Value)), (dm.length : Int) ≤ 1 + dv ds 2 % 4 ∧ m = 5 - dm.length ∧ Fits Dom.fit dm ∧ Rows DomR 3 dm rows2 ∧ e = [(11, .int .i64 dm.length), (6, .pointer (some ⟨g4, 0, none⟩)), (4, .slice (some ⟨g2, 0, none⟩) 120 120), (2, .pointer (some ⟨g1, 0, none⟩))] ∧ R = [q, all w] ∧ H = [HP.blk g4 28 [.slice A1 cs.length c1, .slice A2 dm.length c2, .slice none 0 0, .slice none 0 0], HP.own 69 3 (.slice A2 dm.length c2) dm.length rows2.flatten, HP.own 55 6 (.slice A1 cs.length c1) cs.length rows1.flatten, HP.blk g2 3 (intCells ds), HP.blk g1 28 [.slice none 0 0, .slice none 0 0, .slice none 0 0, .slice none 0 0]]) 5 ⟨[], none, 0, [], by simp; omega, rfl, Fits.nil _, trivial, rfl, rfl, rfl⟩ fun m e R H hI => ?_
    obtain ⟨dm, A2, c2, rows2, hk, rfl, hdf, hdr, rfl, rfl, rfl⟩ := hI
    refine XK.seq ?_
    refine XK.seq ?_

    refine XK.region ?_
    refine xk_move rfl (by decide) ?_
    refine xk_move rfl (by decide) ?_
    refine xk_at 2 2 (el := 3) (sz := 1) (by kernel_rfl) (by kernel_rfl) rfl rfl (by rfl) (by omega) (by omega) (by decide) ?_
    refine xk_load (by kernel_rfl) rfl (by first | assumption | exact Rd.blk 0 rfl (dd _ (by omega)) | exact Rd.blk 1 rfl (dd _ (by omega)) | exact Rd.blk 2 rfl (dd _ (by omega)) | exact Rd.blk 3 rfl (dd _ (by omega)) | exact Rd.blk 4 rfl (dd _ (by omega)) | exact Rd.blk 5 rfl (dd _ (by omega)) | exact Rd.blk 6 rfl (dd _ (by omega)) | exact Rd.blk 7 rfl (dd _ (by omega)) | exact Rd.blk 8 rfl (dd _ (by omega)) | exact Rd.blk 9 rfl (dd _ (by omega)) | exact Rd.blk 0 rfl rfl | exact Rd.blk 1 rfl rfl | exact Rd.blk 2 rfl rfl | exact Rd.blk 3 rfl rfl | exact Rd.blk 4 rfl rfl | exact Rd.blk 5 rfl rfl | exact Rd.blk 6 rfl rfl | exact Rd.blk 7 rfl rfl | exact Rd.blk 8 rfl rfl | exact Rd.blk 9 rfl rfl) (by decide) ?_
    refine xk_rem rfl rfl (by omega) (rem_in (by omega)) (by decide) ?_
    refine xk_add rfl rfl (wrap_in (by omega)) (by decide) ?_
    refine xk_lss rfl rfl (by decide) ?_
    refine XK.nilN ?_
    refine XK.if_ rfl (fun h => ?_) (fun h => ?_)
    ·
      refine XK.skip ?_
      refine XK.norm ?_
      refine XK.seq ?_
      refine XK.block ?_
      refine XK.seq ?_

      have hk2 : dm.length < 4 := by omega
      have p1 := hd.bd (40 + dm.length)
      have p2 := hd.bd (44 + dm.length)
      refine XK.draw 16 (by kernel_rfl) (by kernel_rfl) ?_
      refine XA.dA 0 rfl rfl rfl (does_move rfl) ?_
      refine XA.dA 1 rfl rfl rfl (does_move rfl) ?_
      refine XA.dA 2 rfl rfl rfl (does_add rfl rfl (wrap_in (by omega))) ?_
      refine XA.dA 3 rfl rfl rfl (does_at (40 + dm.length) (40 + dm.length) (el := 3) (sz := 1) (by kernel_rfl) (by kernel_rfl) rfl rfl (by omega) (by omega) (by omega)) ?_
      refine XA.dA 4 rfl rfl rfl (does_load (by kernel_rfl) rfl (by first | assumption | exact Rd.blk 0 rfl (dd _ (by omega)) | exact Rd.blk 1 rfl (dd _ (by omega)) | exact Rd.blk 2 rfl (dd _ (by omega)) | exact Rd.blk 3 rfl (dd _ (by omega)) | exact Rd.blk 4 rfl (dd _ (by omega)) | exact Rd.blk 5 rfl (dd _ (by omega)) | exact Rd.blk 6 rfl (dd _ (by omega)) | exact Rd.blk 7 rfl (dd _ (by omega)) | exact Rd.blk 8 rfl (dd _ (by omega)) | exact Rd.blk 9 rfl (dd _ (by omega)) | exact Rd.blk 0 rfl rfl | exact Rd.blk 1 rfl rfl | exact Rd.blk 2 rfl rfl | exact Rd.blk 3 rfl rfl | exact Rd.blk 4 rfl rfl | exact Rd.blk 5 rfl rfl | exact Rd.blk 6 rfl rfl | exact Rd.blk 7 rfl rfl | exact Rd.blk 8 rfl rfl | exact Rd.blk 9 rfl rfl)) ?_
      refine XA.dA 5 rfl rfl rfl (does_rem rfl rfl (by omega) (rem_in (by omega))) ?_
      refine XA.dA 6 rfl rfl rfl (does_move rfl) ?_
      refine XA.dA 7 rfl rfl rfl (does_move rfl) ?_
      refine XA.dA 8 rfl rfl rfl (does_add rfl rfl (wrap_in (by omega))) ?_
      refine XA.dA 9 rfl rfl rfl (does_at (40 + dm.length) (40 + dm.length) (el := 3) (sz := 1) (by kernel_rfl) (by kernel_rfl) rfl rfl (by omega) (by omega) (by omega)) ?_
      refine XA.dA 10 rfl rfl rfl (does_load (by kernel_rfl) rfl (by first | assumption | exact Rd.blk 0 rfl (dd _ (by omega)) | exact Rd.blk 1 rfl (dd _ (by omega)) | exact Rd.blk 2 rfl (dd _ (by omega)) | exact Rd.blk 3 rfl (dd _ (by omega)) | exact Rd.blk 4 rfl (dd _ (by omega)) | exact Rd.blk 5 rfl (dd _ (by omega)) | exact Rd.blk 6 rfl (dd _ (by omega)) | exact Rd.blk 7 rfl (dd _ (by omega)) | exact Rd.blk 8 rfl (dd _ (by omega)) | exact Rd.blk 9 rfl (dd _ (by omega)) | exact Rd.blk 0 rfl rfl | exact Rd.blk 1 rfl rfl | exact Rd.blk 2 rfl rfl | exact Rd.blk 3 rfl rfl | exact Rd.blk 4 rfl rfl | exact Rd.blk 5 rfl rfl | exact Rd.blk 6 rfl rfl | exact Rd.blk 7 rfl rfl | exact Rd.blk 8 rfl rfl | exact Rd.blk 9 rfl rfl)) ?_
      refine XA.dA 11 rfl rfl rfl (does_quo rfl rfl (by omega) (quo_in (by omega) (by omega) (by omega))) ?_
      refine XA.dA 12 rfl rfl rfl (does_rem rfl rfl (by omega) (rem_in (by omega))) ?_
      refine XA.dA 13 rfl rfl rfl (does_eql rfl rfl) ?_
      refine XA.dA 14 rfl rfl rfl (does_buildS (zs := [.int .i64 0, .int .i64 0, .bool false]) (L := [(0, 1), (1, 1), (2, 1)]) (zeroB_of (by kernel_rfl)) (by kernel_rfl) rfl (by simp [fillL, setN, Value.cells]; rfl)) ?_
      refine XA.next 15 rfl (by kernel_rfl) ?_
      refine xk_alloc (cs := [.int .i64 0, .int .i64 0, .bool false]) (zeroB_of (by kernel_rfl)) (by decide) fun g9 => ?_
      refine XA.bk ?_
      refine XA.next 16 rfl (by kernel_rfl) ?_
      (first | (refine xk_storeN 0 rfl rfl rfl (by kernel_rfl) (by simp [Value.cells, Value.oneCell']) (by simp [Value.cells]) ?_) | (refine xk_storeN 1 rfl rfl rfl (by kernel_rfl) (by simp [Value.cells, Value.oneCell']) (by simp [Value.cells]) ?_) | (refine xk_storeN 2 rfl rfl rfl (by kernel_rfl) (by simp [Value.cells, Value.oneCell']) (by simp [Value.cells]) ?_) | (refine xk_storeN 3 rfl rfl rfl (by kernel_rfl) (by simp [Value.cells, Value.oneCell']) (by simp [Value.cells]) ?_) | (refine xk_storeN 4 rfl rfl rfl (by kernel_rfl) (by simp [Value.cells, Value.oneCell']) (by simp [Value.cells]) ?_) | (refine xk_storeN 5 rfl rfl rfl (by kernel_rfl) (by simp [Value.cells, Value.oneCell']) (by simp [Value.cells]) ?_) | (refine xk_storeN 6 rfl rfl rfl (by kernel_rfl) (by simp [Value.cells, Value.oneCell']) (by simp [Value.cells]) ?_) | (refine xk_storeN 7 rfl rfl rfl (by kernel_rfl) (by simp [Value.cells, Value.oneCell']) (by simp [Value.cells]) ?_) | (refine xk_storeN 8 rfl rfl rfl (by kernel_rfl) (by simp [Value.cells, Value.oneCell']) (by simp [Value.cells]) ?_)); simp only [putN, Value.cells, List.set, List.take, List.drop, List.nil_append, List.append_nil, List.length_cons, List.length_nil, List.cons_append, Nat.reduceAdd]
      refine XA.bt ?_
      refine XA.done (by kernel_rfl) ?_
      refine XK.norm ?_
      refine XK.cut (fun e R H => ∃ ab : Int, (ab = -1 ∨ (0 ≤ ab ∧ ab < dm.length)) ∧ e = [(12, .pointer (some ⟨g9, 0, none⟩)), (11, .int .i64 dm.length), (6, .pointer (some ⟨g4, 0, none⟩)), (4, .slice (some ⟨g2, 0, none⟩) 120 120), (2, .pointer (some ⟨g1, 0, none⟩))] ∧ R = [q, all w] ∧ H = [HP.blk g9 69 [.int .i64 ab, .int .i64 (dv ds (40 + dm.length) % 4), .bool (decide (dv ds (40 + dm.length) / 4 % 2 = 1))], HP.blk g4 28 [.slice A1 cs.length c1, .slice A2 dm.length c2, .slice none 0 0, .slice none 0 0], HP.own 69 3 (.slice A2 dm.length c2) dm.length rows2.flatten, HP.own 55 6 (.slice A1 cs.length c1) cs.length rows1.flatten, HP.blk g2 3 (intCells ds), HP.blk g1 28 [.slice none 0 0, .slice none 0 0, .slice none 0 0, .slice none 0 0]]) ?_ ?_
      ·
        refine XK.seq ?_

        refine XK.region ?_
        refine xk_move rfl (by decide) ?_
        refine xk_gtr rfl rfl (by decide) ?_
        refine xk_move rfl (by decide) ?_
        refine xk_split (t := 172) rfl (fun hg => ?_) (fun hg => ?_)
        ·
          refine xk_guardT rfl rfl ?_; refine xk_move rfl (by decide) ?_
          refine xk_guardT rfl rfl ?_; refine xk_move rfl (by decide) ?_
          refine xk_guardT rfl rfl ?_; refine xk_add rfl rfl (wrap_in (by omega)) (by decide) ?_
          refine xk_guardT rfl rfl ?_; refine xk_at (44 + dm.length) (44 + dm.length) (el := 3) (sz := 1) (by kernel_rfl) (by kernel_rfl) rfl rfl (by omega) (by omega) (by omega) (by decide) ?_
          refine xk_guardT rfl rfl ?_; refine xk_load (by kernel_rfl) rfl (by first | assumption | exact Rd.blk 0 rfl (dd _ (by omega)) | exact Rd.blk 1 rfl (dd _ (by omega)) | exact Rd.blk 2 rfl (dd _ (by omega)) | exact Rd.blk 3 rfl (dd _ (by omega)) | exact Rd.blk 4 rfl (dd _ (by omega)) | exact Rd.blk 5 rfl (dd _ (by omega)) | exact Rd.blk 6 rfl (dd _ (by omega)) | exact Rd.blk 7 rfl (dd _ (by omega)) | exact Rd.blk 8 rfl (dd _ (by omega)) | exact Rd.blk 9 rfl (dd _ (by omega)) | exact Rd.blk 0 rfl rfl | exact Rd.blk 1 rfl rfl | exact Rd.blk 2 rfl rfl | exact Rd.blk 3 rfl rfl | exact Rd.blk 4 rfl rfl | exact Rd.blk 5 rfl rfl | exact Rd.blk 6 rfl rfl | exact Rd.blk 7 rfl rfl | exact Rd.blk 8 rfl rfl | exact Rd.blk 9 rfl rfl) (by decide) ?_
          refine xk_guardT rfl rfl ?_; refine xk_rem rfl rfl (by omega) (rem_in (by omega)) (by decide) ?_
          refine xk_guardT rfl rfl ?_; refine xk_gtr rfl rfl (by decide) ?_
          (first | refine xk_pickT rfl rfl (by decide) ?_ | refine xk_pickF rfl rfl (by decide) ?_)
          refine XK.nilN ?_
          refine XK.if_ rfl (fun h => ?_) (fun h => ?_)
          ·

            refine XK.region ?_
            refine xk_move rfl (by decide) ?_
            refine xk_move rfl (by decide) ?_
            refine xk_add rfl rfl (wrap_in (by omega)) (by decide) ?_
            refine xk_at (44 + dm.length) (44 + dm.length) (el := 3) (sz := 1) (by kernel_rfl) (by kernel_rfl) rfl rfl (by omega) (by omega) (by omega) (by decide) ?_
            refine xk_load (by kernel_rfl) rfl (by first | assumption | exact Rd.blk 0 rfl (dd _ (by omega)) | exact Rd.blk 1 rfl (dd _ (by omega)) | exact Rd.blk 2 rfl (dd _ (by omega)) | exact Rd.blk 3 rfl (dd _ (by omega)) | exact Rd.blk 4 rfl (dd _ (by omega)) | exact Rd.blk 5 rfl (dd _ (by omega)) | exact Rd.blk 6 rfl (dd _ (by omega)) | exact Rd.blk 7 rfl (dd _ (by omega)) | exact Rd.blk 8 rfl (dd _ (by omega)) | exact Rd.blk 9 rfl (dd _ (by omega)) | exact Rd.blk 0 rfl rfl | exact Rd.blk 1 rfl rfl | exact Rd.blk 2 rfl rfl | exact Rd.blk 3 rfl rfl | exact Rd.blk 4 rfl rfl | exact Rd.blk 5 rfl rfl | exact Rd.blk 6 rfl rfl | exact Rd.blk 7 rfl rfl | exact Rd.blk 8 rfl rfl | exact Rd.blk 9 rfl rfl) (by decide) ?_
            refine xk_quo rfl rfl (by omega) (quo_in (by omega) (by omega) (by omega)) (by decide) ?_
            refine xk_move rfl (by decide) ?_
            refine xk_rem rfl rfl (by omega) (rem_in (by omega)) (by decide) ?_
            refine xk_field (off := 0) (by kernel_rfl) rfl (by decide) ?_
            refine xk_st rfl rfl ?_; dsimp only [List.set]
            refine XK.nilN ?_
            exact XK.envS [(12, .pointer (some ⟨g9, 0, none⟩)), (11, .int .i64 dm.length), (6, .pointer (some ⟨g4, 0, none⟩)), (4, .slice (some ⟨g2, 0, none⟩) 120 120), (2, .pointer (some ⟨g1, 0, none⟩))] (XK.meet ⟨dv ds (44 + dm.length) / 3 % dm.length, .inr (emod_bd _ hg), rfl, rfl, rfl⟩)
          ·
            refine XK.skip ?_
            refine XK.norm ?_
            exact XK.envS [(12, .pointer (some ⟨g9, 0, none⟩)), (11, .int .i64 dm.length), (6, .pointer (some ⟨g4, 0, none⟩)), (4, .slice (some ⟨g2, 0, none⟩) 120 120), (2, .pointer (some ⟨g1, 0, none⟩))] (XK.meet ⟨-1, .inl rfl, rfl, rfl, rfl⟩)
        ·
          refine xk_guardF rfl rfl rfl (by decide) ?_
          refine xk_guardF rfl rfl rfl (by decide) ?_
          refine xk_guardF rfl rfl rfl (by decide) ?_
          refine xk_guardF rfl rfl rfl (by decide) ?_
          refine xk_guardF rfl rfl rfl (by decide) ?_
          refine xk_guardF rfl rfl rfl (by decide) ?_
          refine xk_guardF rfl rfl rfl (by decide) ?_
          (first | refine xk_pickT rfl rfl (by decide) ?_ | refine xk_pickF rfl rfl (by decide) ?_)
          refine XK.nilN ?_
          refine XK.cond rfl (fun h => by cases h) (fun _ => ?_)
          refine XK.skip ?_
          refine XK.norm ?_
          exact XK.envS [(12, .pointer (some ⟨g9, 0, none⟩)), (11, .int .i64 dm.length), (6, .pointer (some ⟨g4, 0, none⟩)), (4, .slice (some ⟨g2, 0, none⟩) 120 120), (2, .pointer (some ⟨g1, 0, none⟩))] (XK.meet ⟨-1, .inl rfl, rfl, rfl, rfl⟩)
      rintro _ _ _ ⟨ab, hab, rfl, rfl, rfl⟩

      refine XK.region ?_
      refine xk_field (off := 1) (by kernel_rfl) rfl (by decide) ?_
      refine xk_load (by kernel_rfl) rfl (by first | assumption | exact Rd.blk 0 rfl (dd _ (by omega)) | exact Rd.blk 1 rfl (dd _ (by omega)) | exact Rd.blk 2 rfl (dd _ (by omega)) | exact Rd.blk 3 rfl (dd _ (by omega)) | exact Rd.blk 4 rfl (dd _ (by omega)) | exact Rd.blk 5 rfl (dd _ (by omega)) | exact Rd.blk 6 rfl (dd _ (by omega)) | exact Rd.blk 7 rfl (dd _ (by omega)) | exact Rd.blk 8 rfl (dd _ (by omega)) | exact Rd.blk 9 rfl (dd _ (by omega)) | exact Rd.blk 0 rfl rfl | exact Rd.blk 1 rfl rfl | exact Rd.blk 2 rfl rfl | exact Rd.blk 3 rfl rfl | exact Rd.blk 4 rfl rfl | exact Rd.blk 5 rfl rfl | exact Rd.blk 6 rfl rfl | exact Rd.blk 7 rfl rfl | exact Rd.blk 8 rfl rfl | exact Rd.blk 9 rfl rfl) (by decide) ?_
      refine xk_ldN 3 rfl ?_
      refine xk_slice (el := 69) (sz := 3) (zs := [.int .i64 0, .int .i64 0, .bool false]) (by kernel_rfl) (zeroB_of (by kernel_rfl)) (by kernel_rfl) rfl (by decide) (by decide) rfl (by simp [fillL, setN, Value.cells, List.range_succ, List.set]; rfl) (by decide) fun g10 => ?_
      refine xk_appendT 3 3 24 1 (n' := dm.length + 1) (el := 69) (by kernel_rfl) (by kernel_rfl) (by decide) rfl rfl rfl (sl_blk 0 rfl rfl) (by simp [Value.oneCell']) rfl (by omega) (by omega) (by decide) fun A2n c2n => ?_
      refine xk_field (off := 1) (by kernel_rfl) rfl (by decide) ?_
      refine xk_st rfl rfl ?_; dsimp only [List.set]
      refine XK.nilN ?_

      refine XK.region ?_
      refine xk_move rfl (by decide) ?_
      refine xk_add rfl rfl (wrap_in (by omega)) (by decide) ?_
      refine xk_assign rfl (by decide) ?_
      refine XK.nilN ?_
      exact XK.weak [2, 3, 4, 5, 6] rfl (by decide) (fun _ h => h) (XK.envS [(11, .int .i64 (dm.length + 1)), (6, .pointer (some ⟨g4, 0, none⟩)), (4, .slice (some ⟨g2, 0, none⟩) 120 120), (2, .pointer (some ⟨g1, 0, none⟩))] (XK.round (5 - (dm.length + 1)) (by omega) ⟨dm ++ [⟨ab, dv ds (40 + dm.length) % 4, decide (dv ds (40 + dm.length) / 4 % 2 = 1)⟩], A2n, c2n, rows2 ++ [_], by simp; omega, by simp, hdf.snoc ⟨hab, by dsimp only; omega, by dsimp only; omega⟩, hdr.snoc (r := [.int .i64 ab, .int .i64 (dv ds (40 + dm.length) % 4), .bool (decide (dv ds (40 + dm.length) / 4 % 2 = 1))]) rfl rfl, by simp, rfl, by simp⟩))
    ·
      refine XK.exit ?_
      refine XK.norm ?_
      exact XK.envS [(6, .pointer (some ⟨g4, 0, none⟩)), (4, .slice (some ⟨g2, 0, none⟩) 120 120), (2, .pointer (some ⟨g1, 0, none⟩))] (XK.meet ⟨dm, A2, c2, rows2, by omega, by omega, hdf, hdr, rfl, rfl, rfl⟩)
  rintro _ _ _ ⟨dm, A2, c2, rows2, hd1, hd4, hdf, hdr, rfl, rfl, rfl⟩
  refine XK.cut (fun e R H => ∃ (rs : List Int) (A3 : Option Addr) (c3 : Nat) (rows3 : List (List Value)), 1 ≤ rs.length ∧ rs.length ≤ 3 ∧ (∀ r ∈ rs, 0 ≤ r ∧ r ≤ 3) ∧ Rows RstR 1 rs rows3 ∧ e = [(6, .pointer (some ⟨g4, 0, none⟩)), (4, .slice (some ⟨g2, 0, none⟩) 120 120), (2, .pointer (some ⟨g1, 0, none⟩))] ∧ R = [q, all w] ∧ H = [HP.blk g4 28 [.slice A1 cs.length c1, .slice A2 dm.length c2, .slice A3 rs.length c3, .slice none 0 0], HP.own 71 1 (.slice A3 rs.length c3) rs.length rows3.flatten, HP.own 69 3 (.slice A2 dm.length c2) dm.length rows2.flatten, HP.own 55 6 (.slice A1 cs.length c1) cs.length rows1.flatten, HP.blk g2 3 (intCells ds), HP.blk g1 28 [.slice none 0 0, .slice none 0 0, .slice none 0 0, .slice none 0 0]]) ?_ ?_
  ·
    refine XK.seq ?_

    refine XK.region ?_
    refine xk_assign rfl (by decide) ?_
    refine XK.nilN ?_
    refine XK.nilrow 71 1 ?_
    refine XK.weak [1, 0, 2, 3, 4, 5] rfl (by decide) (fun _ h => h) ?_
    refine XK.envS [(13, .int .i64 0), (6, .pointer (some ⟨g4, 0, none⟩)), (4, .slice (some ⟨g2, 0, none⟩) 120 120), (2, .pointer (some ⟨g1, 0, none⟩))] ?_
    refine XK.block ?_
    refine XK.loop (fun m e R H => ∃ (rs : List Int) (A3 : Option Addr) (c3 : Nat) (rows3 : List (List Value)), (rs.length : Int) ≤ 1 + dv ds 3 % 3 ∧ m = 4 - rs.length ∧ (∀ r ∈ rs, 0 ≤ r ∧ r ≤ 3) ∧ Rows RstR 1 rs rows3 ∧ e = [(13, .int .i64 rs.length), (6, .pointer (some ⟨g4, 0, none⟩)), (4, .slice (some ⟨g2, 0, none⟩) 120 120), (2, .pointer (some ⟨g1, 0, none⟩))] ∧ R = [q, all w] ∧ H = [HP.blk g4 28 [.slice A1 cs.length c1, .slice A2 dm.length c2, .slice A3 rs.length c3, .slice none 0 0], HP.own 71 1 (.slice A3 rs.length c3) rs.length rows3.flatten, HP.own 69 3 (.slice A2 dm.length c2) dm.length rows2.flatten, HP.own 55 6 (.slice A1 cs.length c1) cs.length rows1.flatten, HP.blk g2 3 (intCells ds), HP.blk g1 28 [.slice none 0 0, .slice none 0 0, .slice none 0 0, .slice none 0 0]]) 4 ⟨[], none, 0, [], by simp; omega, rfl, by simp, trivial, rfl, rfl, rfl⟩ fun m e R H hI => ?_
    obtain ⟨rs, A3, c3, rows3, hk, rfl, hrf, hrr, rfl, rfl, rfl⟩ := hI
    refine XK.seq ?_
    refine XK.seq ?_

    refine XK.region ?_
    refine xk_move rfl (by decide) ?_
    refine xk_move rfl (by decide) ?_
    refine xk_at 3 3 (el := 3) (sz := 1) (by kernel_rfl) (by kernel_rfl) rfl rfl (by rfl) (by omega) (by omega) (by decide) ?_
    refine xk_load (by kernel_rfl) rfl (by first | assumption | exact Rd.blk 0 rfl (dd _ (by omega)) | exact Rd.blk 1 rfl (dd _ (by omega)) | exact Rd.blk 2 rfl (dd _ (by omega)) | exact Rd.blk 3 rfl (dd _ (by omega)) | exact Rd.blk 4 rfl (dd _ (by omega)) | exact Rd.blk 5 rfl (dd _ (by omega)) | exact Rd.blk 6 rfl (dd _ (by omega)) | exact Rd.blk 7 rfl (dd _ (by omega)) | exact Rd.blk 8 rfl (dd _ (by omega)) | exact Rd.blk 9 rfl (dd _ (by omega)) | exact Rd.blk 0 rfl rfl | exact Rd.blk 1 rfl rfl | exact Rd.blk 2 rfl rfl | exact Rd.blk 3 rfl rfl | exact Rd.blk 4 rfl rfl | exact Rd.blk 5 rfl rfl | exact Rd.blk 6 rfl rfl | exact Rd.blk 7 rfl rfl | exact Rd.blk 8 rfl rfl | exact Rd.blk 9 rfl rfl) (by decide) ?_
    refine xk_rem rfl rfl (by omega) (rem_in (by omega)) (by decide) ?_
    refine xk_add rfl rfl (wrap_in (by omega)) (by decide) ?_
    refine xk_lss rfl rfl (by decide) ?_
    refine XK.nilN ?_
    refine XK.if_ rfl (fun h => ?_) (fun h => ?_)
    ·
      refine XK.skip ?_
      refine XK.norm ?_
      refine XK.seq ?_
      refine XK.block ?_

      have hk2 : rs.length < 3 := by omega
      have p1 := hd.bd (50 + rs.length)
      refine XK.draw 10 (by kernel_rfl) (by kernel_rfl) ?_
      refine XA.dA 0 rfl rfl rfl (does_field (off := 2) (by kernel_rfl) rfl) ?_
      refine XA.dA 1 rfl rfl rfl (does_load (by kernel_rfl) rfl (by first | assumption | exact Rd.blk 0 rfl (dd _ (by omega)) | exact Rd.blk 1 rfl (dd _ (by omega)) | exact Rd.blk 2 rfl (dd _ (by omega)) | exact Rd.blk 3 rfl (dd _ (by omega)) | exact Rd.blk 4 rfl (dd _ (by omega)) | exact Rd.blk 5 rfl (dd _ (by omega)) | exact Rd.blk 6 rfl (dd _ (by omega)) | exact Rd.blk 7 rfl (dd _ (by omega)) | exact Rd.blk 8 rfl (dd _ (by omega)) | exact Rd.blk 9 rfl (dd _ (by omega)) | exact Rd.blk 0 rfl rfl | exact Rd.blk 1 rfl rfl | exact Rd.blk 2 rfl rfl | exact Rd.blk 3 rfl rfl | exact Rd.blk 4 rfl rfl | exact Rd.blk 5 rfl rfl | exact Rd.blk 6 rfl rfl | exact Rd.blk 7 rfl rfl | exact Rd.blk 8 rfl rfl | exact Rd.blk 9 rfl rfl)) ?_
      refine XA.dA 2 rfl rfl rfl (does_move rfl) ?_
      refine XA.dA 3 rfl rfl rfl (does_move rfl) ?_
      refine XA.dA 4 rfl rfl rfl (does_add rfl rfl (wrap_in (by omega))) ?_
      refine XA.dA 5 rfl rfl rfl (does_at (50 + rs.length) (50 + rs.length) (el := 3) (sz := 1) (by kernel_rfl) (by kernel_rfl) rfl rfl (by omega) (by omega) (by omega)) ?_
      refine XA.dA 6 rfl rfl rfl (does_load (by kernel_rfl) rfl (by first | assumption | exact Rd.blk 0 rfl (dd _ (by omega)) | exact Rd.blk 1 rfl (dd _ (by omega)) | exact Rd.blk 2 rfl (dd _ (by omega)) | exact Rd.blk 3 rfl (dd _ (by omega)) | exact Rd.blk 4 rfl (dd _ (by omega)) | exact Rd.blk 5 rfl (dd _ (by omega)) | exact Rd.blk 6 rfl (dd _ (by omega)) | exact Rd.blk 7 rfl (dd _ (by omega)) | exact Rd.blk 8 rfl (dd _ (by omega)) | exact Rd.blk 9 rfl (dd _ (by omega)) | exact Rd.blk 0 rfl rfl | exact Rd.blk 1 rfl rfl | exact Rd.blk 2 rfl rfl | exact Rd.blk 3 rfl rfl | exact Rd.blk 4 rfl rfl | exact Rd.blk 5 rfl rfl | exact Rd.blk 6 rfl rfl | exact Rd.blk 7 rfl rfl | exact Rd.blk 8 rfl rfl | exact Rd.blk 9 rfl rfl)) ?_
      refine XA.dA 7 rfl rfl rfl (does_rem rfl rfl (by omega) (rem_in (by omega))) ?_
      refine XA.dA 8 rfl rfl rfl (does_buildS (zs := [.int .i64 0]) (L := [(0, 1)]) (zeroB_of (by kernel_rfl)) (by kernel_rfl) rfl (by simp [fillL, setN, Value.cells]; rfl)) ?_
      refine XA.next 9 rfl (by kernel_rfl) ?_
      refine xk_slice (el := 71) (sz := 1) (zs := [.int .i64 0]) (by kernel_rfl) (zeroB_of (by kernel_rfl)) (by kernel_rfl) rfl (by decide) (by decide) rfl (by simp [fillL, setN, Value.cells, List.range_succ, List.set]; rfl) (by decide) fun g11 => ?_
      refine XA.bk ?_
      refine XA.next 10 rfl (by kernel_rfl) ?_
      refine xk_appendT 2 1 8 1 (n' := rs.length + 1) (el := 71) (by kernel_rfl) (by kernel_rfl) (by decide) rfl rfl rfl (sl_blk 0 rfl rfl) (by simp [Value.oneCell']) rfl (by omega) (by omega) (by decide) fun A3n c3n => ?_
      refine XA.bt ?_
      refine XA.next 11 rfl (by kernel_rfl) ?_
      refine xk_field (off := 2) (by kernel_rfl) rfl (by decide) ?_
      refine XA.bt ?_
      refine XA.next 12 rfl (by kernel_rfl) ?_
      refine xk_st rfl rfl ?_; dsimp only [List.set]
      refine XA.bt ?_
      refine XA.done (by kernel_rfl) ?_
      refine XK.norm ?_

      refine XK.region ?_
      refine xk_move rfl (by decide) ?_
      refine xk_add rfl rfl (wrap_in (by omega)) (by decide) ?_
      refine xk_assign rfl (by decide) ?_
      refine XK.nilN ?_
      exact XK.weak [1, 2, 3, 4, 5, 6] rfl (by decide) (fun _ h => h) (XK.envS [(13, .int .i64 (rs.length + 1)), (6, .pointer (some ⟨g4, 0, none⟩)), (4, .slice (some ⟨g2, 0, none⟩) 120 120), (2, .pointer (some ⟨g1, 0, none⟩))] (XK.round (4 - (rs.length + 1)) (by omega) ⟨rs ++ [dv ds (50 + rs.length) % 4], A3n, c3n, rows3 ++ [_], by simp; omega, by simp, by intro r hr; simp at hr; rcases hr with hr | hr; exact hrf r hr; omega, hrr.snoc (r := [.int .i64 (dv ds (50 + rs.length) % 4)]) rfl rfl, by simp, rfl, by simp⟩))
    ·
      refine XK.exit ?_
      refine XK.norm ?_
      exact XK.envS [(6, .pointer (some ⟨g4, 0, none⟩)), (4, .slice (some ⟨g2, 0, none⟩) 120 120), (2, .pointer (some ⟨g1, 0, none⟩))] (XK.meet ⟨rs, A3, c3, rows3, by omega, by omega, hrf, hrr, rfl, rfl, rfl⟩)
  rintro _ _ _ ⟨rs, A3, c3, rows3, hr1, hr3, hrf, hrr, rfl, rfl, rfl⟩
  refine XK.cut (fun e R H => ∃ (vs : List Dev) (A4 : Option Addr) (c4 : Nat) (q : Piece) (rows4 : List (List Value)), 1 ≤ vs.length ∧ vs.length ≤ 4 ∧ Rows (ClkR (slq q)) 6 cs rows1 ∧ Fits (Dev.fit cs.length dm.length rs.length) vs ∧ Rows (DevR (slq q)) 6 vs rows4 ∧ Fresh w q ∧ e = [(6, .pointer (some ⟨g4, 0, none⟩)), (4, .slice (some ⟨g2, 0, none⟩) 120 120), (2, .pointer (some ⟨g1, 0, none⟩))] ∧ R = [q, all w] ∧ H = [HP.blk g4 28 [.slice A1 cs.length c1, .slice A2 dm.length c2, .slice A3 rs.length c3, .slice A4 vs.length c4], HP.own 51 6 (.slice A4 vs.length c4) vs.length rows4.flatten, HP.own 71 1 (.slice A3 rs.length c3) rs.length rows3.flatten, HP.own 69 3 (.slice A2 dm.length c2) dm.length rows2.flatten, HP.own 55 6 (.slice A1 cs.length c1) cs.length rows1.flatten, HP.blk g2 3 (intCells ds), HP.blk g1 28 [.slice none 0 0, .slice none 0 0, .slice none 0 0, .slice none 0 0]]) ?_ ?_
  ·
    refine XK.seq ?_

    refine XK.region ?_
    refine xk_assign rfl (by decide) ?_
    refine XK.nilN ?_
    refine XK.nilrow 51 6 ?_
    refine XK.weak [1, 0, 2, 3, 4, 5, 6] rfl (by decide) (fun _ h => h) ?_
    refine XK.envS [(14, .int .i64 0), (6, .pointer (some ⟨g4, 0, none⟩)), (4, .slice (some ⟨g2, 0, none⟩) 120 120), (2, .pointer (some ⟨g1, 0, none⟩))] ?_
    refine XK.block ?_
    refine XK.loop (fun m e R H => ∃ (vs : List Dev) (A4 : Option Addr) (c4 : Nat) (q : Piece) (rows4 : List (List Value)), (vs.length : Int) ≤ 1 + dv ds 4 % 4 ∧ m = 5 - vs.length ∧ Rows (ClkR (slq q)) 6 cs rows1 ∧ Fits (Dev.fit cs.length dm.length rs.length) vs ∧ Rows (DevR (slq q)) 6 vs rows4 ∧ Fresh w q ∧ e = [(14, .int .i64 vs.length), (6, .pointer (some ⟨g4, 0, none⟩)), (4, .slice (some ⟨g2, 0, none⟩) 120 120), (2, .pointer (some ⟨g1, 0, none⟩))] ∧ R = [q, all w] ∧ H = [HP.blk g4 28 [.slice A1 cs.length c1, .slice A2 dm.length c2, .slice A3 rs.length c3, .slice A4 vs.length c4], HP.own 51 6 (.slice A4 vs.length c4) vs.length rows4.flatten, HP.own 71 1 (.slice A3 rs.length c3) rs.length rows3.flatten, HP.own 69 3 (.slice A2 dm.length c2) dm.length rows2.flatten, HP.own 55 6 (.slice A1 cs.length c1) cs.length rows1.flatten, HP.blk g2 3 (intCells ds), HP.blk g1 28 [.slice none 0 0, .slice none 0 0, .slice none 0 0, .slice none 0 0]]) 5 ⟨[], none, 0, q, [], by simp; omega, rfl, hcr, Fits.nil _, trivial, hq, rfl, rfl, rfl⟩ fun m e R H hI => ?_
    obtain ⟨vs, A4, c4, q, rows4, hk, rfl, hcr, hvf, hvr, hq, rfl, rfl, rfl⟩ := hI
    refine XK.seq ?_
    refine XK.seq ?_

    refine XK.region ?_
    refine xk_move rfl (by decide) ?_
    refine xk_move rfl (by decide) ?_
    refine xk_at 4 4 (el := 3) (sz := 1) (by kernel_rfl) (by kernel_rfl) rfl rfl (by rfl) (by omega) (by omega) (by decide) ?_
    refine xk_load (by kernel_rfl) rfl (by first | assumption | exact Rd.blk 0 rfl (dd _ (by omega)) | exact Rd.blk 1 rfl (dd _ (by omega)) | exact Rd.blk 2 rfl (dd _ (by omega)) | exact Rd.blk 3 rfl (dd _ (by omega)) | exact Rd.blk 4 rfl (dd _ (by omega)) | exact Rd.blk 5 rfl (dd _ (by omega)) | exact Rd.blk 6 rfl (dd _ (by omega)) | exact Rd.blk 7 rfl (dd _ (by omega)) | exact Rd.blk 8 rfl (dd _ (by omega)) | exact Rd.blk 9 rfl (dd _ (by omega)) | exact Rd.blk 0 rfl rfl | exact Rd.blk 1 rfl rfl | exact Rd.blk 2 rfl rfl | exact Rd.blk 3 rfl rfl | exact Rd.blk 4 rfl rfl | exact Rd.blk 5 rfl rfl | exact Rd.blk 6 rfl rfl | exact Rd.blk 7 rfl rfl | exact Rd.blk 8 rfl rfl | exact Rd.blk 9 rfl rfl) (by decide) ?_
    refine xk_rem rfl rfl (by omega) (rem_in (by omega)) (by decide) ?_
    refine xk_add rfl rfl (wrap_in (by omega)) (by decide) ?_
    refine xk_lss rfl rfl (by decide) ?_
    refine XK.nilN ?_
    refine XK.if_ rfl (fun h => ?_) (fun h => ?_)
    ·
      refine XK.skip ?_
      refine XK.norm ?_
      refine XK.seq ?_
      refine XK.block ?_
      refine XK.seq ?_
      have hk2 : vs.length < 4 := by omega
      have p0 := hd.bd (60 + 12 * vs.length)
      have p1 := hd.bd (61 + 12 * vs.length)
      have p2 := hd.bd (62 + 12 * vs.length)
      have p3 := hd.bd (63 + 12 * vs.length)
      have p4 := hd.bd (64 + 12 * vs.length)
      have p9 := hd.bd (69 + 12 * vs.length)
      have p10 := hd.bd (70 + 12 * vs.length)
      have p11 := hd.bd (71 + 12 * vs.length)
      have q0 := emod_bd (dv ds (60 + 12 * vs.length)) (n := (cs.length : Int)) (by omega)
      have q1 := emod_bd (dv ds (61 + 12 * vs.length)) (n := (dm.length : Int)) (by omega)
      have q2 := emod_bd (dv ds (62 + 12 * vs.length)) (n := (rs.length : Int)) (by omega)

      refine XK.region ?_
      refine xk_move rfl (by decide) ?_
      refine xk_mul rfl rfl (wrap_in (by omega)) (by decide) ?_
      refine xk_add rfl rfl (wrap_in (by omega)) (by decide) ?_
      refine xk_assign rfl (by decide) ?_
      refine XK.nilN ?_
      refine XK.seq ?_

      refine XK.draw 35 (by kernel_rfl) (by kernel_rfl) ?_
      refine XA.dA 0 rfl rfl rfl (does_move rfl) ?_
      refine XA.dA 1 rfl rfl rfl (does_move rfl) ?_
      refine XA.dA 2 rfl rfl rfl (does_at (60 + 12 * vs.length) (60 + 12 * vs.length) (el := 3) (sz := 1) (by kernel_rfl) (by kernel_rfl) rfl rfl (by omega) (by omega) (by omega)) ?_
      refine XA.dA 3 rfl rfl rfl (does_load (by kernel_rfl) rfl (by first | assumption | exact Rd.blk 0 rfl (dd _ (by omega)) | exact Rd.blk 1 rfl (dd _ (by omega)) | exact Rd.blk 2 rfl (dd _ (by omega)) | exact Rd.blk 3 rfl (dd _ (by omega)) | exact Rd.blk 4 rfl (dd _ (by omega)) | exact Rd.blk 5 rfl (dd _ (by omega)) | exact Rd.blk 6 rfl (dd _ (by omega)) | exact Rd.blk 7 rfl (dd _ (by omega)) | exact Rd.blk 8 rfl (dd _ (by omega)) | exact Rd.blk 9 rfl (dd _ (by omega)) | exact Rd.blk 0 rfl rfl | exact Rd.blk 1 rfl rfl | exact Rd.blk 2 rfl rfl | exact Rd.blk 3 rfl rfl | exact Rd.blk 4 rfl rfl | exact Rd.blk 5 rfl rfl | exact Rd.blk 6 rfl rfl | exact Rd.blk 7 rfl rfl | exact Rd.blk 8 rfl rfl | exact Rd.blk 9 rfl rfl)) ?_
      refine XA.dA 4 rfl rfl rfl (does_field (off := 0) (by kernel_rfl) rfl) ?_
      refine XA.dA 5 rfl rfl rfl (does_load (by kernel_rfl) rfl (by first | assumption | exact Rd.blk 0 rfl (dd _ (by omega)) | exact Rd.blk 1 rfl (dd _ (by omega)) | exact Rd.blk 2 rfl (dd _ (by omega)) | exact Rd.blk 3 rfl (dd _ (by omega)) | exact Rd.blk 4 rfl (dd _ (by omega)) | exact Rd.blk 5 rfl (dd _ (by omega)) | exact Rd.blk 6 rfl (dd _ (by omega)) | exact Rd.blk 7 rfl (dd _ (by omega)) | exact Rd.blk 8 rfl (dd _ (by omega)) | exact Rd.blk 9 rfl (dd _ (by omega)) | exact Rd.blk 0 rfl rfl | exact Rd.blk 1 rfl rfl | exact Rd.blk 2 rfl rfl | exact Rd.blk 3 rfl rfl | exact Rd.blk 4 rfl rfl | exact Rd.blk 5 rfl rfl | exact Rd.blk 6 rfl rfl | exact Rd.blk 7 rfl rfl | exact Rd.blk 8 rfl rfl | exact Rd.blk 9 rfl rfl)) ?_
      refine XA.dA 6 rfl rfl rfl (does_len (el := 55) (by kernel_rfl) rfl) ?_
      refine XA.dA 7 rfl rfl rfl (does_rem rfl rfl (by omega) (rem_in (by omega))) ?_
      refine XA.dA 8 rfl rfl rfl (does_move rfl) ?_
      refine XA.dA 9 rfl rfl rfl (does_move rfl) ?_
      refine XA.dA 10 rfl rfl rfl (does_add rfl rfl (wrap_in (by omega))) ?_
      refine XA.dA 11 rfl rfl rfl (does_at (61 + 12 * vs.length) (61 + 12 * vs.length) (el := 3) (sz := 1) (by kernel_rfl) (by kernel_rfl) rfl rfl (by omega) (by omega) (by omega)) ?_
      refine XA.dA 12 rfl rfl rfl (does_load (by kernel_rfl) rfl (by first | assumption | exact Rd.blk 0 rfl (dd _ (by omega)) | exact Rd.blk 1 rfl (dd _ (by omega)) | exact Rd.blk 2 rfl (dd _ (by omega)) | exact Rd.blk 3 rfl (dd _ (by omega)) | exact Rd.blk 4 rfl (dd _ (by omega)) | exact Rd.blk 5 rfl (dd _ (by omega)) | exact Rd.blk 6 rfl (dd _ (by omega)) | exact Rd.blk 7 rfl (dd _ (by omega)) | exact Rd.blk 8 rfl (dd _ (by omega)) | exact Rd.blk 9 rfl (dd _ (by omega)) | exact Rd.blk 0 rfl rfl | exact Rd.blk 1 rfl rfl | exact Rd.blk 2 rfl rfl | exact Rd.blk 3 rfl rfl | exact Rd.blk 4 rfl rfl | exact Rd.blk 5 rfl rfl | exact Rd.blk 6 rfl rfl | exact Rd.blk 7 rfl rfl | exact Rd.blk 8 rfl rfl | exact Rd.blk 9 rfl rfl)) ?_
      refine XA.dA 13 rfl rfl rfl (does_field (off := 1) (by kernel_rfl) rfl) ?_
      refine XA.dA 14 rfl rfl rfl (does_load (by kernel_rfl) rfl (by first | assumption | exact Rd.blk 0 rfl (dd _ (by omega)) | exact Rd.blk 1 rfl (dd _ (by omega)) | exact Rd.blk 2 rfl (dd _ (by omega)) | exact Rd.blk 3 rfl (dd _ (by omega)) | exact Rd.blk 4 rfl (dd _ (by omega)) | exact Rd.blk 5 rfl (dd _ (by omega)) | exact Rd.blk 6 rfl (dd _ (by omega)) | exact Rd.blk 7 rfl (dd _ (by omega)) | exact Rd.blk 8 rfl (dd _ (by omega)) | exact Rd.blk 9 rfl (dd _ (by omega)) | exact Rd.blk 0 rfl rfl | exact Rd.blk 1 rfl rfl | exact Rd.blk 2 rfl rfl | exact Rd.blk 3 rfl rfl | exact Rd.blk 4 rfl rfl | exact Rd.blk 5 rfl rfl | exact Rd.blk 6 rfl rfl | exact Rd.blk 7 rfl rfl | exact Rd.blk 8 rfl rfl | exact Rd.blk 9 rfl rfl)) ?_
      refine XA.dA 15 rfl rfl rfl (does_len (el := 69) (by kernel_rfl) rfl) ?_
      refine XA.dA 16 rfl rfl rfl (does_rem rfl rfl (by omega) (rem_in (by omega))) ?_
      refine XA.dA 17 rfl rfl rfl (does_move rfl) ?_
      refine XA.dA 18 rfl rfl rfl (does_move rfl) ?_
      refine XA.dA 19 rfl rfl rfl (does_add rfl rfl (wrap_in (by omega))) ?_
      refine XA.dA 20 rfl rfl rfl (does_at (62 + 12 * vs.length) (62 + 12 * vs.length) (el := 3) (sz := 1) (by kernel_rfl) (by kernel_rfl) rfl rfl (by omega) (by omega) (by omega)) ?_
      refine XA.dA 21 rfl rfl rfl (does_load (by kernel_rfl) rfl (by first | assumption | exact Rd.blk 0 rfl (dd _ (by omega)) | exact Rd.blk 1 rfl (dd _ (by omega)) | exact Rd.blk 2 rfl (dd _ (by omega)) | exact Rd.blk 3 rfl (dd _ (by omega)) | exact Rd.blk 4 rfl (dd _ (by omega)) | exact Rd.blk 5 rfl (dd _ (by omega)) | exact Rd.blk 6 rfl (dd _ (by omega)) | exact Rd.blk 7 rfl (dd _ (by omega)) | exact Rd.blk 8 rfl (dd _ (by omega)) | exact Rd.blk 9 rfl (dd _ (by omega)) | exact Rd.blk 0 rfl rfl | exact Rd.blk 1 rfl rfl | exact Rd.blk 2 rfl rfl | exact Rd.blk 3 rfl rfl | exact Rd.blk 4 rfl rfl | exact Rd.blk 5 rfl rfl | exact Rd.blk 6 rfl rfl | exact Rd.blk 7 rfl rfl | exact Rd.blk 8 rfl rfl | exact Rd.blk 9 rfl rfl)) ?_
      refine XA.dA 22 rfl rfl rfl (does_field (off := 2) (by kernel_rfl) rfl) ?_
      refine XA.dA 23 rfl rfl rfl (does_load (by kernel_rfl) rfl (by first | assumption | exact Rd.blk 0 rfl (dd _ (by omega)) | exact Rd.blk 1 rfl (dd _ (by omega)) | exact Rd.blk 2 rfl (dd _ (by omega)) | exact Rd.blk 3 rfl (dd _ (by omega)) | exact Rd.blk 4 rfl (dd _ (by omega)) | exact Rd.blk 5 rfl (dd _ (by omega)) | exact Rd.blk 6 rfl (dd _ (by omega)) | exact Rd.blk 7 rfl (dd _ (by omega)) | exact Rd.blk 8 rfl (dd _ (by omega)) | exact Rd.blk 9 rfl (dd _ (by omega)) | exact Rd.blk 0 rfl rfl | exact Rd.blk 1 rfl rfl | exact Rd.blk 2 rfl rfl | exact Rd.blk 3 rfl rfl | exact Rd.blk 4 rfl rfl | exact Rd.blk 5 rfl rfl | exact Rd.blk 6 rfl rfl | exact Rd.blk 7 rfl rfl | exact Rd.blk 8 rfl rfl | exact Rd.blk 9 rfl rfl)) ?_
      refine XA.dA 24 rfl rfl rfl (does_len (el := 71) (by kernel_rfl) rfl) ?_
      refine XA.dA 25 rfl rfl rfl (does_rem rfl rfl (by omega) (rem_in (by omega))) ?_
      refine XA.dA 26 rfl rfl rfl (does_move rfl) ?_
      refine XA.dA 27 rfl rfl rfl (does_move rfl) ?_
      refine XA.dA 28 rfl rfl rfl (does_add rfl rfl (wrap_in (by omega))) ?_
      refine XA.dA 29 rfl rfl rfl (does_at (63 + 12 * vs.length) (63 + 12 * vs.length) (el := 3) (sz := 1) (by kernel_rfl) (by kernel_rfl) rfl rfl (by omega) (by omega) (by omega)) ?_
      refine XA.dA 30 rfl rfl rfl (does_load (by kernel_rfl) rfl (by first | assumption | exact Rd.blk 0 rfl (dd _ (by omega)) | exact Rd.blk 1 rfl (dd _ (by omega)) | exact Rd.blk 2 rfl (dd _ (by omega)) | exact Rd.blk 3 rfl (dd _ (by omega)) | exact Rd.blk 4 rfl (dd _ (by omega)) | exact Rd.blk 5 rfl (dd _ (by omega)) | exact Rd.blk 6 rfl (dd _ (by omega)) | exact Rd.blk 7 rfl (dd _ (by omega)) | exact Rd.blk 8 rfl (dd _ (by omega)) | exact Rd.blk 9 rfl (dd _ (by omega)) | exact Rd.blk 0 rfl rfl | exact Rd.blk 1 rfl rfl | exact Rd.blk 2 rfl rfl | exact Rd.blk 3 rfl rfl | exact Rd.blk 4 rfl rfl | exact Rd.blk 5 rfl rfl | exact Rd.blk 6 rfl rfl | exact Rd.blk 7 rfl rfl | exact Rd.blk 8 rfl rfl | exact Rd.blk 9 rfl rfl)) ?_
      refine XA.dA 31 rfl rfl rfl (does_rem rfl rfl (by omega) (rem_in (by omega))) ?_
      refine XA.dA 32 rfl rfl rfl (does_conv (ds := .int .i64) (by kernel_rfl) (by kernel_rfl) rfl (wrap_u32 (by omega))) ?_
      refine XA.dA 33 rfl rfl rfl (does_buildS (zs := [.int .i64 0, .int .i64 0, .int .i64 0, .int .u32 0, .slice none 0 0, .slice none 0 0]) (L := [(0, 1), (1, 1), (2, 1), (3, 1), (4, 1), (5, 1)]) (zeroB_of (by kernel_rfl)) (by kernel_rfl) rfl (by simp [fillL, setN, Value.cells]; rfl)) ?_
      refine XA.next 34 rfl (by kernel_rfl) ?_
      refine xk_alloc (cs := [.int .i64 0, .int .i64 0, .int .i64 0, .int .u32 0, .slice none 0 0, .slice none 0 0]) (zeroB_of (by kernel_rfl)) (by decide) fun g12 => ?_
      refine XA.bk ?_
      refine XA.next 35 rfl (by kernel_rfl) ?_
      (first | (refine xk_storeN 0 rfl rfl rfl (by kernel_rfl) (by simp [Value.cells, Value.oneCell']) (by simp [Value.cells]) ?_) | (refine xk_storeN 1 rfl rfl rfl (by kernel_rfl) (by simp [Value.cells, Value.oneCell']) (by simp [Value.cells]) ?_) | (refine xk_storeN 2 rfl rfl rfl (by kernel_rfl) (by simp [Value.cells, Value.oneCell']) (by simp [Value.cells]) ?_) | (refine xk_storeN 3 rfl rfl rfl (by kernel_rfl) (by simp [Value.cells, Value.oneCell']) (by simp [Value.cells]) ?_) | (refine xk_storeN 4 rfl rfl rfl (by kernel_rfl) (by simp [Value.cells, Value.oneCell']) (by simp [Value.cells]) ?_) | (refine xk_storeN 5 rfl rfl rfl (by kernel_rfl) (by simp [Value.cells, Value.oneCell']) (by simp [Value.cells]) ?_) | (refine xk_storeN 6 rfl rfl rfl (by kernel_rfl) (by simp [Value.cells, Value.oneCell']) (by simp [Value.cells]) ?_) | (refine xk_storeN 7 rfl rfl rfl (by kernel_rfl) (by simp [Value.cells, Value.oneCell']) (by simp [Value.cells]) ?_) | (refine xk_storeN 8 rfl rfl rfl (by kernel_rfl) (by simp [Value.cells, Value.oneCell']) (by simp [Value.cells]) ?_)); simp only [putN, Value.cells, List.set, List.take, List.drop, List.nil_append, List.append_nil, List.length_cons, List.length_nil, List.cons_append, Nat.reduceAdd]
      refine XA.bt ?_
      refine XA.done (by kernel_rfl) ?_
      refine XK.norm ?_
      refine XK.cut (fun e R H => ∃ (rg : List Rg) (A5 : Option Addr) (c5 : Nat), rg.length ≤ 4 ∧ (∀ r ∈ rg, 0 ≤ r.reset ∧ r.reset ≤ 6) ∧ e = [(16, .pointer (some ⟨g12, 0, none⟩)), (15, .int .i64 (60 + 12 * vs.length)), (14, .int .i64 vs.length), (6, .pointer (some ⟨g4, 0, none⟩)), (4, .slice (some ⟨g2, 0, none⟩) 120 120), (2, .pointer (some ⟨g1, 0, none⟩))] ∧ R = [q, all w] ∧ H = [HP.blk g12 51 [.int .i64 (dv ds (60 + 12 * vs.length) % cs.length), .int .i64 (dv ds (61 + 12 * vs.length) % dm.length), .int .i64 (dv ds (62 + 12 * vs.length) % rs.length), .int .u32 (dv ds (63 + 12 * vs.length) % 3), .slice A5 rg.length c5, .slice none 0 0], HP.own 57 2 (.slice A5 rg.length c5) rg.length (rg.flatMap Rg.cells), HP.blk g4 28 [.slice A1 cs.length c1, .slice A2 dm.length c2, .slice A3 rs.length c3, .slice A4 vs.length c4], HP.own 51 6 (.slice A4 vs.length c4) vs.length rows4.flatten, HP.own 71 1 (.slice A3 rs.length c3) rs.length rows3.flatten, HP.own 69 3 (.slice A2 dm.length c2) dm.length rows2.flatten, HP.own 55 6 (.slice A1 cs.length c1) cs.length rows1.flatten, HP.blk g2 3 (intCells ds), HP.blk g1 28 [.slice none 0 0, .slice none 0 0, .slice none 0 0, .slice none 0 0]]) ?_ ?_
      ·
        refine XK.seq ?_

        refine XK.region ?_
        refine xk_assign rfl (by decide) ?_
        refine XK.nilN ?_
        refine XK.nilrow 57 2 ?_
        refine XK.weak [1, 0, 2, 3, 4, 5, 6, 7, 8] rfl (by decide) (fun _ h => h) ?_
        refine XK.envS [(17, .int .i64 0), (16, .pointer (some ⟨g12, 0, none⟩)), (15, .int .i64 (60 + 12 * vs.length)), (14, .int .i64 vs.length), (6, .pointer (some ⟨g4, 0, none⟩)), (4, .slice (some ⟨g2, 0, none⟩) 120 120), (2, .pointer (some ⟨g1, 0, none⟩))] ?_
        refine XK.block ?_
        refine XK.loop (fun m e R H => ∃ (rg : List Rg) (A5 : Option Addr) (c5 : Nat), (rg.length : Int) ≤ dv ds (64 + 12 * vs.length) % 5 ∧ m = 5 - rg.length ∧ (∀ r ∈ rg, 0 ≤ r.reset ∧ r.reset ≤ 6) ∧ e = [(17, .int .i64 rg.length), (16, .pointer (some ⟨g12, 0, none⟩)), (15, .int .i64 (60 + 12 * vs.length)), (14, .int .i64 vs.length), (6, .pointer (some ⟨g4, 0, none⟩)), (4, .slice (some ⟨g2, 0, none⟩) 120 120), (2, .pointer (some ⟨g1, 0, none⟩))] ∧ R = [q, all w] ∧ H = [HP.blk g12 51 [.int .i64 (dv ds (60 + 12 * vs.length) % cs.length), .int .i64 (dv ds (61 + 12 * vs.length) % dm.length), .int .i64 (dv ds (62 + 12 * vs.length) % rs.length), .int .u32 (dv ds (63 + 12 * vs.length) % 3), .slice A5 rg.length c5, .slice none 0 0], HP.own 57 2 (.slice A5 rg.length c5) rg.length (rg.flatMap Rg.cells), HP.blk g4 28 [.slice A1 cs.length c1, .slice A2 dm.length c2, .slice A3 rs.length c3, .slice A4 vs.length c4], HP.own 51 6 (.slice A4 vs.length c4) vs.length rows4.flatten, HP.own 71 1 (.slice A3 rs.length c3) rs.length rows3.flatten, HP.own 69 3 (.slice A2 dm.length c2) dm.length rows2.flatten, HP.own 55 6 (.slice A1 cs.length c1) cs.length rows1.flatten, HP.blk g2 3 (intCells ds), HP.blk g1 28 [.slice none 0 0, .slice none 0 0, .slice none 0 0, .slice none 0 0]]) 5 ⟨[], none, 0, by simp; omega, rfl, by simp, rfl, rfl, rfl⟩ fun m e R H hI => ?_
        obtain ⟨rg, A5, c5, hj, rfl, hgf, rfl, rfl, rfl⟩ := hI
        refine XK.seq ?_
        refine XK.seq ?_

        refine XK.region ?_
        refine xk_move rfl (by decide) ?_
        refine xk_move rfl (by decide) ?_
        refine xk_move rfl (by decide) ?_
        refine xk_add rfl rfl (wrap_in (by omega)) (by decide) ?_
        refine xk_at (64 + 12 * vs.length) (64 + 12 * vs.length) (el := 3) (sz := 1) (by kernel_rfl) (by kernel_rfl) rfl rfl (by omega) (by omega) (by omega) (by decide) ?_
        refine xk_load (by kernel_rfl) rfl (by first | assumption | exact Rd.blk 0 rfl (dd _ (by omega)) | exact Rd.blk 1 rfl (dd _ (by omega)) | exact Rd.blk 2 rfl (dd _ (by omega)) | exact Rd.blk 3 rfl (dd _ (by omega)) | exact Rd.blk 4 rfl (dd _ (by omega)) | exact Rd.blk 5 rfl (dd _ (by omega)) | exact Rd.blk 6 rfl (dd _ (by omega)) | exact Rd.blk 7 rfl (dd _ (by omega)) | exact Rd.blk 8 rfl (dd _ (by omega)) | exact Rd.blk 9 rfl (dd _ (by omega)) | exact Rd.blk 0 rfl rfl | exact Rd.blk 1 rfl rfl | exact Rd.blk 2 rfl rfl | exact Rd.blk 3 rfl rfl | exact Rd.blk 4 rfl rfl | exact Rd.blk 5 rfl rfl | exact Rd.blk 6 rfl rfl | exact Rd.blk 7 rfl rfl | exact Rd.blk 8 rfl rfl | exact Rd.blk 9 rfl rfl) (by decide) ?_
        refine xk_rem rfl rfl (by omega) (rem_in (by omega)) (by decide) ?_
        refine xk_lss rfl rfl (by decide) ?_
        refine XK.nilN ?_
        refine XK.if_ rfl (fun h => ?_) (fun h => ?_)
        ·
          refine XK.skip ?_
          refine XK.norm ?_
          refine XK.seq ?_
          refine XK.block ?_

          have hj2 : rg.length < 4 := by omega
          have r1 := hd.bd (65 + 12 * vs.length + rg.length)
          refine XK.draw 23 (by kernel_rfl) (by kernel_rfl) ?_
          refine XA.dA 0 rfl rfl rfl (does_field (off := 4) (by kernel_rfl) rfl) ?_
          refine XA.dA 1 rfl rfl rfl (does_load (by kernel_rfl) rfl (by first | assumption | exact Rd.blk 0 rfl (dd _ (by omega)) | exact Rd.blk 1 rfl (dd _ (by omega)) | exact Rd.blk 2 rfl (dd _ (by omega)) | exact Rd.blk 3 rfl (dd _ (by omega)) | exact Rd.blk 4 rfl (dd _ (by omega)) | exact Rd.blk 5 rfl (dd _ (by omega)) | exact Rd.blk 6 rfl (dd _ (by omega)) | exact Rd.blk 7 rfl (dd _ (by omega)) | exact Rd.blk 8 rfl (dd _ (by omega)) | exact Rd.blk 9 rfl (dd _ (by omega)) | exact Rd.blk 0 rfl rfl | exact Rd.blk 1 rfl rfl | exact Rd.blk 2 rfl rfl | exact Rd.blk 3 rfl rfl | exact Rd.blk 4 rfl rfl | exact Rd.blk 5 rfl rfl | exact Rd.blk 6 rfl rfl | exact Rd.blk 7 rfl rfl | exact Rd.blk 8 rfl rfl | exact Rd.blk 9 rfl rfl)) ?_
          refine XA.dA 2 rfl rfl rfl (does_move rfl) ?_
          refine XA.dA 3 rfl rfl rfl (does_move rfl) ?_
          refine XA.dA 4 rfl rfl rfl (does_add rfl rfl (wrap_in (by omega))) ?_
          refine XA.dA 5 rfl rfl rfl (does_move rfl) ?_
          refine XA.dA 6 rfl rfl rfl (does_add rfl rfl (wrap_in (by omega))) ?_
          refine XA.dA 7 rfl rfl rfl (does_at (65 + 12 * vs.length + rg.length) (65 + 12 * vs.length + rg.length) (el := 3) (sz := 1) (by kernel_rfl) (by kernel_rfl) rfl rfl (by omega) (by omega) (by omega)) ?_
          refine XA.dA 8 rfl rfl rfl (does_load (by kernel_rfl) rfl (by first | assumption | exact Rd.blk 0 rfl (dd _ (by omega)) | exact Rd.blk 1 rfl (dd _ (by omega)) | exact Rd.blk 2 rfl (dd _ (by omega)) | exact Rd.blk 3 rfl (dd _ (by omega)) | exact Rd.blk 4 rfl (dd _ (by omega)) | exact Rd.blk 5 rfl (dd _ (by omega)) | exact Rd.blk 6 rfl (dd _ (by omega)) | exact Rd.blk 7 rfl (dd _ (by omega)) | exact Rd.blk 8 rfl (dd _ (by omega)) | exact Rd.blk 9 rfl (dd _ (by omega)) | exact Rd.blk 0 rfl rfl | exact Rd.blk 1 rfl rfl | exact Rd.blk 2 rfl rfl | exact Rd.blk 3 rfl rfl | exact Rd.blk 4 rfl rfl | exact Rd.blk 5 rfl rfl | exact Rd.blk 6 rfl rfl | exact Rd.blk 7 rfl rfl | exact Rd.blk 8 rfl rfl | exact Rd.blk 9 rfl rfl)) ?_
          refine XA.dA 9 rfl rfl rfl (does_rem rfl rfl (by omega) (rem_in (by omega))) ?_
          refine XA.dA 10 rfl rfl rfl (does_conv (ds := .int .i64) (by kernel_rfl) (by kernel_rfl) rfl (wrap_u32 (by omega))) ?_
          refine XA.dA 11 rfl rfl rfl (does_move rfl) ?_
          refine XA.dA 12 rfl rfl rfl (does_move rfl) ?_
          refine XA.dA 13 rfl rfl rfl (does_add rfl rfl (wrap_in (by omega))) ?_
          refine XA.dA 14 rfl rfl rfl (does_move rfl) ?_
          refine XA.dA 15 rfl rfl rfl (does_add rfl rfl (wrap_in (by omega))) ?_
          refine XA.dA 16 rfl rfl rfl (does_at (65 + 12 * vs.length + rg.length) (65 + 12 * vs.length + rg.length) (el := 3) (sz := 1) (by kernel_rfl) (by kernel_rfl) rfl rfl (by omega) (by omega) (by omega)) ?_
          refine XA.dA 17 rfl rfl rfl (does_load (by kernel_rfl) rfl (by first | assumption | exact Rd.blk 0 rfl (dd _ (by omega)) | exact Rd.blk 1 rfl (dd _ (by omega)) | exact Rd.blk 2 rfl (dd _ (by omega)) | exact Rd.blk 3 rfl (dd _ (by omega)) | exact Rd.blk 4 rfl (dd _ (by omega)) | exact Rd.blk 5 rfl (dd _ (by omega)) | exact Rd.blk 6 rfl (dd _ (by omega)) | exact Rd.blk 7 rfl (dd _ (by omega)) | exact Rd.blk 8 rfl (dd _ (by omega)) | exact Rd.blk 9 rfl (dd _ (by omega)) | exact Rd.blk 0 rfl rfl | exact Rd.blk 1 rfl rfl | exact Rd.blk 2 rfl rfl | exact Rd.blk 3 rfl rfl | exact Rd.blk 4 rfl rfl | exact Rd.blk 5 rfl rfl | exact Rd.blk 6 rfl rfl | exact Rd.blk 7 rfl rfl | exact Rd.blk 8 rfl rfl | exact Rd.blk 9 rfl rfl)) ?_
          refine XA.dA 18 rfl rfl rfl (does_quo rfl rfl (by omega) (quo_in (by omega) (by omega) (by omega))) ?_
          refine XA.dA 19 rfl rfl rfl (does_rem rfl rfl (by omega) (rem_in (by omega))) ?_
          refine XA.dA 20 rfl rfl rfl (does_eql rfl rfl) ?_
          refine XA.dA 21 rfl rfl rfl (does_buildS (zs := [.int .u32 0, .bool false]) (L := [(0, 1), (1, 1)]) (zeroB_of (by kernel_rfl)) (by kernel_rfl) rfl (by simp [fillL, setN, Value.cells]; rfl)) ?_
          refine XA.next 22 rfl (by kernel_rfl) ?_
          refine xk_slice (el := 57) (sz := 2) (zs := [.int .u32 0, .bool false]) (by kernel_rfl) (zeroB_of (by kernel_rfl)) (by kernel_rfl) rfl (by decide) (by decide) rfl (by simp [fillL, setN, Value.cells, List.range_succ, List.set]; rfl) (by decide) fun g13 => ?_
          refine XA.bk ?_
          refine XA.next 23 rfl (by kernel_rfl) ?_
          refine xk_appendT 2 2 8 1 (n' := rg.length + 1) (el := 57) (by kernel_rfl) (by kernel_rfl) (by decide) rfl rfl rfl (sl_blk 0 rfl rfl) (by simp [Value.oneCell']) rfl (by omega) (by omega) (by decide) fun A5n c5n => ?_
          refine XA.bt ?_
          refine XA.next 24 rfl (by kernel_rfl) ?_
          refine xk_field (off := 4) (by kernel_rfl) rfl (by decide) ?_
          refine XA.bt ?_
          refine XA.next 25 rfl (by kernel_rfl) ?_
          refine xk_st rfl rfl ?_; dsimp only [List.set]
          refine XA.bt ?_
          refine XA.done (by kernel_rfl) ?_
          refine XK.norm ?_

          refine XK.region ?_
          refine xk_move rfl (by decide) ?_
          refine xk_add rfl rfl (wrap_in (by omega)) (by decide) ?_
          refine xk_assign rfl (by decide) ?_
          refine XK.nilN ?_
          exact XK.weak [1, 2, 3, 4, 5, 6, 7, 8, 9] rfl (by decide) (fun _ h => h) (XK.envS [(17, .int .i64 (rg.length + 1)), (16, .pointer (some ⟨g12, 0, none⟩)), (15, .int .i64 (60 + 12 * vs.length)), (14, .int .i64 vs.length), (6, .pointer (some ⟨g4, 0, none⟩)), (4, .slice (some ⟨g2, 0, none⟩) 120 120), (2, .pointer (some ⟨g1, 0, none⟩))] (XK.round (5 - (rg.length + 1)) (by omega) ⟨rg ++ [⟨dv ds (65 + 12 * vs.length + rg.length) % 7, decide (dv ds (65 + 12 * vs.length + rg.length) / 7 % 2 = 0)⟩], A5n, c5n, by simp; omega, by simp, by intro r hr; simp at hr; rcases hr with hr | hr; exact hgf r hr; subst hr; dsimp only; omega, by simp, rfl, by simp [Rg.cells]⟩))
        ·
          refine XK.exit ?_
          refine XK.norm ?_
          exact XK.envS [(16, .pointer (some ⟨g12, 0, none⟩)), (15, .int .i64 (60 + 12 * vs.length)), (14, .int .i64 vs.length), (6, .pointer (some ⟨g4, 0, none⟩)), (4, .slice (some ⟨g2, 0, none⟩) 120 120), (2, .pointer (some ⟨g1, 0, none⟩))] (XK.meet ⟨rg, A5, c5, by omega, hgf, rfl, rfl, rfl⟩)
      rintro _ _ _ ⟨rg, A5, c5, hg4, hgf, rfl, rfl, rfl⟩
      refine XK.nilrow 3 1 ?_
      refine XK.weak [1, 0, 2, 3, 4, 5, 6, 7, 8, 9] rfl (by decide) (fun _ h => h) ?_
      refine XK.cut (fun e R H => ∃ (nd : List Int) (A6 : Option Addr) (c6 : Nat), nd.length ≤ 1 ∧ (∀ f ∈ nd, 0 ≤ f ∧ f < vs.length) ∧ e = [(16, .pointer (some ⟨g12, 0, none⟩)), (15, .int .i64 (60 + 12 * vs.length)), (14, .int .i64 vs.length), (6, .pointer (some ⟨g4, 0, none⟩)), (4, .slice (some ⟨g2, 0, none⟩) 120 120), (2, .pointer (some ⟨g1, 0, none⟩))] ∧ R = [q, all w] ∧ H = [HP.blk g12 51 [.int .i64 (dv ds (60 + 12 * vs.length) % cs.length), .int .i64 (dv ds (61 + 12 * vs.length) % dm.length), .int .i64 (dv ds (62 + 12 * vs.length) % rs.length), .int .u32 (dv ds (63 + 12 * vs.length) % 3), .slice A5 rg.length c5, .slice A6 nd.length c6], HP.own 3 1 (.slice A6 nd.length c6) nd.length (intCells nd), HP.own 57 2 (.slice A5 rg.length c5) rg.length (rg.flatMap Rg.cells), HP.blk g4 28 [.slice A1 cs.length c1, .slice A2 dm.length c2, .slice A3 rs.length c3, .slice A4 vs.length c4], HP.own 51 6 (.slice A4 vs.length c4) vs.length rows4.flatten, HP.own 71 1 (.slice A3 rs.length c3) rs.length rows3.flatten, HP.own 69 3 (.slice A2 dm.length c2) dm.length rows2.flatten, HP.own 55 6 (.slice A1 cs.length c1) cs.length rows1.flatten, HP.blk g2 3 (intCells ds), HP.blk g1 28 [.slice none 0 0, .slice none 0 0, .slice none 0 0, .slice none 0 0]]) ?_ ?_
      ·
        refine XK.seq ?_

        refine XK.region ?_
        refine xk_move rfl (by decide) ?_
        refine xk_gtr rfl rfl (by decide) ?_
        refine xk_move rfl (by decide) ?_
        refine xk_split (t := 300) rfl (fun hg => ?_) (fun hg => ?_)
        ·
          refine xk_guardT rfl rfl ?_; refine xk_move rfl (by decide) ?_
          refine xk_guardT rfl rfl ?_; refine xk_move rfl (by decide) ?_
          refine xk_guardT rfl rfl ?_; refine xk_add rfl rfl (wrap_in (by omega)) (by decide) ?_
          refine xk_guardT rfl rfl ?_; refine xk_at (69 + 12 * vs.length) (69 + 12 * vs.length) (el := 3) (sz := 1) (by kernel_rfl) (by kernel_rfl) rfl rfl (by omega) (by omega) (by omega) (by decide) ?_
          refine xk_guardT rfl rfl ?_; refine xk_load (by kernel_rfl) rfl (by first | assumption | exact Rd.blk 0 rfl (dd _ (by omega)) | exact Rd.blk 1 rfl (dd _ (by omega)) | exact Rd.blk 2 rfl (dd _ (by omega)) | exact Rd.blk 3 rfl (dd _ (by omega)) | exact Rd.blk 4 rfl (dd _ (by omega)) | exact Rd.blk 5 rfl (dd _ (by omega)) | exact Rd.blk 6 rfl (dd _ (by omega)) | exact Rd.blk 7 rfl (dd _ (by omega)) | exact Rd.blk 8 rfl (dd _ (by omega)) | exact Rd.blk 9 rfl (dd _ (by omega)) | exact Rd.blk 0 rfl rfl | exact Rd.blk 1 rfl rfl | exact Rd.blk 2 rfl rfl | exact Rd.blk 3 rfl rfl | exact Rd.blk 4 rfl rfl | exact Rd.blk 5 rfl rfl | exact Rd.blk 6 rfl rfl | exact Rd.blk 7 rfl rfl | exact Rd.blk 8 rfl rfl | exact Rd.blk 9 rfl rfl) (by decide) ?_
          refine xk_guardT rfl rfl ?_; refine xk_rem rfl rfl (by omega) (rem_in (by omega)) (by decide) ?_
          refine xk_guardT rfl rfl ?_; refine xk_eql rfl rfl (by decide) ?_
          (first | refine xk_pickT rfl rfl (by decide) ?_ | refine xk_pickF rfl rfl (by decide) ?_)
          refine XK.nilN ?_
          refine XK.if_ rfl (fun h => ?_) (fun h => ?_)
          ·

            refine XK.draw 10 (by kernel_rfl) (by kernel_rfl) ?_
            refine XA.dA 0 rfl rfl rfl (does_field (off := 5) (by kernel_rfl) rfl) ?_
            refine XA.dA 1 rfl rfl rfl (does_load (by kernel_rfl) rfl (by first | assumption | exact Rd.blk 0 rfl (dd _ (by omega)) | exact Rd.blk 1 rfl (dd _ (by omega)) | exact Rd.blk 2 rfl (dd _ (by omega)) | exact Rd.blk 3 rfl (dd _ (by omega)) | exact Rd.blk 4 rfl (dd _ (by omega)) | exact Rd.blk 5 rfl (dd _ (by omega)) | exact Rd.blk 6 rfl (dd _ (by omega)) | exact Rd.blk 7 rfl (dd _ (by omega)) | exact Rd.blk 8 rfl (dd _ (by omega)) | exact Rd.blk 9 rfl (dd _ (by omega)) | exact Rd.blk 0 rfl rfl | exact Rd.blk 1 rfl rfl | exact Rd.blk 2 rfl rfl | exact Rd.blk 3 rfl rfl | exact Rd.blk 4 rfl rfl | exact Rd.blk 5 rfl rfl | exact Rd.blk 6 rfl rfl | exact Rd.blk 7 rfl rfl | exact Rd.blk 8 rfl rfl | exact Rd.blk 9 rfl rfl)) ?_
            refine XA.dA 2 rfl rfl rfl (does_move rfl) ?_
            refine XA.dA 3 rfl rfl rfl (does_move rfl) ?_
            refine XA.dA 4 rfl rfl rfl (does_add rfl rfl (wrap_in (by omega))) ?_
            refine XA.dA 5 rfl rfl rfl (does_at (70 + 12 * vs.length) (70 + 12 * vs.length) (el := 3) (sz := 1) (by kernel_rfl) (by kernel_rfl) rfl rfl (by omega) (by omega) (by omega)) ?_
            refine XA.dA 6 rfl rfl rfl (does_load (by kernel_rfl) rfl (by first | assumption | exact Rd.blk 0 rfl (dd _ (by omega)) | exact Rd.blk 1 rfl (dd _ (by omega)) | exact Rd.blk 2 rfl (dd _ (by omega)) | exact Rd.blk 3 rfl (dd _ (by omega)) | exact Rd.blk 4 rfl (dd _ (by omega)) | exact Rd.blk 5 rfl (dd _ (by omega)) | exact Rd.blk 6 rfl (dd _ (by omega)) | exact Rd.blk 7 rfl (dd _ (by omega)) | exact Rd.blk 8 rfl (dd _ (by omega)) | exact Rd.blk 9 rfl (dd _ (by omega)) | exact Rd.blk 0 rfl rfl | exact Rd.blk 1 rfl rfl | exact Rd.blk 2 rfl rfl | exact Rd.blk 3 rfl rfl | exact Rd.blk 4 rfl rfl | exact Rd.blk 5 rfl rfl | exact Rd.blk 6 rfl rfl | exact Rd.blk 7 rfl rfl | exact Rd.blk 8 rfl rfl | exact Rd.blk 9 rfl rfl)) ?_
            refine XA.dA 7 rfl rfl rfl (does_move rfl) ?_
            refine XA.dA 8 rfl rfl rfl (does_rem rfl rfl (by omega) (rem_in (by omega))) ?_
            refine XA.next 9 rfl (by kernel_rfl) ?_
            refine xk_slice (el := 3) (sz := 1) (zs := [.int .i64 0]) (by kernel_rfl) (zeroB_of (by kernel_rfl)) (by kernel_rfl) rfl (by decide) (by decide) rfl (by simp [fillL, setN, Value.cells, List.range_succ, List.set]; rfl) (by decide) fun g14 => ?_
            refine XA.bk ?_
            refine XA.next 10 rfl (by kernel_rfl) ?_
            refine xk_appendT 2 1 8 1 (n' := 1) (el := 3) (by kernel_rfl) (by kernel_rfl) (by decide) rfl rfl rfl (sl_blk 0 rfl rfl) (by simp [Value.oneCell']) rfl (by omega) (by omega) (by decide) fun A6 c6 => ?_
            refine XA.bt ?_
            refine XA.next 11 rfl (by kernel_rfl) ?_
            refine xk_field (off := 5) (by kernel_rfl) rfl (by decide) ?_
            refine XA.bt ?_
            refine XA.next 12 rfl (by kernel_rfl) ?_
            refine xk_st rfl rfl ?_; dsimp only [List.set]
            refine XA.bt ?_
            refine XA.done (by kernel_rfl) ?_
            refine XK.norm ?_
            exact XK.weak [1, 2, 3, 4, 5, 6, 7, 8, 9, 10] rfl (by decide) (by simp) (XK.envS [(16, .pointer (some ⟨g12, 0, none⟩)), (15, .int .i64 (60 + 12 * vs.length)), (14, .int .i64 vs.length), (6, .pointer (some ⟨g4, 0, none⟩)), (4, .slice (some ⟨g2, 0, none⟩) 120 120), (2, .pointer (some ⟨g1, 0, none⟩))] (XK.meet ⟨[dv ds (70 + 12 * vs.length) % vs.length], A6, c6, by simp, by intro f hf; simp at hf; subst hf; exact emod_bd _ hg, rfl, rfl, rfl⟩))
          ·
            refine XK.skip ?_
            refine XK.norm ?_
            exact XK.envS [(16, .pointer (some ⟨g12, 0, none⟩)), (15, .int .i64 (60 + 12 * vs.length)), (14, .int .i64 vs.length), (6, .pointer (some ⟨g4, 0, none⟩)), (4, .slice (some ⟨g2, 0, none⟩) 120 120), (2, .pointer (some ⟨g1, 0, none⟩))] (XK.meet ⟨[], none, 0, by simp, by simp, rfl, rfl, rfl⟩)
        ·
          refine xk_guardF rfl rfl rfl (by decide) ?_
          refine xk_guardF rfl rfl rfl (by decide) ?_
          refine xk_guardF rfl rfl rfl (by decide) ?_
          refine xk_guardF rfl rfl rfl (by decide) ?_
          refine xk_guardF rfl rfl rfl (by decide) ?_
          refine xk_guardF rfl rfl rfl (by decide) ?_
          refine xk_guardF rfl rfl rfl (by decide) ?_
          (first | refine xk_pickT rfl rfl (by decide) ?_ | refine xk_pickF rfl rfl (by decide) ?_)
          refine XK.nilN ?_
          refine XK.cond rfl (fun h => by cases h) (fun _ => ?_)
          refine XK.skip ?_
          refine XK.norm ?_
          exact XK.envS [(16, .pointer (some ⟨g12, 0, none⟩)), (15, .int .i64 (60 + 12 * vs.length)), (14, .int .i64 vs.length), (6, .pointer (some ⟨g4, 0, none⟩)), (4, .slice (some ⟨g2, 0, none⟩) 120 120), (2, .pointer (some ⟨g1, 0, none⟩))] (XK.meet ⟨[], none, 0, by simp, by simp, rfl, rfl, rfl⟩)
      rintro _ _ _ ⟨nd, A6, c6, hn1, hnf, rfl, rfl, rfl⟩
      refine XK.cut (fun e R H => ∃ (nd : List Int) (A6 : Option Addr) (c6 : Nat), nd.length ≤ 2 ∧ (∀ f ∈ nd, 0 ≤ f ∧ f < vs.length) ∧ e = [(16, .pointer (some ⟨g12, 0, none⟩)), (15, .int .i64 (60 + 12 * vs.length)), (14, .int .i64 vs.length), (6, .pointer (some ⟨g4, 0, none⟩)), (4, .slice (some ⟨g2, 0, none⟩) 120 120), (2, .pointer (some ⟨g1, 0, none⟩))] ∧ R = [q, all w] ∧ H = [HP.blk g12 51 [.int .i64 (dv ds (60 + 12 * vs.length) % cs.length), .int .i64 (dv ds (61 + 12 * vs.length) % dm.length), .int .i64 (dv ds (62 + 12 * vs.length) % rs.length), .int .u32 (dv ds (63 + 12 * vs.length) % 3), .slice A5 rg.length c5, .slice A6 nd.length c6], HP.own 3 1 (.slice A6 nd.length c6) nd.length (intCells nd), HP.own 57 2 (.slice A5 rg.length c5) rg.length (rg.flatMap Rg.cells), HP.blk g4 28 [.slice A1 cs.length c1, .slice A2 dm.length c2, .slice A3 rs.length c3, .slice A4 vs.length c4], HP.own 51 6 (.slice A4 vs.length c4) vs.length rows4.flatten, HP.own 71 1 (.slice A3 rs.length c3) rs.length rows3.flatten, HP.own 69 3 (.slice A2 dm.length c2) dm.length rows2.flatten, HP.own 55 6 (.slice A1 cs.length c1) cs.length rows1.flatten, HP.blk g2 3 (intCells ds), HP.blk g1 28 [.slice none 0 0, .slice none 0 0, .slice none 0 0, .slice none 0 0]]) ?_ ?_
      ·
        refine XK.seq ?_

        refine XK.region ?_
        refine xk_move rfl (by decide) ?_
        refine xk_gtr rfl rfl (by decide) ?_
        refine xk_move rfl (by decide) ?_
        refine xk_split (t := 323) rfl (fun hg => ?_) (fun hg => ?_)
        ·
          refine xk_guardT rfl rfl ?_; refine xk_move rfl (by decide) ?_
          refine xk_guardT rfl rfl ?_; refine xk_move rfl (by decide) ?_
          refine xk_guardT rfl rfl ?_; refine xk_add rfl rfl (wrap_in (by omega)) (by decide) ?_
          refine xk_guardT rfl rfl ?_; refine xk_at (71 + 12 * vs.length) (71 + 12 * vs.length) (el := 3) (sz := 1) (by kernel_rfl) (by kernel_rfl) rfl rfl (by omega) (by omega) (by omega) (by decide) ?_
          refine xk_guardT rfl rfl ?_; refine xk_load (by kernel_rfl) rfl (by first | assumption | exact Rd.blk 0 rfl (dd _ (by omega)) | exact Rd.blk 1 rfl (dd _ (by omega)) | exact Rd.blk 2 rfl (dd _ (by omega)) | exact Rd.blk 3 rfl (dd _ (by omega)) | exact Rd.blk 4 rfl (dd _ (by omega)) | exact Rd.blk 5 rfl (dd _ (by omega)) | exact Rd.blk 6 rfl (dd _ (by omega)) | exact Rd.blk 7 rfl (dd _ (by omega)) | exact Rd.blk 8 rfl (dd _ (by omega)) | exact Rd.blk 9 rfl (dd _ (by omega)) | exact Rd.blk 0 rfl rfl | exact Rd.blk 1 rfl rfl | exact Rd.blk 2 rfl rfl | exact Rd.blk 3 rfl rfl | exact Rd.blk 4 rfl rfl | exact Rd.blk 5 rfl rfl | exact Rd.blk 6 rfl rfl | exact Rd.blk 7 rfl rfl | exact Rd.blk 8 rfl rfl | exact Rd.blk 9 rfl rfl) (by decide) ?_
          refine xk_guardT rfl rfl ?_; refine xk_rem rfl rfl (by omega) (rem_in (by omega)) (by decide) ?_
          refine xk_guardT rfl rfl ?_; refine xk_eql rfl rfl (by decide) ?_
          (first | refine xk_pickT rfl rfl (by decide) ?_ | refine xk_pickF rfl rfl (by decide) ?_)
          refine XK.nilN ?_
          refine XK.if_ rfl (fun h => ?_) (fun h => ?_)
          ·

            refine XK.draw 11 (by kernel_rfl) (by kernel_rfl) ?_
            refine XA.dA 0 rfl rfl rfl (does_field (off := 5) (by kernel_rfl) rfl) ?_
            refine XA.dA 1 rfl rfl rfl (does_load (by kernel_rfl) rfl (by first | assumption | exact Rd.blk 0 rfl (dd _ (by omega)) | exact Rd.blk 1 rfl (dd _ (by omega)) | exact Rd.blk 2 rfl (dd _ (by omega)) | exact Rd.blk 3 rfl (dd _ (by omega)) | exact Rd.blk 4 rfl (dd _ (by omega)) | exact Rd.blk 5 rfl (dd _ (by omega)) | exact Rd.blk 6 rfl (dd _ (by omega)) | exact Rd.blk 7 rfl (dd _ (by omega)) | exact Rd.blk 8 rfl (dd _ (by omega)) | exact Rd.blk 9 rfl (dd _ (by omega)) | exact Rd.blk 0 rfl rfl | exact Rd.blk 1 rfl rfl | exact Rd.blk 2 rfl rfl | exact Rd.blk 3 rfl rfl | exact Rd.blk 4 rfl rfl | exact Rd.blk 5 rfl rfl | exact Rd.blk 6 rfl rfl | exact Rd.blk 7 rfl rfl | exact Rd.blk 8 rfl rfl | exact Rd.blk 9 rfl rfl)) ?_
            refine XA.dA 2 rfl rfl rfl (does_move rfl) ?_
            refine XA.dA 3 rfl rfl rfl (does_move rfl) ?_
            refine XA.dA 4 rfl rfl rfl (does_add rfl rfl (wrap_in (by omega))) ?_
            refine XA.dA 5 rfl rfl rfl (does_at (71 + 12 * vs.length) (71 + 12 * vs.length) (el := 3) (sz := 1) (by kernel_rfl) (by kernel_rfl) rfl rfl (by omega) (by omega) (by omega)) ?_
            refine XA.dA 6 rfl rfl rfl (does_load (by kernel_rfl) rfl (by first | assumption | exact Rd.blk 0 rfl (dd _ (by omega)) | exact Rd.blk 1 rfl (dd _ (by omega)) | exact Rd.blk 2 rfl (dd _ (by omega)) | exact Rd.blk 3 rfl (dd _ (by omega)) | exact Rd.blk 4 rfl (dd _ (by omega)) | exact Rd.blk 5 rfl (dd _ (by omega)) | exact Rd.blk 6 rfl (dd _ (by omega)) | exact Rd.blk 7 rfl (dd _ (by omega)) | exact Rd.blk 8 rfl (dd _ (by omega)) | exact Rd.blk 9 rfl (dd _ (by omega)) | exact Rd.blk 0 rfl rfl | exact Rd.blk 1 rfl rfl | exact Rd.blk 2 rfl rfl | exact Rd.blk 3 rfl rfl | exact Rd.blk 4 rfl rfl | exact Rd.blk 5 rfl rfl | exact Rd.blk 6 rfl rfl | exact Rd.blk 7 rfl rfl | exact Rd.blk 8 rfl rfl | exact Rd.blk 9 rfl rfl)) ?_
            refine XA.dA 7 rfl rfl rfl (does_quo rfl rfl (by omega) (quo_in (by omega) (by omega) (by omega))) ?_
            refine XA.dA 8 rfl rfl rfl (does_move rfl) ?_
            refine XA.dA 9 rfl rfl rfl (does_rem rfl rfl (by omega) (rem_in (by omega))) ?_
            refine XA.next 10 rfl (by kernel_rfl) ?_
            refine xk_slice (el := 3) (sz := 1) (zs := [.int .i64 0]) (by kernel_rfl) (zeroB_of (by kernel_rfl)) (by kernel_rfl) rfl (by decide) (by decide) rfl (by simp [fillL, setN, Value.cells, List.range_succ, List.set]; rfl) (by decide) fun g15 => ?_
            refine XA.bk ?_
            refine XA.next 11 rfl (by kernel_rfl) ?_
            refine xk_appendT 2 1 8 1 (n' := nd.length + 1) (el := 3) (by kernel_rfl) (by kernel_rfl) (by decide) rfl rfl rfl (sl_blk 0 rfl rfl) (by simp [Value.oneCell']) rfl (by omega) (by omega) (by decide) fun A6n c6n => ?_
            refine XA.bt ?_
            refine XA.next 12 rfl (by kernel_rfl) ?_
            refine xk_field (off := 5) (by kernel_rfl) rfl (by decide) ?_
            refine XA.bt ?_
            refine XA.next 13 rfl (by kernel_rfl) ?_
            refine xk_st rfl rfl ?_; dsimp only [List.set]
            refine XA.bt ?_
            refine XA.done (by kernel_rfl) ?_
            refine XK.norm ?_
            exact XK.weak [1, 2, 3, 4, 5, 6, 7, 8, 9, 10] rfl (by decide) (by simp) (XK.envS [(16, .pointer (some ⟨g12, 0, none⟩)), (15, .int .i64 (60 + 12 * vs.length)), (14, .int .i64 vs.length), (6, .pointer (some ⟨g4, 0, none⟩)), (4, .slice (some ⟨g2, 0, none⟩) 120 120), (2, .pointer (some ⟨g1, 0, none⟩))] (XK.meet ⟨nd ++ [dv ds (71 + 12 * vs.length) / 3 % vs.length], A6n, c6n, by simp; omega, by intro f hf; simp at hf; rcases hf with hf | hf; exact hnf f hf; subst hf; exact emod_bd _ (by omega), rfl, rfl, by simp [intCells]⟩))
          ·
            refine XK.skip ?_
            refine XK.norm ?_
            exact XK.envS [(16, .pointer (some ⟨g12, 0, none⟩)), (15, .int .i64 (60 + 12 * vs.length)), (14, .int .i64 vs.length), (6, .pointer (some ⟨g4, 0, none⟩)), (4, .slice (some ⟨g2, 0, none⟩) 120 120), (2, .pointer (some ⟨g1, 0, none⟩))] (XK.meet ⟨nd, A6, c6, by omega, hnf, rfl, rfl, rfl⟩)
        ·
          refine xk_guardF rfl rfl rfl (by decide) ?_
          refine xk_guardF rfl rfl rfl (by decide) ?_
          refine xk_guardF rfl rfl rfl (by decide) ?_
          refine xk_guardF rfl rfl rfl (by decide) ?_
          refine xk_guardF rfl rfl rfl (by decide) ?_
          refine xk_guardF rfl rfl rfl (by decide) ?_
          refine xk_guardF rfl rfl rfl (by decide) ?_
          (first | refine xk_pickT rfl rfl (by decide) ?_ | refine xk_pickF rfl rfl (by decide) ?_)
          refine XK.nilN ?_
          refine XK.cond rfl (fun h => by cases h) (fun _ => ?_)
          refine XK.skip ?_
          refine XK.norm ?_
          exact XK.envS [(16, .pointer (some ⟨g12, 0, none⟩)), (15, .int .i64 (60 + 12 * vs.length)), (14, .int .i64 vs.length), (6, .pointer (some ⟨g4, 0, none⟩)), (4, .slice (some ⟨g2, 0, none⟩) 120 120), (2, .pointer (some ⟨g1, 0, none⟩))] (XK.meet ⟨nd, A6, c6, by omega, hnf, rfl, rfl, rfl⟩)
      rintro _ _ _ ⟨nd, A6, c6, hn2b, hnf, rfl, rfl, rfl⟩

      refine XK.region ?_
      refine xk_field (off := 3) (by kernel_rfl) rfl (by decide) ?_
      refine xk_load (by kernel_rfl) rfl (by first | assumption | exact Rd.blk 0 rfl (dd _ (by omega)) | exact Rd.blk 1 rfl (dd _ (by omega)) | exact Rd.blk 2 rfl (dd _ (by omega)) | exact Rd.blk 3 rfl (dd _ (by omega)) | exact Rd.blk 4 rfl (dd _ (by omega)) | exact Rd.blk 5 rfl (dd _ (by omega)) | exact Rd.blk 6 rfl (dd _ (by omega)) | exact Rd.blk 7 rfl (dd _ (by omega)) | exact Rd.blk 8 rfl (dd _ (by omega)) | exact Rd.blk 9 rfl (dd _ (by omega)) | exact Rd.blk 0 rfl rfl | exact Rd.blk 1 rfl rfl | exact Rd.blk 2 rfl rfl | exact Rd.blk 3 rfl rfl | exact Rd.blk 4 rfl rfl | exact Rd.blk 5 rfl rfl | exact Rd.blk 6 rfl rfl | exact Rd.blk 7 rfl rfl | exact Rd.blk 8 rfl rfl | exact Rd.blk 9 rfl rfl) (by decide) ?_
      refine xk_ldN 6 rfl ?_
      refine xk_slice (el := 51) (sz := 6) (zs := [.int .i64 0, .int .i64 0, .int .i64 0, .int .u32 0, .slice none 0 0, .slice none 0 0]) (by kernel_rfl) (zeroB_of (by kernel_rfl)) (by kernel_rfl) rfl (by decide) (by decide) rfl (by simp [fillL, setN, Value.cells, List.range_succ, List.set]; rfl) (by decide) fun g16 => ?_
      refine xk_appendT 5 6 80 1 (n' := vs.length + 1) (el := 51) (by kernel_rfl) (by kernel_rfl) (by decide) rfl rfl rfl (sl_blk 0 rfl rfl) (by simp [Value.oneCell']) rfl (by omega) (by omega) (by decide) fun A4n c4n => ?_
      refine xk_field (off := 3) (by kernel_rfl) rfl (by decide) ?_
      refine xk_st rfl rfl ?_; dsimp only [List.set]
      refine XK.nilN ?_

      refine XK.region ?_
      refine xk_move rfl (by decide) ?_
      refine xk_add rfl rfl (wrap_in (by omega)) (by decide) ?_
      refine xk_assign rfl (by decide) ?_
      refine XK.nilN ?_
      refine XK.still [q] [2, 3] [4, 5, 6, 7, 8, 9, 10] (by simp) rfl (by decide) (by simp) fun qn hqf hql hqn => ?_
      have hle := hql q (by simp)
      have hq2 := hqn (by simp) (by simp; exact hq)
      have hs1 := SlS.own (hqf 3 _ (by simp) rfl)
      have hs2 := SlS.own (hqf 2 _ (by simp) rfl)
      exact XK.weak [0, 1, 2, 3, 4, 5, 6] rfl (by decide) (by simp) (XK.envS [(14, .int .i64 (vs.length + 1)), (6, .pointer (some ⟨g4, 0, none⟩)), (4, .slice (some ⟨g2, 0, none⟩) 120 120), (2, .pointer (some ⟨g1, 0, none⟩))] (XK.round (5 - (vs.length + 1)) (by omega) ⟨vs ++ [⟨dv ds (60 + 12 * vs.length) % cs.length, dv ds (61 + 12 * vs.length) % dm.length, dv ds (62 + 12 * vs.length) % rs.length, dv ds (63 + 12 * vs.length) % 3, rg, nd⟩], A4n, c4n, qn, rows4 ++ [_], by simp; omega, by simp, hcr.mono (fun c r => ClkR.mono (slq_le hle)), hvf.snoc ⟨q0.1, q0.2, q1.1, q1.2, q2.1, q2.2, by dsimp only; omega, by dsimp only; omega, hg4, hgf, hn2b, hnf⟩, (hvr.mono (fun c r => DevR.mono (slq_le hle))).snoc (r := [.int .i64 (dv ds (60 + 12 * vs.length) % cs.length), .int .i64 (dv ds (61 + 12 * vs.length) % dm.length), .int .i64 (dv ds (62 + 12 * vs.length) % rs.length), .int .u32 (dv ds (63 + 12 * vs.length) % 3), .slice A5 rg.length c5, .slice A6 nd.length c6]) rfl ⟨A5, _, c5, A6, _, c6, rfl, rfl, rfl, hs1, hs2⟩, hq2, by simp, rfl, by simp⟩))
    ·
      refine XK.exit ?_
      refine XK.norm ?_
      exact XK.envS [(6, .pointer (some ⟨g4, 0, none⟩)), (4, .slice (some ⟨g2, 0, none⟩) 120 120), (2, .pointer (some ⟨g1, 0, none⟩))] (XK.meet ⟨vs, A4, c4, q, rows4, by omega, by omega, hcr, hvf, hvr, hq, rfl, rfl, rfl⟩)
  rintro _ _ _ ⟨vs, A4, c4, q, rows4, hv1, hv4, hcr, hvf, hvr, hq, rfl, rfl, rfl⟩
  refine XK.seq ?_

  refine XK.region ?_
  refine xk_ldN 4 rfl ?_
  (first | (refine xk_storeN 0 rfl rfl rfl (by kernel_rfl) (by simp [Value.cells, Value.oneCell']) (by simp [Value.cells]) ?_) | (refine xk_storeN 1 rfl rfl rfl (by kernel_rfl) (by simp [Value.cells, Value.oneCell']) (by simp [Value.cells]) ?_) | (refine xk_storeN 2 rfl rfl rfl (by kernel_rfl) (by simp [Value.cells, Value.oneCell']) (by simp [Value.cells]) ?_) | (refine xk_storeN 3 rfl rfl rfl (by kernel_rfl) (by simp [Value.cells, Value.oneCell']) (by simp [Value.cells]) ?_) | (refine xk_storeN 4 rfl rfl rfl (by kernel_rfl) (by simp [Value.cells, Value.oneCell']) (by simp [Value.cells]) ?_) | (refine xk_storeN 5 rfl rfl rfl (by kernel_rfl) (by simp [Value.cells, Value.oneCell']) (by simp [Value.cells]) ?_) | (refine xk_storeN 6 rfl rfl rfl (by kernel_rfl) (by simp [Value.cells, Value.oneCell']) (by simp [Value.cells]) ?_) | (refine xk_storeN 7 rfl rfl rfl (by kernel_rfl) (by simp [Value.cells, Value.oneCell']) (by simp [Value.cells]) ?_) | (refine xk_storeN 8 rfl rfl rfl (by kernel_rfl) (by simp [Value.cells, Value.oneCell']) (by simp [Value.cells]) ?_)); simp only [putN, Value.cells, List.set, List.take, List.drop, List.nil_append, List.append_nil, List.length_cons, List.length_nil, List.cons_append, Nat.reduceAdd]
  refine XK.nilN ?_
  refine XK.ret ?_
  refine XK.norm ?_
  refine XK.still [q] [1, 2, 3, 4] [6] (by simp) rfl (by decide) (by simp) fun qn hqf hql hqn => ?_
  have hle := hql q (by simp)
  have hq2 := hqn (by simp) (by simp; exact hq)
  have hs4 := SlS.own (hqf 1 _ (by simp) rfl)
  have hs3 := SlS.own (hqf 2 _ (by simp) rfl)
  have hs2 := SlS.own (hqf 3 _ (by simp) rfl)
  have hs1 := SlS.own (hqf 4 _ (by simp) rfl)
  have hS : SocR (slq qn) ⟨cs, dm, rs, vs⟩ #[.slice A1 cs.length c1, .slice A2 dm.length c2, .slice A3 rs.length c3, .slice A4 vs.length c4] :=
    ⟨A1, _, c1, A2, _, c2, A3, _, c3, A4, _, c4, rfl, ⟨rows1, hcr.mono (fun c r => ClkR.mono (slq_le hle)), rfl, hs1⟩, ⟨rows2, hdr, rfl, hs2⟩, ⟨rows3, hrr, rfl, hs3⟩, ⟨rows4, hvr.mono (fun c r => DevR.mono (slq_le hle)), rfl, hs4⟩⟩
  exact XK.retC rfl (by kernel_rfl) rfl rfl (RdN.whole 0 rfl) fun w1 st => ⟨⟨_, rfl, _, ⟨cs, dm, rs, vs⟩, rfl, hS.mono (slq_le (st.fresh_le (by simp) hq2)), ⟨hcf, hdf, hrf, hvf, ⟨hc1, hc9⟩, ⟨hd1, hd4⟩, ⟨hr1, hr3⟩, ⟨hv1, hv4⟩⟩⟩, st.below (by simp)⟩
end Go.Proofs.YtgopaoidgcgalaaGreatDoor
/- The law LinesSame. -/
namespace Go.Proofs.YtgopaoidgcgalaaGreatDoor
set_option linter.all false
open Go.RowKit
theorem print_can (s : Soc) (A1 A2 A3 A4 : Option Addr) (n1 k1 n2 k2 n3 k3 n4 k4 : Nat) (w : World) (hW : SocW w s A1 n1 A2 n2 A3 n3 A4 n4) (hc : s.can) (hk : checkS s = 0) (htab : PowTab w) :
    Calls Tryz.prog 17 #[.agg #[.slice A1 n1 k1, .slice A2 n2 k2, .slice A3 n3 k3, .slice A4 n4 k4]] w (Rt (.tuple #[.string (strOf (printF s)), .int .i64 0]) w) := by
  have h := print_ok s A1 A2 A3 A4 n1 k1 n2 k2 n3 k3 n4 k4 w hW (can_in64 hc) (fun d hd => by have := ((check_ok hk).devs d hd).1; omega) (fun _ => by have := print_len (check_ok hk) (can_in64 hc); omega) htab
  rw [if_pos hk, if_pos hk] at h
  exact h

end Go.Proofs.YtgopaoidgcgalaaGreatDoor
/- The law LinesBack. -/
namespace Go.Proofs.YtgopaoidgcgalaaGreatDoor
set_option linter.all false
open Go.RowKit
def ParseR (e : Int) (s : Soc) (v : Value) (w w' : World) : Prop := ∃ cs, v = .tuple #[.agg cs, .int .i64 e] ∧ SocR (slq (fresh w w')) s cs
theorem parseR_ok (t : ByteArray) (e : Int) (s : Soc) (h : parseF t = (e, s)) (mm : Int) (w : World) (hM : ROc w 0 0 (.int .i64 mm)) :
    Calls Tryz.prog 11 #[.string t] w fun y w' => (∃ v, y = .returned v ∧ ParseR e s v w w') ∧ Below w.heap.size w w' :=
  (parse_ok t mm w hM).mono fun y w' hy => by
    obtain ⟨⟨cs, h1, h2⟩, h3⟩ := hy
    rw [h] at h1 h2
    exact ⟨⟨_, h1, cs, rfl, h2⟩, h3⟩
theorem ok_small {s : Soc} (h : s.okB) : s.small := by
  have h1 := h.nc
  have h2 := h.nd
  have h3 := h.nr
  have h4 := h.nv
  exact ⟨by omega, by omega, by omega, by omega, fun c hc => by have := h.src c hc; omega, fun d hd => by have := (h.devs d hd).2; omega⟩

theorem lback_any (A : Option Addr) (n c : Nat) (zs : List Int) (t1 : ByteArray) (mm : Int) (w : World) (h0 : SlS (all w) 1 A n (intCells zs)) (hz : I64s zs) (hn : n = zs.length) (hn2 : n ≤ 9223372036854775807) (hM : ROc w 0 0 (.int .i64 mm)) (htab : PowTab w) :
    Calls Tryz.prog 6 #[.slice A n c, .string t1] w (Rt (.bool true) w) := by
  refine XK.enter (vs := [.slice A n c, .string t1]) Tryz.func6 rfl Tryz.ntmps6 (by simp) ?_
  refine XK.seq ?_

  refine XK.region ?_
  refine xk_assign rfl (by decide) ?_
  refine XK.nilN ?_
  refine XK.seq ?_

  refine XK.region ?_
  refine xk_callR (f := 10) (fi := []) (ca := []) (by kernel_rfl) rfl rfl (by decide) (fun w1 st => shown5_ok mm w1 ⟨Nat.lt_of_lt_of_le hM.1 (st.below (by simp)).size, hM.go (st.below (by simp))⟩) ?_
  refine xk_assign rfl (by decide) ?_
  refine XK.nilN ?_
  refine XK.seq ?_
  refine XK.seq ?_

  refine XK.region ?_
  refine xk_move rfl (by decide) ?_
  (first | refine xk_notD rfl (by decide) ?_ | refine xk_not rfl (by decide) ?_)
  refine xk_move rfl (by decide) ?_
  refine xk_isV (t := 22) false rfl (by first | (exact decide_eq_true (by omega)) | (exact decide_eq_false (by omega)) | rfl | assumption | (simp_all; done)) ?_
  refine xk_guardT rfl rfl ?_; refine xk_move rfl (by decide) ?_
  refine xk_guardT rfl rfl ?_; refine xk_lenS (by kernel_rfl) rfl (by decide) ?_
  refine xk_guardT rfl rfl ?_; refine xk_gtr rfl rfl (by decide) ?_
  (first | refine xk_pickT rfl rfl (by decide) ?_ | refine xk_pickF rfl rfl (by decide) ?_)
  refine XK.nilN ?_
  refine XK.if_ rfl (fun hbig => ?_) (fun hbig => ?_)
  ·
    refine XK.seq ?_

    refine XK.region ?_
    refine xk_move rfl (by decide) ?_
    refine xk_assign rfl (by decide) ?_
    refine XK.nilN ?_
    refine XK.ret ?_
    refine XK.norm ?_
    exact XK.ret1 rfl rfl fun w1 st => ⟨rfl, st.below (by simp)⟩
  ·
    refine XK.skip ?_
    refine XK.norm ?_
    refine XK.seq ?_

    refine XK.region ?_
    refine xk_move rfl (by decide) ?_
    refine xk_call [] (f := 19) (fi := []) (ca := []) (by kernel_rfl) rfl rfl (by decide) (by simp) (fun v w w' => ∃ cs s, v = .agg cs ∧ SocR (slq (fresh w w')) s cs ∧ s.made) (fun w1 st => chip5_any A n c zs w1 (h0.le (st.le (by simp))) hz hn hn2) ?_
    rintro _ w1 q1 ⟨cs, s, rfl, hS, hm⟩ hf _ _
    obtain ⟨A1, n1, k1, A2, n2, k2, A3, n3, k3, A4, n4, k4, rfl, hSQ⟩ := (hS.mono (slq_le hf)).Q
    clear hf hS
    refine xk_alloc (cs := [.slice none 0 0, .slice none 0 0, .slice none 0 0, .slice none 0 0]) (zeroB_of (by kernel_rfl)) (by decide) fun g1 => ?_
    (first | (refine xk_storeN 0 rfl rfl rfl (by kernel_rfl) (by simp [Value.cells, Value.oneCell']) (by simp [Value.cells]) ?_) | (refine xk_storeN 1 rfl rfl rfl (by kernel_rfl) (by simp [Value.cells, Value.oneCell']) (by simp [Value.cells]) ?_) | (refine xk_storeN 2 rfl rfl rfl (by kernel_rfl) (by simp [Value.cells, Value.oneCell']) (by simp [Value.cells]) ?_) | (refine xk_storeN 3 rfl rfl rfl (by kernel_rfl) (by simp [Value.cells, Value.oneCell']) (by simp [Value.cells]) ?_) | (refine xk_storeN 4 rfl rfl rfl (by kernel_rfl) (by simp [Value.cells, Value.oneCell']) (by simp [Value.cells]) ?_) | (refine xk_storeN 5 rfl rfl rfl (by kernel_rfl) (by simp [Value.cells, Value.oneCell']) (by simp [Value.cells]) ?_) | (refine xk_storeN 6 rfl rfl rfl (by kernel_rfl) (by simp [Value.cells, Value.oneCell']) (by simp [Value.cells]) ?_) | (refine xk_storeN 7 rfl rfl rfl (by kernel_rfl) (by simp [Value.cells, Value.oneCell']) (by simp [Value.cells]) ?_) | (refine xk_storeN 8 rfl rfl rfl (by kernel_rfl) (by simp [Value.cells, Value.oneCell']) (by simp [Value.cells]) ?_)); simp only [putN, Value.cells, List.set, List.take, List.drop, List.nil_append, List.append_nil, List.length_cons, List.length_nil, List.cons_append, Nat.reduceAdd]
    refine XK.nilN ?_
    refine XK.seq ?_

    refine XK.region ?_
    refine xk_ldN 4 rfl ?_
    refine xk_callR (f := 17) (fi := []) (ca := []) (by kernel_rfl) rfl rfl (by decide) (fun w1 st => print_can s A1 A2 A3 A4 n1 k1 n2 k2 n3 k3 n4 k4 w1 (hSQ.W (st.le (by simp)) (made_small hm)) (made_can hm) (made_check hm) (PowTab.go htab (st.below (by simp)))) ?_
    refine xk_move rfl (by decide) ?_
    refine xk_extract rfl rfl (by decide) ?_
    refine xk_extract rfl rfl (by decide) ?_
    refine xk_assign rfl (by decide) ?_
    refine xk_assign rfl (by decide) ?_
    refine XK.nilN ?_
    refine XK.seq ?_

    refine XK.region ?_
    refine xk_move rfl (by decide) ?_
    refine xk_call [] (f := 11) (fi := []) (ca := []) (by kernel_rfl) rfl rfl (by decide) (by simp) (ParseR 0 s) (fun w1 st => parseR_ok _ _ _ (parse_print (made_can hm) (made_check hm)) mm w1 ⟨Nat.lt_of_lt_of_le hM.1 (st.below (by simp)).size, hM.go (st.below (by simp))⟩) ?_
    rintro _ w1 q2 ⟨csb, rfl, hSb⟩ hfb _ _
    obtain ⟨A1b, n1b, k1b, A2b, n2b, k2b, A3b, n3b, k3b, A4b, n4b, k4b, rfl, hSQb⟩ := (hSb.mono (slq_le hfb)).Q
    clear hfb hSb
    refine xk_move rfl (by decide) ?_
    refine xk_extract rfl rfl (by decide) ?_
    refine xk_extract rfl rfl (by decide) ?_
    refine xk_alloc (cs := [.slice none 0 0, .slice none 0 0, .slice none 0 0, .slice none 0 0]) (zeroB_of (by kernel_rfl)) (by decide) fun g2 => ?_
    (first | (refine xk_storeN 0 rfl rfl rfl (by kernel_rfl) (by simp [Value.cells, Value.oneCell']) (by simp [Value.cells]) ?_) | (refine xk_storeN 1 rfl rfl rfl (by kernel_rfl) (by simp [Value.cells, Value.oneCell']) (by simp [Value.cells]) ?_) | (refine xk_storeN 2 rfl rfl rfl (by kernel_rfl) (by simp [Value.cells, Value.oneCell']) (by simp [Value.cells]) ?_) | (refine xk_storeN 3 rfl rfl rfl (by kernel_rfl) (by simp [Value.cells, Value.oneCell']) (by simp [Value.cells]) ?_) | (refine xk_storeN 4 rfl rfl rfl (by kernel_rfl) (by simp [Value.cells, Value.oneCell']) (by simp [Value.cells]) ?_) | (refine xk_storeN 5 rfl rfl rfl (by kernel_rfl) (by simp [Value.cells, Value.oneCell']) (by simp [Value.cells]) ?_) | (refine xk_storeN 6 rfl rfl rfl (by kernel_rfl) (by simp [Value.cells, Value.oneCell']) (by simp [Value.cells]) ?_) | (refine xk_storeN 7 rfl rfl rfl (by kernel_rfl) (by simp [Value.cells, Value.oneCell']) (by simp [Value.cells]) ?_) | (refine xk_storeN 8 rfl rfl rfl (by kernel_rfl) (by simp [Value.cells, Value.oneCell']) (by simp [Value.cells]) ?_)); simp only [putN, Value.cells, List.set, List.take, List.drop, List.nil_append, List.append_nil, List.length_cons, List.length_nil, List.cons_append, Nat.reduceAdd]
    refine xk_assign rfl (by decide) ?_
    refine XK.nilN ?_
    refine XK.seq ?_
    refine XK.seq ?_

    refine XK.region ?_
    refine xk_move rfl (by decide) ?_
    refine xk_neq rfl rfl (by decide) ?_
    refine xk_move rfl (by decide) ?_
    refine xk_isV (t := 42) false rfl (by first | (exact decide_eq_true (by omega)) | (exact decide_eq_false (by omega)) | rfl | assumption | (simp_all; done)) ?_
    refine xk_guardT rfl rfl ?_; refine xk_move rfl (by decide) ?_
    refine xk_guardT rfl rfl ?_; refine xk_neq rfl rfl (by decide) ?_
    (first | refine xk_pickT rfl rfl (by decide) ?_ | refine xk_pickF rfl rfl (by decide) ?_)
    refine xk_move rfl (by decide) ?_
    refine xk_isV (t := 46) false rfl (by first | (exact decide_eq_true (by omega)) | (exact decide_eq_false (by omega)) | rfl | assumption | (simp_all; done)) ?_
    refine xk_guardT rfl rfl ?_; refine xk_ldN 4 rfl ?_
    refine xk_guardT rfl rfl ?_; refine xk_ldN 4 rfl ?_
    refine xk_guardT rfl rfl ?_; refine xk_callR (f := 21) (fi := []) (ca := []) (by kernel_rfl) rfl rfl (by decide) (fun w1 st => same_ok s s A1b A2b A3b A4b A1 A2 A3 A4 n1b k1b n2b k2b n3b k3b n4b k4b n1 k1 n2 k2 n3 k3 n4 k4 w1 (hSQb.W (st.le (by simp)) (made_small hm)) (hSQ.W (st.le (by simp)) (made_small hm)) (fun d hd => by have := made_regs hm d hd; omega)) ?_
    rw [eqB_t rfl]
    refine xk_guardT rfl rfl ?_; (first | refine xk_notD rfl (by decide) ?_ | refine xk_not rfl (by decide) ?_)
    (first | refine xk_pickT rfl rfl (by decide) ?_ | refine xk_pickF rfl rfl (by decide) ?_)
    refine XK.nilN ?_
    refine xk_isV (t := 51) false rfl (by first | (exact decide_eq_true (by omega)) | (exact decide_eq_false (by omega)) | rfl | assumption | (simp_all; done)) ?_
    refine XK.cond rfl (fun h => by cases h) (fun _ => ?_)
    refine XK.skip ?_
    refine XK.norm ?_
    refine XK.seq ?_

    refine XK.region ?_
    refine xk_move rfl (by decide) ?_
    obtain ⟨e, x, hpx⟩ : ∃ e x, parseF t1 = (e, x) := ⟨_, _, rfl⟩
    refine xk_call [] (f := 11) (fi := []) (ca := []) (by kernel_rfl) rfl rfl (by decide) (by simp) (ParseR e x) (fun w1 st => parseR_ok _ _ _ hpx mm w1 ⟨Nat.lt_of_lt_of_le hM.1 (st.below (by simp)).size, hM.go (st.below (by simp))⟩) ?_
    rintro _ w1 q3 ⟨csx, rfl, hSx⟩ hfx _ _
    obtain ⟨A1x, n1x, k1x, A2x, n2x, k2x, A3x, n3x, k3x, A4x, n4x, k4x, rfl, hSQx⟩ := (hSx.mono (slq_le hfx)).Q
    clear hfx hSx
    refine xk_move rfl (by decide) ?_
    refine xk_extract rfl rfl (by decide) ?_
    refine xk_extract rfl rfl (by decide) ?_
    refine xk_alloc (cs := [.slice none 0 0, .slice none 0 0, .slice none 0 0, .slice none 0 0]) (zeroB_of (by kernel_rfl)) (by decide) fun g3 => ?_
    (first | (refine xk_storeN 0 rfl rfl rfl (by kernel_rfl) (by simp [Value.cells, Value.oneCell']) (by simp [Value.cells]) ?_) | (refine xk_storeN 1 rfl rfl rfl (by kernel_rfl) (by simp [Value.cells, Value.oneCell']) (by simp [Value.cells]) ?_) | (refine xk_storeN 2 rfl rfl rfl (by kernel_rfl) (by simp [Value.cells, Value.oneCell']) (by simp [Value.cells]) ?_) | (refine xk_storeN 3 rfl rfl rfl (by kernel_rfl) (by simp [Value.cells, Value.oneCell']) (by simp [Value.cells]) ?_) | (refine xk_storeN 4 rfl rfl rfl (by kernel_rfl) (by simp [Value.cells, Value.oneCell']) (by simp [Value.cells]) ?_) | (refine xk_storeN 5 rfl rfl rfl (by kernel_rfl) (by simp [Value.cells, Value.oneCell']) (by simp [Value.cells]) ?_) | (refine xk_storeN 6 rfl rfl rfl (by kernel_rfl) (by simp [Value.cells, Value.oneCell']) (by simp [Value.cells]) ?_) | (refine xk_storeN 7 rfl rfl rfl (by kernel_rfl) (by simp [Value.cells, Value.oneCell']) (by simp [Value.cells]) ?_) | (refine xk_storeN 8 rfl rfl rfl (by kernel_rfl) (by simp [Value.cells, Value.oneCell']) (by simp [Value.cells]) ?_)); simp only [putN, Value.cells, List.set, List.take, List.drop, List.nil_append, List.append_nil, List.length_cons, List.length_nil, List.cons_append, Nat.reduceAdd]
    refine xk_assign rfl (by decide) ?_
    refine XK.nilN ?_
    refine XK.seq ?_
    refine XK.seq ?_

    refine XK.region ?_
    refine xk_move rfl (by decide) ?_
    refine xk_neq rfl rfl (by decide) ?_
    refine XK.nilN ?_
    refine XK.if_ rfl (fun hne => ?_) (fun hne => ?_)
    ·
      refine XK.seq ?_
      obtain ⟨l1, l2, l3, l4⟩ := hSQx.len
      have hx0 : x = soc0 := by
        rcases parse_back hpx with h | h
        · exact absurd h.1 hne
        · exact h.2
      obtain rfl : n1x = 0 := by rw [l1, hx0]; rfl
      obtain rfl : n2x = 0 := by rw [l2, hx0]; rfl
      obtain rfl : n3x = 0 := by rw [l3, hx0]; rfl
      obtain rfl : n4x = 0 := by rw [l4, hx0]; rfl

      refine XK.region ?_
      refine xk_field (off := 0) (by kernel_rfl) rfl (by decide) ?_
      refine xk_ld rfl ?_
      refine xk_len (el := 55) (by kernel_rfl) rfl (by decide) ?_
      refine xk_field (off := 1) (by kernel_rfl) rfl (by decide) ?_
      refine xk_ld rfl ?_
      refine xk_len (el := 69) (by kernel_rfl) rfl (by decide) ?_
      refine xk_add rfl rfl (wrap_in (by omega)) (by decide) ?_
      refine xk_field (off := 2) (by kernel_rfl) rfl (by decide) ?_
      refine xk_ld rfl ?_
      refine xk_len (el := 71) (by kernel_rfl) rfl (by decide) ?_
      refine xk_add rfl rfl (wrap_in (by omega)) (by decide) ?_
      refine xk_field (off := 3) (by kernel_rfl) rfl (by decide) ?_
      refine xk_ld rfl ?_
      refine xk_len (el := 51) (by kernel_rfl) rfl (by decide) ?_
      refine xk_add rfl rfl (wrap_in (by omega)) (by decide) ?_
      refine xk_eql rfl rfl (by decide) ?_
      refine xk_assign rfl (by decide) ?_
      refine XK.nilN ?_
      refine XK.ret ?_
      refine XK.norm ?_
      exact XK.ret1 rfl rfl fun w1 st => ⟨rfl, st.below (by simp)⟩
    ·
      refine XK.skip ?_
      refine XK.norm ?_
      refine XK.seq ?_
      have he0 : e = 0 := Classical.byContradiction hne
      obtain ⟨hcx, hkx⟩ : x.can ∧ checkS x = 0 := by
        rcases parse_back hpx with h | h
        · exact ⟨h.2.1, h.2.2.1⟩
        · exact absurd he0 h.1
      have hox := check_ok hkx
      have hsx := ok_small hox

      refine XK.region ?_
      refine xk_ldN 4 rfl ?_
      refine xk_callR (f := 17) (fi := []) (ca := []) (by kernel_rfl) rfl rfl (by decide) (fun w1 st => print_can x A1x A2x A3x A4x n1x k1x n2x k2x n3x k3x n4x k4x w1 (hSQx.W (st.le (by simp)) hsx) hcx hkx (PowTab.go htab (st.below (by simp)))) ?_
      refine xk_move rfl (by decide) ?_
      refine xk_extract rfl rfl (by decide) ?_
      refine xk_extract rfl rfl (by decide) ?_
      refine xk_assign rfl (by decide) ?_
      refine xk_assign rfl (by decide) ?_
      refine XK.nilN ?_
      refine XK.seq ?_

      refine XK.region ?_
      refine xk_move rfl (by decide) ?_
      refine xk_call [] (f := 11) (fi := []) (ca := []) (by kernel_rfl) rfl rfl (by decide) (by simp) (ParseR 0 x) (fun w1 st => parseR_ok _ _ _ (parse_print hcx hkx) mm w1 ⟨Nat.lt_of_lt_of_le hM.1 (st.below (by simp)).size, hM.go (st.below (by simp))⟩) ?_
      rintro _ w1 q4 ⟨csy, rfl, hSy⟩ hfy _ _
      obtain ⟨A1y, n1y, k1y, A2y, n2y, k2y, A3y, n3y, k3y, A4y, n4y, k4y, rfl, hSQy⟩ := (hSy.mono (slq_le hfy)).Q
      clear hfy hSy
      refine xk_move rfl (by decide) ?_
      refine xk_extract rfl rfl (by decide) ?_
      refine xk_extract rfl rfl (by decide) ?_
      refine xk_alloc (cs := [.slice none 0 0, .slice none 0 0, .slice none 0 0, .slice none 0 0]) (zeroB_of (by kernel_rfl)) (by decide) fun g4 => ?_
      (first | (refine xk_storeN 0 rfl rfl rfl (by kernel_rfl) (by simp [Value.cells, Value.oneCell']) (by simp [Value.cells]) ?_) | (refine xk_storeN 1 rfl rfl rfl (by kernel_rfl) (by simp [Value.cells, Value.oneCell']) (by simp [Value.cells]) ?_) | (refine xk_storeN 2 rfl rfl rfl (by kernel_rfl) (by simp [Value.cells, Value.oneCell']) (by simp [Value.cells]) ?_) | (refine xk_storeN 3 rfl rfl rfl (by kernel_rfl) (by simp [Value.cells, Value.oneCell']) (by simp [Value.cells]) ?_) | (refine xk_storeN 4 rfl rfl rfl (by kernel_rfl) (by simp [Value.cells, Value.oneCell']) (by simp [Value.cells]) ?_) | (refine xk_storeN 5 rfl rfl rfl (by kernel_rfl) (by simp [Value.cells, Value.oneCell']) (by simp [Value.cells]) ?_) | (refine xk_storeN 6 rfl rfl rfl (by kernel_rfl) (by simp [Value.cells, Value.oneCell']) (by simp [Value.cells]) ?_) | (refine xk_storeN 7 rfl rfl rfl (by kernel_rfl) (by simp [Value.cells, Value.oneCell']) (by simp [Value.cells]) ?_) | (refine xk_storeN 8 rfl rfl rfl (by kernel_rfl) (by simp [Value.cells, Value.oneCell']) (by simp [Value.cells]) ?_)); simp only [putN, Value.cells, List.set, List.take, List.drop, List.nil_append, List.append_nil, List.length_cons, List.length_nil, List.cons_append, Nat.reduceAdd]
      refine xk_assign rfl (by decide) ?_
      refine XK.nilN ?_
      refine XK.seq ?_

      refine XK.region ?_
      refine xk_ldN 4 rfl ?_
      refine xk_callR (f := 17) (fi := []) (ca := []) (by kernel_rfl) rfl rfl (by decide) (fun w1 st => print_can x A1y A2y A3y A4y n1y k1y n2y k2y n3y k3y n4y k4y w1 (hSQy.W (st.le (by simp)) hsx) hcx hkx (PowTab.go htab (st.below (by simp)))) ?_
      refine xk_move rfl (by decide) ?_
      refine xk_extract rfl rfl (by decide) ?_
      refine xk_extract rfl rfl (by decide) ?_
      refine xk_assign rfl (by decide) ?_
      refine xk_assign rfl (by decide) ?_
      refine XK.nilN ?_
      refine XK.seq ?_

      refine XK.region ?_
      refine xk_ldN 4 rfl ?_
      refine xk_callR (f := 22) (fi := []) (ca := []) (by kernel_rfl) rfl rfl (by decide) (v0 := .int .i64 0) (fun w1 st => by
        have h := checkS_any x A1x A2x A3x A4x n1x k1x n2x k2x n3x k3x n4x k4x w1 (hSQx.W (st.le (by simp)) hsx)
        rw [hkx] at h
        exact h) ?_
      refine xk_eql rfl rfl (by decide) ?_
      refine xk_move rfl (by decide) ?_
      refine xk_isV (t := 93) true rfl (by first | (exact decide_eq_true (by omega)) | (exact decide_eq_false (by omega)) | rfl | assumption | (simp_all; done)) ?_
      refine xk_guardT rfl rfl ?_; refine xk_move rfl (by decide) ?_
      refine xk_guardT rfl rfl ?_; refine xk_eql rfl rfl (by decide) ?_
      (first | refine xk_pickT rfl rfl (by decide) ?_ | refine xk_pickF rfl rfl (by decide) ?_)
      refine xk_move rfl (by decide) ?_
      refine xk_isV (t := 97) true rfl (by first | (exact decide_eq_true (by omega)) | (exact decide_eq_false (by omega)) | rfl | assumption | (simp_all; done)) ?_
      refine xk_guardT rfl rfl ?_; refine xk_move rfl (by decide) ?_
      refine xk_guardT rfl rfl ?_; refine xk_eql rfl rfl (by decide) ?_
      (first | refine xk_pickT rfl rfl (by decide) ?_ | refine xk_pickF rfl rfl (by decide) ?_)
      refine xk_move rfl (by decide) ?_
      refine xk_isV (t := 101) true rfl (by first | (exact decide_eq_true (by omega)) | (exact decide_eq_false (by omega)) | rfl | assumption | (simp_all; done)) ?_
      refine xk_guardT rfl rfl ?_; refine xk_move rfl (by decide) ?_
      refine xk_guardT rfl rfl ?_; refine xk_eql rfl rfl (by decide) ?_
      (first | refine xk_pickT rfl rfl (by decide) ?_ | refine xk_pickF rfl rfl (by decide) ?_)
      refine xk_move rfl (by decide) ?_
      refine xk_isV (t := 105) true rfl (by first | (exact decide_eq_true (by omega)) | (exact decide_eq_false (by omega)) | rfl | assumption | (simp_all; done)) ?_
      refine xk_guardT rfl rfl ?_; refine xk_ldN 4 rfl ?_
      refine xk_guardT rfl rfl ?_; refine xk_ldN 4 rfl ?_
      refine xk_guardT rfl rfl ?_; refine xk_callR (f := 21) (fi := []) (ca := []) (by kernel_rfl) rfl rfl (by decide) (fun w1 st => same_ok x x A1x A2x A3x A4x A1y A2y A3y A4y n1x k1x n2x k2x n3x k3x n4x k4x n1y k1y n2y k2y n3y k3y n4y k4y w1 (hSQx.W (st.le (by simp)) hsx) (hSQy.W (st.le (by simp)) hsx) (fun d hd => by have := (hox.devs d hd).1; omega)) ?_
      rw [eqB_t rfl]
      (first | refine xk_pickT rfl rfl (by decide) ?_ | refine xk_pickF rfl rfl (by decide) ?_)
      refine xk_move rfl (by decide) ?_
      refine xk_isV (t := 110) true rfl (by first | (exact decide_eq_true (by omega)) | (exact decide_eq_false (by omega)) | rfl | assumption | (simp_all; done)) ?_
      refine xk_guardT rfl rfl ?_; refine xk_move rfl (by decide) ?_
      refine xk_guardT rfl rfl ?_; refine xk_move rfl (by decide) ?_
      refine xk_guardT rfl rfl ?_; refine xk_eqlStr (by kernel_rfl) rfl rfl (by decide) ?_
      (first | refine xk_pickT rfl rfl (by decide) ?_ | refine xk_pickF rfl rfl (by decide) ?_)
      refine xk_assign rfl (by decide) ?_
      refine XK.nilN ?_
      refine XK.ret ?_
      refine XK.norm ?_
      exact XK.ret1 rfl rfl fun w1 st => ⟨by simp, st.below (by simp)⟩

end Go.Proofs.YtgopaoidgcgalaaGreatDoor
