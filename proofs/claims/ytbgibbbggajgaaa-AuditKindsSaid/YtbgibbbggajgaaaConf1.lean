/- conf: its small functions, and the two that ask one behind the other. -/
import Derived.Test.YtbgibbbggajgaaaFun
import Derived.Test.YtbgibbbggajgaaaSoc
import Derived.Test.YtbgibbbggajgaaaProg
import Derived.KernelRfl
namespace Go.Proofs.Ytbgibbbggajgaaa
set_option linter.all false
open Go.RowKit
theorem zeros_snoc {es : List Int} {k : Nat} (hz : ∀ j, j < k → es[j]? = some 0) (h : es[k]? = some 0) : ∀ j, j < k + 1 → es[j]? = some 0 := fun j hj => by
  rcases Nat.lt_or_ge j k with h1 | h1
  · exact hz j h1
  · have : j = k := by omega
    rw [this]
    exact h

theorem when_any (b : Bool) (e : Int) (w : World) :
    Calls Try.prog 113 #[.bool b, .int .i64 e] w (Rt (.int .i64 (whenE b e)) w) := by
  refine XK.enter (vs := [.bool b, .int .i64 e]) Try.func113 rfl Try.ntmps113 (by simp) ?_
  refine XK.seq ?_

  refine XK.region ?_
  refine xk_assign rfl (by decide) ?_
  refine XK.nil ?_
  (repeat (first | refine XK.thenN ?_ | refine XK.thenE ?_ | refine XK.thenR ?_ | refine XK.inN ?_ | refine XK.inE ?_ | refine XK.inR ?_ | refine XK.inF rfl ?_))
  refine XK.seq ?_
  refine XK.seq ?_

  refine XK.region ?_
  refine xk_move rfl (by decide) ?_
  refine XK.nil ?_
  (repeat (first | refine XK.thenN ?_ | refine XK.thenE ?_ | refine XK.thenR ?_ | refine XK.inN ?_ | refine XK.inE ?_ | refine XK.inR ?_ | refine XK.inF rfl ?_))
  refine XK.cond rfl (fun h => ?_) (fun h => ?_)
  ·
    refine XK.seq ?_

    refine XK.region ?_
    refine xk_move rfl (by decide) ?_
    refine xk_assign rfl (by decide) ?_
    refine XK.nil ?_
    (repeat (first | refine XK.thenN ?_ | refine XK.thenE ?_ | refine XK.thenR ?_ | refine XK.inN ?_ | refine XK.inE ?_ | refine XK.inR ?_ | refine XK.inF rfl ?_))
    refine XK.ret ?_
    (repeat (first | refine XK.thenN ?_ | refine XK.thenE ?_ | refine XK.thenR ?_ | refine XK.inN ?_ | refine XK.inE ?_ | refine XK.inR ?_ | refine XK.inF rfl ?_))
    exact XK.ret1 rfl rfl fun w1 st => ⟨by simp [whenE, h], st.below (by simp)⟩
  ·
    refine XK.skip ?_
    (repeat (first | refine XK.thenN ?_ | refine XK.thenE ?_ | refine XK.thenR ?_ | refine XK.inN ?_ | refine XK.inE ?_ | refine XK.inR ?_ | refine XK.inF rfl ?_))
    refine XK.seq ?_

    refine XK.region ?_
    refine xk_assign rfl (by decide) ?_
    refine XK.nil ?_
    (repeat (first | refine XK.thenN ?_ | refine XK.thenE ?_ | refine XK.thenR ?_ | refine XK.inN ?_ | refine XK.inE ?_ | refine XK.inR ?_ | refine XK.inF rfl ?_))
    refine XK.ret ?_
    (repeat (first | refine XK.thenN ?_ | refine XK.thenE ?_ | refine XK.thenR ?_ | refine XK.inN ?_ | refine XK.inE ?_ | refine XK.inR ?_ | refine XK.inF rfl ?_))
    exact XK.ret1 rfl rfl fun w1 st => ⟨by simp [whenE, h], st.below (by simp)⟩

theorem within_any (n lo hi : Int) (w : World) :
    Calls Try.prog 119 #[.int .i64 n, .int .i64 lo, .int .i64 hi] w (Rt (.bool (withinB n lo hi)) w) := by
  refine XK.enter (vs := [.int .i64 n, .int .i64 lo, .int .i64 hi]) Try.func119 rfl Try.ntmps119 (by simp) ?_
  refine XK.seq ?_

  refine XK.region ?_
  refine xk_assign rfl (by decide) ?_
  refine XK.nil ?_
  (repeat (first | refine XK.thenN ?_ | refine XK.thenE ?_ | refine XK.thenR ?_ | refine XK.inN ?_ | refine XK.inE ?_ | refine XK.inR ?_ | refine XK.inF rfl ?_))
  refine XK.seq ?_

  refine XK.region ?_
  refine xk_move rfl (by decide) ?_
  refine xk_move rfl (by decide) ?_
  refine xk_geq rfl rfl (by decide) ?_
  refine xk_move rfl (by decide) ?_
  refine xk_split (t := 10) rfl (fun hg => ?_) (fun hg => ?_)
  ·
    refine xk_guardT rfl rfl ?_; refine xk_move rfl (by decide) ?_
    refine xk_guardT rfl rfl ?_; refine xk_move rfl (by decide) ?_
    refine xk_guardT rfl rfl ?_; refine xk_leq rfl rfl (by decide) ?_
    (first | refine xk_pickT rfl rfl (by decide) ?_ | refine xk_pickF rfl rfl (by decide) ?_)
    refine xk_assign rfl (by decide) ?_
    refine XK.nil ?_
    (repeat (first | refine XK.thenN ?_ | refine XK.thenE ?_ | refine XK.thenR ?_ | refine XK.inN ?_ | refine XK.inE ?_ | refine XK.inR ?_ | refine XK.inF rfl ?_))
    refine XK.ret ?_
    (repeat (first | refine XK.thenN ?_ | refine XK.thenE ?_ | refine XK.thenR ?_ | refine XK.inN ?_ | refine XK.inE ?_ | refine XK.inR ?_ | refine XK.inF rfl ?_))
    exact XK.ret1 rfl rfl fun w1 st => ⟨by simp [withinB, hg], st.below (by simp)⟩
  ·
    refine xk_guardF rfl rfl rfl (by decide) ?_
    refine xk_guardF rfl rfl rfl (by decide) ?_
    refine xk_guardF rfl rfl rfl (by decide) ?_
    (first | refine xk_pickT rfl rfl (by decide) ?_ | refine xk_pickF rfl rfl (by decide) ?_)
    refine xk_assign rfl (by decide) ?_
    refine XK.nil ?_
    (repeat (first | refine XK.thenN ?_ | refine XK.thenE ?_ | refine XK.thenR ?_ | refine XK.inN ?_ | refine XK.inE ?_ | refine XK.inR ?_ | refine XK.inF rfl ?_))
    refine XK.ret ?_
    (repeat (first | refine XK.thenN ?_ | refine XK.thenE ?_ | refine XK.thenR ?_ | refine XK.inN ?_ | refine XK.inE ?_ | refine XK.inR ?_ | refine XK.inF rfl ?_))
    exact XK.ret1 rfl rfl fun w1 st => ⟨by simp [withinB, hg], st.below (by simp)⟩

theorem first_any (A : Option Addr) (n c : Nat) (fs : List (FuncId × List Value)) (es : List Int) (w : World) (hs : SlS (all w) 1 A n (fs.map fun f => .func (.func f.1) #[] f.2.toArray)) (hn : fs.length = n) (hl : es.length = n) (hn2 : (n : Int) ≤ 9223372036854775806) (hc : ∀ f ∈ fs, callB Try.prog f.1 = true)
    (hf : ∀ (i : Nat) (f : FuncId × List Value) (e : Int), fs[i]? = some f → es[i]? = some e → ∀ w', Below w.heap.size w w' → Calls Try.prog f.1 f.2.toArray w' (Rt (.int .i64 e) w')) :
    Calls Try.prog 65 #[.slice A n c] w (Rt (.int .i64 (firstE es)) w) := by
  refine XK.enter (vs := [.slice A n c]) Try.func65 rfl Try.ntmps65 (by simp) ?_
  refine XK.seq ?_

  refine XK.region ?_
  refine xk_assign rfl (by decide) ?_
  refine XK.nil ?_
  (repeat (first | refine XK.thenN ?_ | refine XK.thenE ?_ | refine XK.thenR ?_ | refine XK.inN ?_ | refine XK.inE ?_ | refine XK.inR ?_ | refine XK.inF rfl ?_))
  refine XK.seq ?_
  refine XK.seq ?_

  refine XK.region ?_
  refine xk_move rfl (by decide) ?_
  refine xk_len (el := 139) (by kernel_rfl) rfl (by decide) ?_
  refine xk_move rfl (by decide) ?_
  refine XK.nil ?_
  (repeat (first | refine XK.thenN ?_ | refine XK.thenE ?_ | refine XK.thenR ?_ | refine XK.inN ?_ | refine XK.inE ?_ | refine XK.inR ?_ | refine XK.inF rfl ?_))
  refine XK.env [(8, .int .i64 0), (7, .int .i64 n), (6, .slice A n c)] ⟨rfl, rfl, rfl, trivial⟩ ?_
  refine XK.block ?_
  refine XK.loop (fun m e R H => ∃ k : Nat, k ≤ n ∧ m = n - k ∧ (∀ j, j < k → es[j]? = some 0) ∧ e = [(8, .int .i64 k), (7, .int .i64 n), (6, .slice A n c)] ∧ R = [all w] ∧ H = []) n ⟨0, by omega, rfl, fun j hj => absurd hj (by omega), rfl, rfl, rfl⟩ fun m e R H hI => ?_
  obtain ⟨k, hk, rfl, hz, rfl, rfl, rfl⟩ := hI
  refine XK.seq ?_

  refine XK.region ?_
  refine xk_lss rfl rfl (by decide) ?_
  refine XK.nil ?_
  (repeat (first | refine XK.thenN ?_ | refine XK.thenE ?_ | refine XK.thenR ?_ | refine XK.inN ?_ | refine XK.inE ?_ | refine XK.inR ?_ | refine XK.inF rfl ?_))
  refine XK.seq ?_
  refine XK.if_ rfl (fun h => ?_) (fun h => ?_)
  ·
    refine XK.skip ?_
    (repeat (first | refine XK.thenN ?_ | refine XK.thenE ?_ | refine XK.thenR ?_ | refine XK.inN ?_ | refine XK.inE ?_ | refine XK.inR ?_ | refine XK.inF rfl ?_))
    refine XK.seq ?_
    refine XK.block ?_
    refine XK.seq ?_
    have hkn : k < n := by omega
    obtain ⟨f, hf1⟩ : ∃ f, fs[k]? = some f := ⟨fs[k]'(by omega), List.getElem?_eq_getElem _⟩
    obtain ⟨e1, he1⟩ : ∃ e, es[k]? = some e := ⟨es[k]'(by omega), List.getElem?_eq_getElem _⟩
    obtain ⟨b, off, rfl, hzb, hc1⟩ := hs.2 (by omega)
    have c1 : ROc w b (off + k) (.func (.func f.1) #[] f.2.toArray) := ⟨hzb, hc1 k _ (by simp [hf1])⟩

    refine XK.region ?_
    refine xk_at (k) (off + k) (el := 139) (sz := 1) (by kernel_rfl) (by kernel_rfl) rfl rfl (by omega) (by omega) (by omega) (by decide) ?_
    refine xk_load (by kernel_rfl) rfl (by first | assumption | exact Rd.blk 0 rfl rfl | exact Rd.blk 1 rfl rfl | exact Rd.blk 2 rfl rfl | exact Rd.blk 3 rfl rfl | exact Rd.blk 4 rfl rfl | exact Rd.blk 5 rfl rfl | exact Rd.blk 6 rfl rfl | exact Rd.blk 7 rfl rfl | exact Rd.blk 8 rfl rfl | exact Rd.roc (by simp) (by assumption) | (apply Rd.rocN (by simp); assumption; rfl)) (by decide) ?_
    refine xk_assign rfl (by decide) ?_
    refine XK.nil ?_
    (repeat (first | refine XK.thenN ?_ | refine XK.thenE ?_ | refine XK.thenR ?_ | refine XK.inN ?_ | refine XK.inE ?_ | refine XK.inR ?_ | refine XK.inF rfl ?_))
    refine XK.seq ?_

    refine XK.region ?_
    refine xk_move rfl (by decide) ?_
    refine xk_callR (f := f.1) (fi := []) (ca := f.2) (hc f (List.mem_of_getElem? hf1)) rfl rfl (by decide) (fun w1 st => by have := hf k f e1 hf1 he1 w1 (st.started (by simp)); simpa using this) ?_
    refine xk_assign rfl (by decide) ?_
    refine XK.nil ?_
    (repeat (first | refine XK.thenN ?_ | refine XK.thenE ?_ | refine XK.thenR ?_ | refine XK.inN ?_ | refine XK.inE ?_ | refine XK.inR ?_ | refine XK.inF rfl ?_))
    refine XK.seq ?_

    refine XK.region ?_
    refine xk_move rfl (by decide) ?_
    refine xk_neq rfl rfl (by decide) ?_
    refine XK.nil ?_
    (repeat (first | refine XK.thenN ?_ | refine XK.thenE ?_ | refine XK.thenR ?_ | refine XK.inN ?_ | refine XK.inE ?_ | refine XK.inR ?_ | refine XK.inF rfl ?_))
    refine XK.if_ rfl (fun h => ?_) (fun h => ?_)
    ·
      refine XK.seq ?_

      refine XK.region ?_
      refine xk_move rfl (by decide) ?_
      refine xk_assign rfl (by decide) ?_
      refine XK.nil ?_
      (repeat (first | refine XK.thenN ?_ | refine XK.thenE ?_ | refine XK.thenR ?_ | refine XK.inN ?_ | refine XK.inE ?_ | refine XK.inR ?_ | refine XK.inF rfl ?_))
      refine XK.ret ?_
      (repeat (first | refine XK.thenN ?_ | refine XK.thenE ?_ | refine XK.thenR ?_ | refine XK.inN ?_ | refine XK.inE ?_ | refine XK.inR ?_ | refine XK.inF rfl ?_))
      exact XK.ret1 rfl rfl fun w1 st => ⟨by rw [firstE_at hz he1 h], st.below (by simp)⟩
    ·
      refine XK.skip ?_
      (repeat (first | refine XK.thenN ?_ | refine XK.thenE ?_ | refine XK.thenR ?_ | refine XK.inN ?_ | refine XK.inE ?_ | refine XK.inR ?_ | refine XK.inF rfl ?_))

      refine XK.region ?_
      refine xk_add rfl rfl (wrap_in (by omega)) (by decide) ?_
      refine xk_move rfl (by decide) ?_
      refine XK.nil ?_
      (repeat (first | refine XK.thenN ?_ | refine XK.thenE ?_ | refine XK.thenR ?_ | refine XK.inN ?_ | refine XK.inE ?_ | refine XK.inR ?_ | refine XK.inF rfl ?_))
      exact XK.env [(8, .int .i64 (k + 1)), (7, .int .i64 n), (6, .slice (some ⟨b, off, none⟩) n c)] ⟨rfl, rfl, rfl, trivial⟩ (XK.round (n - (k + 1)) (by omega) ⟨k + 1, by omega, rfl, (zeros_snoc hz (by rw [he1, show e1 = 0 by omega])), rfl, rfl, rfl⟩)
  ·
    refine XK.exit ?_
    (repeat (first | refine XK.thenN ?_ | refine XK.thenE ?_ | refine XK.thenR ?_ | refine XK.inN ?_ | refine XK.inE ?_ | refine XK.inR ?_ | refine XK.inF rfl ?_))
    refine XK.seq ?_

    refine XK.region ?_
    refine xk_assign rfl (by decide) ?_
    refine XK.nil ?_
    (repeat (first | refine XK.thenN ?_ | refine XK.thenE ?_ | refine XK.thenR ?_ | refine XK.inN ?_ | refine XK.inE ?_ | refine XK.inR ?_ | refine XK.inF rfl ?_))
    refine XK.ret ?_
    (repeat (first | refine XK.thenN ?_ | refine XK.thenE ?_ | refine XK.thenR ?_ | refine XK.inN ?_ | refine XK.inE ?_ | refine XK.inR ?_ | refine XK.inF rfl ?_))
    exact XK.ret1 rfl rfl fun w1 st => ⟨by rw [firstE_none (fun j hj => hz j (by omega))], st.below (by simp)⟩

theorem each_int (A : Option Addr) (n c : Nat) (id : FuncId) (ca : List Value) (rows : List (List Value)) (es : List Int) (w : World) (hs : SlS (all w) 1 A n rows.flatten) (hr : ∀ r ∈ rows, r.length = 1) (hn : rows.length = n) (hl : es.length = n) (hn2 : (n : Int) ≤ 9223372036854775806) (hc : callB Try.prog id = true)
    (hf : ∀ (i : Nat) (r : List Value) (e : Int), rows[i]? = some r → es[i]? = some e → ∀ w', Below w.heap.size w w' → Calls Try.prog id (r ++ ca).toArray w' (Rt (.int .i64 e) w')) :
    Calls Try.prog 117 #[.slice A n c, .func (.func id) #[] ca.toArray] w (Rt (.int .i64 (firstE es)) w) := by
  refine XK.enter (vs := [.slice A n c, .func (.func id) #[] ca.toArray]) Try.func117 rfl Try.ntmps117 (by simp) ?_
  refine XK.seq ?_

  refine XK.region ?_
  refine xk_assign rfl (by decide) ?_
  refine XK.nil ?_
  (repeat (first | refine XK.thenN ?_ | refine XK.thenE ?_ | refine XK.thenR ?_ | refine XK.inN ?_ | refine XK.inE ?_ | refine XK.inR ?_ | refine XK.inF rfl ?_))
  refine XK.seq ?_
  refine XK.seq ?_

  refine XK.region ?_
  refine xk_move rfl (by decide) ?_
  refine xk_len (el := 3) (by kernel_rfl) rfl (by decide) ?_
  refine xk_move rfl (by decide) ?_
  refine XK.nil ?_
  (repeat (first | refine XK.thenN ?_ | refine XK.thenE ?_ | refine XK.thenR ?_ | refine XK.inN ?_ | refine XK.inE ?_ | refine XK.inR ?_ | refine XK.inF rfl ?_))
  refine XK.env [(10, .int .i64 0), (9, .int .i64 n), (8, .slice A n c), (1, .func (.func id) #[] ca.toArray)] ⟨rfl, rfl, rfl, rfl, trivial⟩ ?_
  refine XK.block ?_
  refine XK.loop (fun m e R H => ∃ k : Nat, k ≤ n ∧ m = n - k ∧ (∀ j, j < k → es[j]? = some 0) ∧ e = [(10, .int .i64 k), (9, .int .i64 n), (8, .slice A n c), (1, .func (.func id) #[] ca.toArray)] ∧ R = [all w] ∧ H = []) n ⟨0, by omega, rfl, fun j hj => absurd hj (by omega), rfl, rfl, rfl⟩ fun m e R H hI => ?_
  obtain ⟨k, hk, rfl, hz, rfl, rfl, rfl⟩ := hI
  refine XK.seq ?_

  refine XK.region ?_
  refine xk_lss rfl rfl (by decide) ?_
  refine XK.nil ?_
  (repeat (first | refine XK.thenN ?_ | refine XK.thenE ?_ | refine XK.thenR ?_ | refine XK.inN ?_ | refine XK.inE ?_ | refine XK.inR ?_ | refine XK.inF rfl ?_))
  refine XK.seq ?_
  refine XK.if_ rfl (fun h => ?_) (fun h => ?_)
  ·
    refine XK.skip ?_
    (repeat (first | refine XK.thenN ?_ | refine XK.thenE ?_ | refine XK.thenR ?_ | refine XK.inN ?_ | refine XK.inE ?_ | refine XK.inR ?_ | refine XK.inF rfl ?_))
    refine XK.seq ?_
    refine XK.block ?_
    refine XK.seq ?_
    have hkn : k < n := by omega
    obtain ⟨r, hr1⟩ : ∃ r, rows[k]? = some r := ⟨rows[k]'(by omega), List.getElem?_eq_getElem _⟩
    obtain ⟨e1, he1⟩ : ∃ e, es[k]? = some e := ⟨es[k]'(by omega), List.getElem?_eq_getElem _⟩
    obtain ⟨b, off, rfl, c1⟩ := hs.row hr hr1 hkn
    have hr2 := hr r (List.mem_of_getElem? hr1)
    obtain ⟨v, rfl⟩ : ∃ v, r = [v] := by match r, hr2 with | [v], _ => exact ⟨v, rfl⟩
    have c2 := c1.at_ (j := 0) rfl

    refine XK.region ?_
    refine xk_at (k) (off + k * 1) (el := 3) (sz := 1) (by kernel_rfl) (by kernel_rfl) rfl rfl (by omega) (by omega) (by omega) (by decide) ?_
    refine xk_load (by kernel_rfl) rfl (Rd.roc (by simp) (by simpa using c2)) (by decide) ?_
    refine xk_assign rfl (by decide) ?_
    refine XK.nil ?_
    (repeat (first | refine XK.thenN ?_ | refine XK.thenE ?_ | refine XK.thenR ?_ | refine XK.inN ?_ | refine XK.inE ?_ | refine XK.inR ?_ | refine XK.inF rfl ?_))
    refine XK.seq ?_

    refine XK.region ?_
    refine xk_move rfl (by decide) ?_
    refine xk_move rfl (by decide) ?_
    refine xk_callR (f := id) (fi := []) (ca := ca) hc rfl rfl (by decide) (fun w1 st => by have := hf k [v] e1 hr1 he1 w1 (st.started (by simp)); simpa using this) ?_
    refine xk_assign rfl (by decide) ?_
    refine XK.nil ?_
    (repeat (first | refine XK.thenN ?_ | refine XK.thenE ?_ | refine XK.thenR ?_ | refine XK.inN ?_ | refine XK.inE ?_ | refine XK.inR ?_ | refine XK.inF rfl ?_))
    refine XK.seq ?_

    refine XK.region ?_
    refine xk_move rfl (by decide) ?_
    refine xk_neq rfl rfl (by decide) ?_
    refine XK.nil ?_
    (repeat (first | refine XK.thenN ?_ | refine XK.thenE ?_ | refine XK.thenR ?_ | refine XK.inN ?_ | refine XK.inE ?_ | refine XK.inR ?_ | refine XK.inF rfl ?_))
    refine XK.if_ rfl (fun h => ?_) (fun h => ?_)
    ·
      refine XK.seq ?_

      refine XK.region ?_
      refine xk_move rfl (by decide) ?_
      refine xk_assign rfl (by decide) ?_
      refine XK.nil ?_
      (repeat (first | refine XK.thenN ?_ | refine XK.thenE ?_ | refine XK.thenR ?_ | refine XK.inN ?_ | refine XK.inE ?_ | refine XK.inR ?_ | refine XK.inF rfl ?_))
      refine XK.ret ?_
      (repeat (first | refine XK.thenN ?_ | refine XK.thenE ?_ | refine XK.thenR ?_ | refine XK.inN ?_ | refine XK.inE ?_ | refine XK.inR ?_ | refine XK.inF rfl ?_))
      exact XK.ret1 rfl rfl fun w1 st => ⟨by rw [firstE_at hz he1 h], st.below (by simp)⟩
    ·
      refine XK.skip ?_
      (repeat (first | refine XK.thenN ?_ | refine XK.thenE ?_ | refine XK.thenR ?_ | refine XK.inN ?_ | refine XK.inE ?_ | refine XK.inR ?_ | refine XK.inF rfl ?_))

      refine XK.region ?_
      refine xk_add rfl rfl (wrap_in (by omega)) (by decide) ?_
      refine xk_move rfl (by decide) ?_
      refine XK.nil ?_
      (repeat (first | refine XK.thenN ?_ | refine XK.thenE ?_ | refine XK.thenR ?_ | refine XK.inN ?_ | refine XK.inE ?_ | refine XK.inR ?_ | refine XK.inF rfl ?_))
      exact XK.env [(10, .int .i64 (k + 1)), (9, .int .i64 n), (8, .slice (some ⟨b, off, none⟩) n c), (1, .func (.func id) #[] ca.toArray)] ⟨rfl, rfl, rfl, rfl, trivial⟩ (XK.round (n - (k + 1)) (by omega) ⟨k + 1, by omega, rfl, (zeros_snoc hz (by rw [he1, show e1 = 0 by omega])), rfl, rfl, rfl⟩)
  ·
    refine XK.exit ?_
    (repeat (first | refine XK.thenN ?_ | refine XK.thenE ?_ | refine XK.thenR ?_ | refine XK.inN ?_ | refine XK.inE ?_ | refine XK.inR ?_ | refine XK.inF rfl ?_))
    refine XK.seq ?_

    refine XK.region ?_
    refine xk_assign rfl (by decide) ?_
    refine XK.nil ?_
    (repeat (first | refine XK.thenN ?_ | refine XK.thenE ?_ | refine XK.thenR ?_ | refine XK.inN ?_ | refine XK.inE ?_ | refine XK.inR ?_ | refine XK.inF rfl ?_))
    refine XK.ret ?_
    (repeat (first | refine XK.thenN ?_ | refine XK.thenE ?_ | refine XK.thenR ?_ | refine XK.inN ?_ | refine XK.inE ?_ | refine XK.inR ?_ | refine XK.inF rfl ?_))
    exact XK.ret1 rfl rfl fun w1 st => ⟨by rw [firstE_none (fun j hj => hz j (by omega))], st.below (by simp)⟩

theorem each_clk (A : Option Addr) (n c : Nat) (id : FuncId) (ca : List Value) (rows : List (List Value)) (es : List Int) (w : World) (hs : SlS (all w) 6 A n rows.flatten) (hr : ∀ r ∈ rows, r.length = 6) (hone : ∀ r ∈ rows, ∀ u ∈ r, u.oneCell' = true) (hn : rows.length = n) (hl : es.length = n) (hn2 : (n : Int) ≤ 9223372036854775806) (hc : callB Try.prog id = true)
    (hf : ∀ (i : Nat) (r : List Value) (e : Int), rows[i]? = some r → es[i]? = some e → ∀ w', Below w.heap.size w w' → Calls Try.prog id ([Value.agg r.toArray] ++ ca).toArray w' (Rt (.int .i64 e) w')) :
    Calls Try.prog 69 #[.slice A n c, .func (.func id) #[] ca.toArray] w (Rt (.int .i64 (firstE es)) w) := by
  refine XK.enter (vs := [.slice A n c, .func (.func id) #[] ca.toArray]) Try.func69 rfl Try.ntmps69 (by simp) ?_
  refine XK.seq ?_

  refine XK.region ?_
  refine xk_assign rfl (by decide) ?_
  refine XK.nil ?_
  (repeat (first | refine XK.thenN ?_ | refine XK.thenE ?_ | refine XK.thenR ?_ | refine XK.inN ?_ | refine XK.inE ?_ | refine XK.inR ?_ | refine XK.inF rfl ?_))
  refine XK.seq ?_
  refine XK.seq ?_

  refine XK.region ?_
  refine xk_move rfl (by decide) ?_
  refine xk_len (el := 65) (by kernel_rfl) rfl (by decide) ?_
  refine xk_move rfl (by decide) ?_
  refine XK.nil ?_
  (repeat (first | refine XK.thenN ?_ | refine XK.thenE ?_ | refine XK.thenR ?_ | refine XK.inN ?_ | refine XK.inE ?_ | refine XK.inR ?_ | refine XK.inF rfl ?_))
  refine XK.env [(10, .int .i64 0), (9, .int .i64 n), (8, .slice A n c), (1, .func (.func id) #[] ca.toArray)] ⟨rfl, rfl, rfl, rfl, trivial⟩ ?_
  refine XK.block ?_
  refine XK.loop (fun m e R H => ∃ k : Nat, k ≤ n ∧ m = n - k ∧ (∀ j, j < k → es[j]? = some 0) ∧ e = [(10, .int .i64 k), (9, .int .i64 n), (8, .slice A n c), (1, .func (.func id) #[] ca.toArray)] ∧ R = [all w] ∧ H = []) n ⟨0, by omega, rfl, fun j hj => absurd hj (by omega), rfl, rfl, rfl⟩ fun m e R H hI => ?_
  obtain ⟨k, hk, rfl, hz, rfl, rfl, rfl⟩ := hI
  refine XK.seq ?_

  refine XK.region ?_
  refine xk_lss rfl rfl (by decide) ?_
  refine XK.nil ?_
  (repeat (first | refine XK.thenN ?_ | refine XK.thenE ?_ | refine XK.thenR ?_ | refine XK.inN ?_ | refine XK.inE ?_ | refine XK.inR ?_ | refine XK.inF rfl ?_))
  refine XK.seq ?_
  refine XK.if_ rfl (fun h => ?_) (fun h => ?_)
  ·
    refine XK.skip ?_
    (repeat (first | refine XK.thenN ?_ | refine XK.thenE ?_ | refine XK.thenR ?_ | refine XK.inN ?_ | refine XK.inE ?_ | refine XK.inR ?_ | refine XK.inF rfl ?_))
    refine XK.seq ?_
    refine XK.block ?_
    refine XK.seq ?_
    have hkn : k < n := by omega
    obtain ⟨r, hr1⟩ : ∃ r, rows[k]? = some r := ⟨rows[k]'(by omega), List.getElem?_eq_getElem _⟩
    obtain ⟨e1, he1⟩ : ∃ e, es[k]? = some e := ⟨es[k]'(by omega), List.getElem?_eq_getElem _⟩
    obtain ⟨b, off, rfl, c1⟩ := hs.row hr hr1 hkn
    have hr2 := hr r (List.mem_of_getElem? hr1)

    refine XK.region ?_
    refine xk_at (k) (off + k * 6) (el := 65) (sz := 6) (by kernel_rfl) (by kernel_rfl) rfl rfl (by omega) (by omega) (by omega) (by decide) ?_
    refine xk_loadN 6 (by kernel_rfl) rfl (by first | assumption | exact RdN.whole 0 rfl | exact RdN.whole 1 rfl | exact RdN.whole 2 rfl | exact RdN.whole 3 rfl | exact RdN.whole 4 rfl | exact RdN.whole 5 rfl | exact RdN.whole 6 rfl | exact RdN.whole 7 rfl | exact RdN.whole 8 rfl | exact RdN.roc (by simp) (by assumption)) hr2 (by decide) ?_
    refine xk_alloc (cs := [.int .u8 0, .slice none 0 0, .int .u64 0, .int .i64 0, .int .i64 0, .int .i64 0]) (zeroB_of (by kernel_rfl)) (by decide) fun g1 => ?_
    refine xk_storeN 0 rfl rfl rfl (by rw [show (Value.agg r.toArray).cells.size = 6 by simp [Value.cells, hr2]]; kernel_rfl) (hone r (List.mem_of_getElem? hr1)) (by simp [Value.cells, hr2]) ?_
    rw [putN_all (by simp [Value.cells, hr2])]
    dsimp only [List.set, Value.cells]
    refine XK.nil ?_
    (repeat (first | refine XK.thenN ?_ | refine XK.thenE ?_ | refine XK.thenR ?_ | refine XK.inN ?_ | refine XK.inE ?_ | refine XK.inR ?_ | refine XK.inF rfl ?_))
    refine XK.seq ?_

    refine XK.region ?_
    refine xk_move rfl (by decide) ?_
    refine xk_loadN 6 (by kernel_rfl) rfl (by first | assumption | exact RdN.whole 0 rfl | exact RdN.whole 1 rfl | exact RdN.whole 2 rfl | exact RdN.whole 3 rfl | exact RdN.whole 4 rfl | exact RdN.whole 5 rfl | exact RdN.whole 6 rfl | exact RdN.whole 7 rfl | exact RdN.whole 8 rfl | exact RdN.roc (by simp) (by assumption)) hr2 (by decide) ?_
    refine xk_callR (f := id) (fi := []) (ca := ca) hc rfl rfl (by decide) (fun w1 st => by have := hf k r e1 hr1 he1 w1 (st.started (by simp)); simpa using this) ?_
    refine xk_assign rfl (by decide) ?_
    refine XK.nil ?_
    (repeat (first | refine XK.thenN ?_ | refine XK.thenE ?_ | refine XK.thenR ?_ | refine XK.inN ?_ | refine XK.inE ?_ | refine XK.inR ?_ | refine XK.inF rfl ?_))
    refine XK.seq ?_

    refine XK.region ?_
    refine xk_move rfl (by decide) ?_
    refine xk_neq rfl rfl (by decide) ?_
    refine XK.nil ?_
    (repeat (first | refine XK.thenN ?_ | refine XK.thenE ?_ | refine XK.thenR ?_ | refine XK.inN ?_ | refine XK.inE ?_ | refine XK.inR ?_ | refine XK.inF rfl ?_))
    refine XK.if_ rfl (fun h => ?_) (fun h => ?_)
    ·
      refine XK.seq ?_

      refine XK.region ?_
      refine xk_move rfl (by decide) ?_
      refine xk_assign rfl (by decide) ?_
      refine XK.nil ?_
      (repeat (first | refine XK.thenN ?_ | refine XK.thenE ?_ | refine XK.thenR ?_ | refine XK.inN ?_ | refine XK.inE ?_ | refine XK.inR ?_ | refine XK.inF rfl ?_))
      refine XK.ret ?_
      (repeat (first | refine XK.thenN ?_ | refine XK.thenE ?_ | refine XK.thenR ?_ | refine XK.inN ?_ | refine XK.inE ?_ | refine XK.inR ?_ | refine XK.inF rfl ?_))
      exact XK.ret1 rfl rfl fun w1 st => ⟨by rw [firstE_at hz he1 h], st.below (by simp)⟩
    ·
      refine XK.skip ?_
      (repeat (first | refine XK.thenN ?_ | refine XK.thenE ?_ | refine XK.thenR ?_ | refine XK.inN ?_ | refine XK.inE ?_ | refine XK.inR ?_ | refine XK.inF rfl ?_))

      refine XK.region ?_
      refine xk_add rfl rfl (wrap_in (by omega)) (by decide) ?_
      refine xk_move rfl (by decide) ?_
      refine XK.nil ?_
      (repeat (first | refine XK.thenN ?_ | refine XK.thenE ?_ | refine XK.thenR ?_ | refine XK.inN ?_ | refine XK.inE ?_ | refine XK.inR ?_ | refine XK.inF rfl ?_))
      exact XK.weak [] rfl (by decide) (by simp) (XK.env [(10, .int .i64 (k + 1)), (9, .int .i64 n), (8, .slice (some ⟨b, off, none⟩) n c), (1, .func (.func id) #[] ca.toArray)] ⟨rfl, rfl, rfl, rfl, trivial⟩ (XK.round (n - (k + 1)) (by omega) ⟨k + 1, by omega, rfl, (zeros_snoc hz (by rw [he1, show e1 = 0 by omega])), rfl, rfl, rfl⟩))
  ·
    refine XK.exit ?_
    (repeat (first | refine XK.thenN ?_ | refine XK.thenE ?_ | refine XK.thenR ?_ | refine XK.inN ?_ | refine XK.inE ?_ | refine XK.inR ?_ | refine XK.inF rfl ?_))
    refine XK.seq ?_

    refine XK.region ?_
    refine xk_assign rfl (by decide) ?_
    refine XK.nil ?_
    (repeat (first | refine XK.thenN ?_ | refine XK.thenE ?_ | refine XK.thenR ?_ | refine XK.inN ?_ | refine XK.inE ?_ | refine XK.inR ?_ | refine XK.inF rfl ?_))
    refine XK.ret ?_
    (repeat (first | refine XK.thenN ?_ | refine XK.thenE ?_ | refine XK.thenR ?_ | refine XK.inN ?_ | refine XK.inE ?_ | refine XK.inR ?_ | refine XK.inF rfl ?_))
    exact XK.ret1 rfl rfl fun w1 st => ⟨by rw [firstE_none (fun j hj => hz j (by omega))], st.below (by simp)⟩

theorem each_dom (A : Option Addr) (n c : Nat) (id : FuncId) (ca : List Value) (rows : List (List Value)) (es : List Int) (w : World) (hs : SlS (all w) 3 A n rows.flatten) (hr : ∀ r ∈ rows, r.length = 3) (hone : ∀ r ∈ rows, ∀ u ∈ r, u.oneCell' = true) (hn : rows.length = n) (hl : es.length = n) (hn2 : (n : Int) ≤ 9223372036854775806) (hc : callB Try.prog id = true)
    (hf : ∀ (i : Nat) (r : List Value) (e : Int), rows[i]? = some r → es[i]? = some e → ∀ w', Below w.heap.size w w' → Calls Try.prog id ([Value.agg r.toArray] ++ ca).toArray w' (Rt (.int .i64 e) w')) :
    Calls Try.prog 75 #[.slice A n c, .func (.func id) #[] ca.toArray] w (Rt (.int .i64 (firstE es)) w) := by
  refine XK.enter (vs := [.slice A n c, .func (.func id) #[] ca.toArray]) Try.func75 rfl Try.ntmps75 (by simp) ?_
  refine XK.seq ?_

  refine XK.region ?_
  refine xk_assign rfl (by decide) ?_
  refine XK.nil ?_
  (repeat (first | refine XK.thenN ?_ | refine XK.thenE ?_ | refine XK.thenR ?_ | refine XK.inN ?_ | refine XK.inE ?_ | refine XK.inR ?_ | refine XK.inF rfl ?_))
  refine XK.seq ?_
  refine XK.seq ?_

  refine XK.region ?_
  refine xk_move rfl (by decide) ?_
  refine xk_len (el := 61) (by kernel_rfl) rfl (by decide) ?_
  refine xk_move rfl (by decide) ?_
  refine XK.nil ?_
  (repeat (first | refine XK.thenN ?_ | refine XK.thenE ?_ | refine XK.thenR ?_ | refine XK.inN ?_ | refine XK.inE ?_ | refine XK.inR ?_ | refine XK.inF rfl ?_))
  refine XK.env [(10, .int .i64 0), (9, .int .i64 n), (8, .slice A n c), (1, .func (.func id) #[] ca.toArray)] ⟨rfl, rfl, rfl, rfl, trivial⟩ ?_
  refine XK.block ?_
  refine XK.loop (fun m e R H => ∃ k : Nat, k ≤ n ∧ m = n - k ∧ (∀ j, j < k → es[j]? = some 0) ∧ e = [(10, .int .i64 k), (9, .int .i64 n), (8, .slice A n c), (1, .func (.func id) #[] ca.toArray)] ∧ R = [all w] ∧ H = []) n ⟨0, by omega, rfl, fun j hj => absurd hj (by omega), rfl, rfl, rfl⟩ fun m e R H hI => ?_
  obtain ⟨k, hk, rfl, hz, rfl, rfl, rfl⟩ := hI
  refine XK.seq ?_

  refine XK.region ?_
  refine xk_lss rfl rfl (by decide) ?_
  refine XK.nil ?_
  (repeat (first | refine XK.thenN ?_ | refine XK.thenE ?_ | refine XK.thenR ?_ | refine XK.inN ?_ | refine XK.inE ?_ | refine XK.inR ?_ | refine XK.inF rfl ?_))
  refine XK.seq ?_
  refine XK.if_ rfl (fun h => ?_) (fun h => ?_)
  ·
    refine XK.skip ?_
    (repeat (first | refine XK.thenN ?_ | refine XK.thenE ?_ | refine XK.thenR ?_ | refine XK.inN ?_ | refine XK.inE ?_ | refine XK.inR ?_ | refine XK.inF rfl ?_))
    refine XK.seq ?_
    refine XK.block ?_
    refine XK.seq ?_
    have hkn : k < n := by omega
    obtain ⟨r, hr1⟩ : ∃ r, rows[k]? = some r := ⟨rows[k]'(by omega), List.getElem?_eq_getElem _⟩
    obtain ⟨e1, he1⟩ : ∃ e, es[k]? = some e := ⟨es[k]'(by omega), List.getElem?_eq_getElem _⟩
    obtain ⟨b, off, rfl, c1⟩ := hs.row hr hr1 hkn
    have hr2 := hr r (List.mem_of_getElem? hr1)

    refine XK.region ?_
    refine xk_at (k) (off + k * 3) (el := 61) (sz := 3) (by kernel_rfl) (by kernel_rfl) rfl rfl (by omega) (by omega) (by omega) (by decide) ?_
    refine xk_loadN 3 (by kernel_rfl) rfl (by first | assumption | exact RdN.whole 0 rfl | exact RdN.whole 1 rfl | exact RdN.whole 2 rfl | exact RdN.whole 3 rfl | exact RdN.whole 4 rfl | exact RdN.whole 5 rfl | exact RdN.whole 6 rfl | exact RdN.whole 7 rfl | exact RdN.whole 8 rfl | exact RdN.roc (by simp) (by assumption)) hr2 (by decide) ?_
    refine xk_alloc (cs := [.int .i64 0, .int .i64 0, .bool false]) (zeroB_of (by kernel_rfl)) (by decide) fun g1 => ?_
    refine xk_storeN 0 rfl rfl rfl (by rw [show (Value.agg r.toArray).cells.size = 3 by simp [Value.cells, hr2]]; kernel_rfl) (hone r (List.mem_of_getElem? hr1)) (by simp [Value.cells, hr2]) ?_
    rw [putN_all (by simp [Value.cells, hr2])]
    dsimp only [List.set, Value.cells]
    refine XK.nil ?_
    (repeat (first | refine XK.thenN ?_ | refine XK.thenE ?_ | refine XK.thenR ?_ | refine XK.inN ?_ | refine XK.inE ?_ | refine XK.inR ?_ | refine XK.inF rfl ?_))
    refine XK.seq ?_

    refine XK.region ?_
    refine xk_move rfl (by decide) ?_
    refine xk_loadN 3 (by kernel_rfl) rfl (by first | assumption | exact RdN.whole 0 rfl | exact RdN.whole 1 rfl | exact RdN.whole 2 rfl | exact RdN.whole 3 rfl | exact RdN.whole 4 rfl | exact RdN.whole 5 rfl | exact RdN.whole 6 rfl | exact RdN.whole 7 rfl | exact RdN.whole 8 rfl | exact RdN.roc (by simp) (by assumption)) hr2 (by decide) ?_
    refine xk_callR (f := id) (fi := []) (ca := ca) hc rfl rfl (by decide) (fun w1 st => by have := hf k r e1 hr1 he1 w1 (st.started (by simp)); simpa using this) ?_
    refine xk_assign rfl (by decide) ?_
    refine XK.nil ?_
    (repeat (first | refine XK.thenN ?_ | refine XK.thenE ?_ | refine XK.thenR ?_ | refine XK.inN ?_ | refine XK.inE ?_ | refine XK.inR ?_ | refine XK.inF rfl ?_))
    refine XK.seq ?_

    refine XK.region ?_
    refine xk_move rfl (by decide) ?_
    refine xk_neq rfl rfl (by decide) ?_
    refine XK.nil ?_
    (repeat (first | refine XK.thenN ?_ | refine XK.thenE ?_ | refine XK.thenR ?_ | refine XK.inN ?_ | refine XK.inE ?_ | refine XK.inR ?_ | refine XK.inF rfl ?_))
    refine XK.if_ rfl (fun h => ?_) (fun h => ?_)
    ·
      refine XK.seq ?_

      refine XK.region ?_
      refine xk_move rfl (by decide) ?_
      refine xk_assign rfl (by decide) ?_
      refine XK.nil ?_
      (repeat (first | refine XK.thenN ?_ | refine XK.thenE ?_ | refine XK.thenR ?_ | refine XK.inN ?_ | refine XK.inE ?_ | refine XK.inR ?_ | refine XK.inF rfl ?_))
      refine XK.ret ?_
      (repeat (first | refine XK.thenN ?_ | refine XK.thenE ?_ | refine XK.thenR ?_ | refine XK.inN ?_ | refine XK.inE ?_ | refine XK.inR ?_ | refine XK.inF rfl ?_))
      exact XK.ret1 rfl rfl fun w1 st => ⟨by rw [firstE_at hz he1 h], st.below (by simp)⟩
    ·
      refine XK.skip ?_
      (repeat (first | refine XK.thenN ?_ | refine XK.thenE ?_ | refine XK.thenR ?_ | refine XK.inN ?_ | refine XK.inE ?_ | refine XK.inR ?_ | refine XK.inF rfl ?_))

      refine XK.region ?_
      refine xk_add rfl rfl (wrap_in (by omega)) (by decide) ?_
      refine xk_move rfl (by decide) ?_
      refine XK.nil ?_
      (repeat (first | refine XK.thenN ?_ | refine XK.thenE ?_ | refine XK.thenR ?_ | refine XK.inN ?_ | refine XK.inE ?_ | refine XK.inR ?_ | refine XK.inF rfl ?_))
      exact XK.weak [] rfl (by decide) (by simp) (XK.env [(10, .int .i64 (k + 1)), (9, .int .i64 n), (8, .slice (some ⟨b, off, none⟩) n c), (1, .func (.func id) #[] ca.toArray)] ⟨rfl, rfl, rfl, rfl, trivial⟩ (XK.round (n - (k + 1)) (by omega) ⟨k + 1, by omega, rfl, (zeros_snoc hz (by rw [he1, show e1 = 0 by omega])), rfl, rfl, rfl⟩))
  ·
    refine XK.exit ?_
    (repeat (first | refine XK.thenN ?_ | refine XK.thenE ?_ | refine XK.thenR ?_ | refine XK.inN ?_ | refine XK.inE ?_ | refine XK.inR ?_ | refine XK.inF rfl ?_))
    refine XK.seq ?_

    refine XK.region ?_
    refine xk_assign rfl (by decide) ?_
    refine XK.nil ?_
    (repeat (first | refine XK.thenN ?_ | refine XK.thenE ?_ | refine XK.thenR ?_ | refine XK.inN ?_ | refine XK.inE ?_ | refine XK.inR ?_ | refine XK.inF rfl ?_))
    refine XK.ret ?_
    (repeat (first | refine XK.thenN ?_ | refine XK.thenE ?_ | refine XK.thenR ?_ | refine XK.inN ?_ | refine XK.inE ?_ | refine XK.inR ?_ | refine XK.inF rfl ?_))
    exact XK.ret1 rfl rfl fun w1 st => ⟨by rw [firstE_none (fun j hj => hz j (by omega))], st.below (by simp)⟩

theorem each_rst (A : Option Addr) (n c : Nat) (id : FuncId) (ca : List Value) (rows : List (List Value)) (es : List Int) (w : World) (hs : SlS (all w) 1 A n rows.flatten) (hr : ∀ r ∈ rows, r.length = 1) (hone : ∀ r ∈ rows, ∀ u ∈ r, u.oneCell' = true) (hn : rows.length = n) (hl : es.length = n) (hn2 : (n : Int) ≤ 9223372036854775806) (hc : callB Try.prog id = true)
    (hf : ∀ (i : Nat) (r : List Value) (e : Int), rows[i]? = some r → es[i]? = some e → ∀ w', Below w.heap.size w w' → Calls Try.prog id ([Value.agg r.toArray] ++ ca).toArray w' (Rt (.int .i64 e) w')) :
    Calls Try.prog 80 #[.slice A n c, .func (.func id) #[] ca.toArray] w (Rt (.int .i64 (firstE es)) w) := by
  refine XK.enter (vs := [.slice A n c, .func (.func id) #[] ca.toArray]) Try.func80 rfl Try.ntmps80 (by simp) ?_
  refine XK.seq ?_

  refine XK.region ?_
  refine xk_assign rfl (by decide) ?_
  refine XK.nil ?_
  (repeat (first | refine XK.thenN ?_ | refine XK.thenE ?_ | refine XK.thenR ?_ | refine XK.inN ?_ | refine XK.inE ?_ | refine XK.inR ?_ | refine XK.inF rfl ?_))
  refine XK.seq ?_
  refine XK.seq ?_

  refine XK.region ?_
  refine xk_move rfl (by decide) ?_
  refine xk_len (el := 102) (by kernel_rfl) rfl (by decide) ?_
  refine xk_move rfl (by decide) ?_
  refine XK.nil ?_
  (repeat (first | refine XK.thenN ?_ | refine XK.thenE ?_ | refine XK.thenR ?_ | refine XK.inN ?_ | refine XK.inE ?_ | refine XK.inR ?_ | refine XK.inF rfl ?_))
  refine XK.env [(10, .int .i64 0), (9, .int .i64 n), (8, .slice A n c), (1, .func (.func id) #[] ca.toArray)] ⟨rfl, rfl, rfl, rfl, trivial⟩ ?_
  refine XK.block ?_
  refine XK.loop (fun m e R H => ∃ k : Nat, k ≤ n ∧ m = n - k ∧ (∀ j, j < k → es[j]? = some 0) ∧ e = [(10, .int .i64 k), (9, .int .i64 n), (8, .slice A n c), (1, .func (.func id) #[] ca.toArray)] ∧ R = [all w] ∧ H = []) n ⟨0, by omega, rfl, fun j hj => absurd hj (by omega), rfl, rfl, rfl⟩ fun m e R H hI => ?_
  obtain ⟨k, hk, rfl, hz, rfl, rfl, rfl⟩ := hI
  refine XK.seq ?_

  refine XK.region ?_
  refine xk_lss rfl rfl (by decide) ?_
  refine XK.nil ?_
  (repeat (first | refine XK.thenN ?_ | refine XK.thenE ?_ | refine XK.thenR ?_ | refine XK.inN ?_ | refine XK.inE ?_ | refine XK.inR ?_ | refine XK.inF rfl ?_))
  refine XK.seq ?_
  refine XK.if_ rfl (fun h => ?_) (fun h => ?_)
  ·
    refine XK.skip ?_
    (repeat (first | refine XK.thenN ?_ | refine XK.thenE ?_ | refine XK.thenR ?_ | refine XK.inN ?_ | refine XK.inE ?_ | refine XK.inR ?_ | refine XK.inF rfl ?_))
    refine XK.seq ?_
    refine XK.block ?_
    refine XK.seq ?_
    have hkn : k < n := by omega
    obtain ⟨r, hr1⟩ : ∃ r, rows[k]? = some r := ⟨rows[k]'(by omega), List.getElem?_eq_getElem _⟩
    obtain ⟨e1, he1⟩ : ∃ e, es[k]? = some e := ⟨es[k]'(by omega), List.getElem?_eq_getElem _⟩
    obtain ⟨b, off, rfl, c1⟩ := hs.row hr hr1 hkn
    have hr2 := hr r (List.mem_of_getElem? hr1)

    refine XK.region ?_
    refine xk_at (k) (off + k * 1) (el := 102) (sz := 1) (by kernel_rfl) (by kernel_rfl) rfl rfl (by omega) (by omega) (by omega) (by decide) ?_
    refine xk_loadN 1 (by kernel_rfl) rfl (by first | assumption | exact RdN.whole 0 rfl | exact RdN.whole 1 rfl | exact RdN.whole 2 rfl | exact RdN.whole 3 rfl | exact RdN.whole 4 rfl | exact RdN.whole 5 rfl | exact RdN.whole 6 rfl | exact RdN.whole 7 rfl | exact RdN.whole 8 rfl | exact RdN.roc (by simp) (by assumption)) hr2 (by decide) ?_
    refine xk_alloc (cs := [.int .i64 0]) (zeroB_of (by kernel_rfl)) (by decide) fun g1 => ?_
    refine xk_storeN 0 rfl rfl rfl (by rw [show (Value.agg r.toArray).cells.size = 1 by simp [Value.cells, hr2]]; kernel_rfl) (hone r (List.mem_of_getElem? hr1)) (by simp [Value.cells, hr2]) ?_
    rw [putN_all (by simp [Value.cells, hr2])]
    dsimp only [List.set, Value.cells]
    refine XK.nil ?_
    (repeat (first | refine XK.thenN ?_ | refine XK.thenE ?_ | refine XK.thenR ?_ | refine XK.inN ?_ | refine XK.inE ?_ | refine XK.inR ?_ | refine XK.inF rfl ?_))
    refine XK.seq ?_

    refine XK.region ?_
    refine xk_move rfl (by decide) ?_
    refine xk_loadN 1 (by kernel_rfl) rfl (by first | assumption | exact RdN.whole 0 rfl | exact RdN.whole 1 rfl | exact RdN.whole 2 rfl | exact RdN.whole 3 rfl | exact RdN.whole 4 rfl | exact RdN.whole 5 rfl | exact RdN.whole 6 rfl | exact RdN.whole 7 rfl | exact RdN.whole 8 rfl | exact RdN.roc (by simp) (by assumption)) hr2 (by decide) ?_
    refine xk_callR (f := id) (fi := []) (ca := ca) hc rfl rfl (by decide) (fun w1 st => by have := hf k r e1 hr1 he1 w1 (st.started (by simp)); simpa using this) ?_
    refine xk_assign rfl (by decide) ?_
    refine XK.nil ?_
    (repeat (first | refine XK.thenN ?_ | refine XK.thenE ?_ | refine XK.thenR ?_ | refine XK.inN ?_ | refine XK.inE ?_ | refine XK.inR ?_ | refine XK.inF rfl ?_))
    refine XK.seq ?_

    refine XK.region ?_
    refine xk_move rfl (by decide) ?_
    refine xk_neq rfl rfl (by decide) ?_
    refine XK.nil ?_
    (repeat (first | refine XK.thenN ?_ | refine XK.thenE ?_ | refine XK.thenR ?_ | refine XK.inN ?_ | refine XK.inE ?_ | refine XK.inR ?_ | refine XK.inF rfl ?_))
    refine XK.if_ rfl (fun h => ?_) (fun h => ?_)
    ·
      refine XK.seq ?_

      refine XK.region ?_
      refine xk_move rfl (by decide) ?_
      refine xk_assign rfl (by decide) ?_
      refine XK.nil ?_
      (repeat (first | refine XK.thenN ?_ | refine XK.thenE ?_ | refine XK.thenR ?_ | refine XK.inN ?_ | refine XK.inE ?_ | refine XK.inR ?_ | refine XK.inF rfl ?_))
      refine XK.ret ?_
      (repeat (first | refine XK.thenN ?_ | refine XK.thenE ?_ | refine XK.thenR ?_ | refine XK.inN ?_ | refine XK.inE ?_ | refine XK.inR ?_ | refine XK.inF rfl ?_))
      exact XK.ret1 rfl rfl fun w1 st => ⟨by rw [firstE_at hz he1 h], st.below (by simp)⟩
    ·
      refine XK.skip ?_
      (repeat (first | refine XK.thenN ?_ | refine XK.thenE ?_ | refine XK.thenR ?_ | refine XK.inN ?_ | refine XK.inE ?_ | refine XK.inR ?_ | refine XK.inF rfl ?_))

      refine XK.region ?_
      refine xk_add rfl rfl (wrap_in (by omega)) (by decide) ?_
      refine xk_move rfl (by decide) ?_
      refine XK.nil ?_
      (repeat (first | refine XK.thenN ?_ | refine XK.thenE ?_ | refine XK.thenR ?_ | refine XK.inN ?_ | refine XK.inE ?_ | refine XK.inR ?_ | refine XK.inF rfl ?_))
      exact XK.weak [] rfl (by decide) (by simp) (XK.env [(10, .int .i64 (k + 1)), (9, .int .i64 n), (8, .slice (some ⟨b, off, none⟩) n c), (1, .func (.func id) #[] ca.toArray)] ⟨rfl, rfl, rfl, rfl, trivial⟩ (XK.round (n - (k + 1)) (by omega) ⟨k + 1, by omega, rfl, (zeros_snoc hz (by rw [he1, show e1 = 0 by omega])), rfl, rfl, rfl⟩))
  ·
    refine XK.exit ?_
    (repeat (first | refine XK.thenN ?_ | refine XK.thenE ?_ | refine XK.thenR ?_ | refine XK.inN ?_ | refine XK.inE ?_ | refine XK.inR ?_ | refine XK.inF rfl ?_))
    refine XK.seq ?_

    refine XK.region ?_
    refine xk_assign rfl (by decide) ?_
    refine XK.nil ?_
    (repeat (first | refine XK.thenN ?_ | refine XK.thenE ?_ | refine XK.thenR ?_ | refine XK.inN ?_ | refine XK.inE ?_ | refine XK.inR ?_ | refine XK.inF rfl ?_))
    refine XK.ret ?_
    (repeat (first | refine XK.thenN ?_ | refine XK.thenE ?_ | refine XK.thenR ?_ | refine XK.inN ?_ | refine XK.inE ?_ | refine XK.inR ?_ | refine XK.inF rfl ?_))
    exact XK.ret1 rfl rfl fun w1 st => ⟨by rw [firstE_none (fun j hj => hz j (by omega))], st.below (by simp)⟩

theorem each_dev (A : Option Addr) (n c : Nat) (id : FuncId) (ca : List Value) (rows : List (List Value)) (es : List Int) (w : World) (hs : SlS (all w) 6 A n rows.flatten) (hr : ∀ r ∈ rows, r.length = 6) (hone : ∀ r ∈ rows, ∀ u ∈ r, u.oneCell' = true) (hn : rows.length = n) (hl : es.length = n) (hn2 : (n : Int) ≤ 9223372036854775806) (hc : callB Try.prog id = true)
    (hf : ∀ (i : Nat) (r : List Value) (e : Int), rows[i]? = some r → es[i]? = some e → ∀ w', Below w.heap.size w w' → Calls Try.prog id ([Value.agg r.toArray] ++ ca).toArray w' (Rt (.int .i64 e) w')) :
    Calls Try.prog 83 #[.slice A n c, .func (.func id) #[] ca.toArray] w (Rt (.int .i64 (firstE es)) w) := by
  refine XK.enter (vs := [.slice A n c, .func (.func id) #[] ca.toArray]) Try.func83 rfl Try.ntmps83 (by simp) ?_
  refine XK.seq ?_

  refine XK.region ?_
  refine xk_assign rfl (by decide) ?_
  refine XK.nil ?_
  (repeat (first | refine XK.thenN ?_ | refine XK.thenE ?_ | refine XK.thenR ?_ | refine XK.inN ?_ | refine XK.inE ?_ | refine XK.inR ?_ | refine XK.inF rfl ?_))
  refine XK.seq ?_
  refine XK.seq ?_

  refine XK.region ?_
  refine xk_move rfl (by decide) ?_
  refine xk_len (el := 83) (by kernel_rfl) rfl (by decide) ?_
  refine xk_move rfl (by decide) ?_
  refine XK.nil ?_
  (repeat (first | refine XK.thenN ?_ | refine XK.thenE ?_ | refine XK.thenR ?_ | refine XK.inN ?_ | refine XK.inE ?_ | refine XK.inR ?_ | refine XK.inF rfl ?_))
  refine XK.env [(10, .int .i64 0), (9, .int .i64 n), (8, .slice A n c), (1, .func (.func id) #[] ca.toArray)] ⟨rfl, rfl, rfl, rfl, trivial⟩ ?_
  refine XK.block ?_
  refine XK.loop (fun m e R H => ∃ k : Nat, k ≤ n ∧ m = n - k ∧ (∀ j, j < k → es[j]? = some 0) ∧ e = [(10, .int .i64 k), (9, .int .i64 n), (8, .slice A n c), (1, .func (.func id) #[] ca.toArray)] ∧ R = [all w] ∧ H = []) n ⟨0, by omega, rfl, fun j hj => absurd hj (by omega), rfl, rfl, rfl⟩ fun m e R H hI => ?_
  obtain ⟨k, hk, rfl, hz, rfl, rfl, rfl⟩ := hI
  refine XK.seq ?_

  refine XK.region ?_
  refine xk_lss rfl rfl (by decide) ?_
  refine XK.nil ?_
  (repeat (first | refine XK.thenN ?_ | refine XK.thenE ?_ | refine XK.thenR ?_ | refine XK.inN ?_ | refine XK.inE ?_ | refine XK.inR ?_ | refine XK.inF rfl ?_))
  refine XK.seq ?_
  refine XK.if_ rfl (fun h => ?_) (fun h => ?_)
  ·
    refine XK.skip ?_
    (repeat (first | refine XK.thenN ?_ | refine XK.thenE ?_ | refine XK.thenR ?_ | refine XK.inN ?_ | refine XK.inE ?_ | refine XK.inR ?_ | refine XK.inF rfl ?_))
    refine XK.seq ?_
    refine XK.block ?_
    refine XK.seq ?_
    have hkn : k < n := by omega
    obtain ⟨r, hr1⟩ : ∃ r, rows[k]? = some r := ⟨rows[k]'(by omega), List.getElem?_eq_getElem _⟩
    obtain ⟨e1, he1⟩ : ∃ e, es[k]? = some e := ⟨es[k]'(by omega), List.getElem?_eq_getElem _⟩
    obtain ⟨b, off, rfl, c1⟩ := hs.row hr hr1 hkn
    have hr2 := hr r (List.mem_of_getElem? hr1)

    refine XK.region ?_
    refine xk_at (k) (off + k * 6) (el := 83) (sz := 6) (by kernel_rfl) (by kernel_rfl) rfl rfl (by omega) (by omega) (by omega) (by decide) ?_
    refine xk_loadN 6 (by kernel_rfl) rfl (by first | assumption | exact RdN.whole 0 rfl | exact RdN.whole 1 rfl | exact RdN.whole 2 rfl | exact RdN.whole 3 rfl | exact RdN.whole 4 rfl | exact RdN.whole 5 rfl | exact RdN.whole 6 rfl | exact RdN.whole 7 rfl | exact RdN.whole 8 rfl | exact RdN.roc (by simp) (by assumption)) hr2 (by decide) ?_
    refine xk_alloc (cs := [.int .i64 0, .int .i64 0, .int .i64 0, .int .u32 0, .slice none 0 0, .slice none 0 0]) (zeroB_of (by kernel_rfl)) (by decide) fun g1 => ?_
    refine xk_storeN 0 rfl rfl rfl (by rw [show (Value.agg r.toArray).cells.size = 6 by simp [Value.cells, hr2]]; kernel_rfl) (hone r (List.mem_of_getElem? hr1)) (by simp [Value.cells, hr2]) ?_
    rw [putN_all (by simp [Value.cells, hr2])]
    dsimp only [List.set, Value.cells]
    refine XK.nil ?_
    (repeat (first | refine XK.thenN ?_ | refine XK.thenE ?_ | refine XK.thenR ?_ | refine XK.inN ?_ | refine XK.inE ?_ | refine XK.inR ?_ | refine XK.inF rfl ?_))
    refine XK.seq ?_

    refine XK.region ?_
    refine xk_move rfl (by decide) ?_
    refine xk_loadN 6 (by kernel_rfl) rfl (by first | assumption | exact RdN.whole 0 rfl | exact RdN.whole 1 rfl | exact RdN.whole 2 rfl | exact RdN.whole 3 rfl | exact RdN.whole 4 rfl | exact RdN.whole 5 rfl | exact RdN.whole 6 rfl | exact RdN.whole 7 rfl | exact RdN.whole 8 rfl | exact RdN.roc (by simp) (by assumption)) hr2 (by decide) ?_
    refine xk_callR (f := id) (fi := []) (ca := ca) hc rfl rfl (by decide) (fun w1 st => by have := hf k r e1 hr1 he1 w1 (st.started (by simp)); simpa using this) ?_
    refine xk_assign rfl (by decide) ?_
    refine XK.nil ?_
    (repeat (first | refine XK.thenN ?_ | refine XK.thenE ?_ | refine XK.thenR ?_ | refine XK.inN ?_ | refine XK.inE ?_ | refine XK.inR ?_ | refine XK.inF rfl ?_))
    refine XK.seq ?_

    refine XK.region ?_
    refine xk_move rfl (by decide) ?_
    refine xk_neq rfl rfl (by decide) ?_
    refine XK.nil ?_
    (repeat (first | refine XK.thenN ?_ | refine XK.thenE ?_ | refine XK.thenR ?_ | refine XK.inN ?_ | refine XK.inE ?_ | refine XK.inR ?_ | refine XK.inF rfl ?_))
    refine XK.if_ rfl (fun h => ?_) (fun h => ?_)
    ·
      refine XK.seq ?_

      refine XK.region ?_
      refine xk_move rfl (by decide) ?_
      refine xk_assign rfl (by decide) ?_
      refine XK.nil ?_
      (repeat (first | refine XK.thenN ?_ | refine XK.thenE ?_ | refine XK.thenR ?_ | refine XK.inN ?_ | refine XK.inE ?_ | refine XK.inR ?_ | refine XK.inF rfl ?_))
      refine XK.ret ?_
      (repeat (first | refine XK.thenN ?_ | refine XK.thenE ?_ | refine XK.thenR ?_ | refine XK.inN ?_ | refine XK.inE ?_ | refine XK.inR ?_ | refine XK.inF rfl ?_))
      exact XK.ret1 rfl rfl fun w1 st => ⟨by rw [firstE_at hz he1 h], st.below (by simp)⟩
    ·
      refine XK.skip ?_
      (repeat (first | refine XK.thenN ?_ | refine XK.thenE ?_ | refine XK.thenR ?_ | refine XK.inN ?_ | refine XK.inE ?_ | refine XK.inR ?_ | refine XK.inF rfl ?_))

      refine XK.region ?_
      refine xk_add rfl rfl (wrap_in (by omega)) (by decide) ?_
      refine xk_move rfl (by decide) ?_
      refine XK.nil ?_
      (repeat (first | refine XK.thenN ?_ | refine XK.thenE ?_ | refine XK.thenR ?_ | refine XK.inN ?_ | refine XK.inE ?_ | refine XK.inR ?_ | refine XK.inF rfl ?_))
      exact XK.weak [] rfl (by decide) (by simp) (XK.env [(10, .int .i64 (k + 1)), (9, .int .i64 n), (8, .slice (some ⟨b, off, none⟩) n c), (1, .func (.func id) #[] ca.toArray)] ⟨rfl, rfl, rfl, rfl, trivial⟩ (XK.round (n - (k + 1)) (by omega) ⟨k + 1, by omega, rfl, (zeros_snoc hz (by rw [he1, show e1 = 0 by omega])), rfl, rfl, rfl⟩))
  ·
    refine XK.exit ?_
    (repeat (first | refine XK.thenN ?_ | refine XK.thenE ?_ | refine XK.thenR ?_ | refine XK.inN ?_ | refine XK.inE ?_ | refine XK.inR ?_ | refine XK.inF rfl ?_))
    refine XK.seq ?_

    refine XK.region ?_
    refine xk_assign rfl (by decide) ?_
    refine XK.nil ?_
    (repeat (first | refine XK.thenN ?_ | refine XK.thenE ?_ | refine XK.thenR ?_ | refine XK.inN ?_ | refine XK.inE ?_ | refine XK.inR ?_ | refine XK.inF rfl ?_))
    refine XK.ret ?_
    (repeat (first | refine XK.thenN ?_ | refine XK.thenE ?_ | refine XK.thenR ?_ | refine XK.inN ?_ | refine XK.inE ?_ | refine XK.inR ?_ | refine XK.inF rfl ?_))
    exact XK.ret1 rfl rfl fun w1 st => ⟨by rw [firstE_none (fun j hj => hz j (by omega))], st.below (by simp)⟩

end Go.Proofs.Ytbgibbbggajgaaa
