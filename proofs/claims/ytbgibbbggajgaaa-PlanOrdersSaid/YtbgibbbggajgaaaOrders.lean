/- PlanOrders: what is switched on comes ahead of what is switched off, and what hangs on what, behind it. -/
import Derived.Test.YtbgibbbggajgaaaOrdersP
namespace Go.Proofs.Ytbgibbbggajgaaa
set_option linter.all false
open Go.RowKit
theorem someW_len (s : Soc) (raw : Int) : (someW s.clocks.length s.domains.length s.resets.length raw).d.length = s.domains.length ∧ (someW s.clocks.length s.domains.length s.resets.length raw).c.length = s.clocks.length ∧ (someW s.clocks.length s.domains.length s.resets.length raw).l.length = s.resets.length := by simp [someW, bitsL_len]

theorem has3_any (A : Option Addr) (n c : Nat) (l : List Int) (v : Int) (w : World) (hs : SlS (all w) 1 A n (intCells l)) (hn : n = l.length) (hn2 : n ≤ 1000000) :
    Calls Try.prog 21 #[.slice A n c, .int .i64 v] w (Rt (.bool (l.contains v)) w) := by
  refine XK.enter (vs := [.slice A n c, .int .i64 v]) Try.func21 rfl Try.ntmps21 (by simp) ?_
  refine XK.seq ?_

  refine XK.region ?_
  refine xk_assign rfl (by decide) ?_
  refine XK.nil ?_
  (repeat (first | refine XK.thenN ?_ | refine XK.thenE ?_ | refine XK.thenR ?_ | refine XK.inN ?_ | refine XK.inE ?_ | refine XK.inR ?_ | refine XK.inF rfl ?_))
  refine XK.seq ?_
  refine XK.seq ?_

  refine XK.region ?_
  refine xk_assign rfl (by decide) ?_
  refine XK.nil ?_
  (repeat (first | refine XK.thenN ?_ | refine XK.thenE ?_ | refine XK.thenR ?_ | refine XK.inN ?_ | refine XK.inE ?_ | refine XK.inR ?_ | refine XK.inF rfl ?_))
  refine XK.env [(5, .int .i64 0), (1, .int .i64 v), (0, .slice A n c)] ⟨rfl, rfl, rfl, trivial⟩ ?_
  refine XK.block ?_
  refine XK.loop (fun m e R H => ∃ k : Nat, k ≤ n ∧ m = n - k ∧ (∀ i, i < k → ∀ u, l[i]? = some u → ¬ u = v) ∧ e = [(5, .int .i64 k), (1, .int .i64 v), (0, .slice A n c)] ∧ R = [all w] ∧ H = []) n ⟨0, by omega, rfl, (fun i h => absurd h (by omega)), rfl, rfl, rfl⟩ fun m e R H hI => ?_
  obtain ⟨k, hk, rfl, hin, rfl, rfl, rfl⟩ := hI
  refine XK.seq ?_
  refine XK.seq ?_

  refine XK.region ?_
  refine xk_move rfl (by decide) ?_
  refine xk_move rfl (by decide) ?_
  refine xk_len (el := 3) (by kernel_rfl) rfl (by decide) ?_
  refine xk_lss rfl rfl (by decide) ?_
  refine XK.nil ?_
  (repeat (first | refine XK.thenN ?_ | refine XK.thenE ?_ | refine XK.thenR ?_ | refine XK.inN ?_ | refine XK.inE ?_ | refine XK.inR ?_ | refine XK.inF rfl ?_))
  refine XK.if_ rfl (fun h => ?_) (fun h => ?_)
  ·
    refine XK.skip ?_
    (repeat (first | refine XK.thenN ?_ | refine XK.thenE ?_ | refine XK.thenR ?_ | refine XK.inN ?_ | refine XK.inE ?_ | refine XK.inR ?_ | refine XK.inF rfl ?_))
    refine XK.seq ?_
    refine XK.block ?_
    refine XK.seq ?_
    have hkn : k < n := by omega
    obtain ⟨u, hu⟩ : ∃ u, l[k]? = some u := ⟨_, List.getElem?_eq_getElem (by omega)⟩
    obtain ⟨b, off, rfl, hz, hc⟩ := hs.2 (by omega)
    have r1 : ROc w b (off + k) (.int .i64 u) := ⟨hz, hc k _ (by simp [intCells, hu])⟩

    refine XK.region ?_
    refine xk_move rfl (by decide) ?_
    refine xk_move rfl (by decide) ?_
    refine xk_at (k) (off + k) (el := 3) (sz := 1) (by kernel_rfl) (by kernel_rfl) rfl rfl (by omega) (by omega) (by omega) (by decide) ?_
    refine xk_load (by kernel_rfl) rfl (by first | assumption | exact Rd.blk 0 rfl rfl | exact Rd.blk 1 rfl rfl | exact Rd.blk 2 rfl rfl | exact Rd.blk 3 rfl rfl | exact Rd.blk 4 rfl rfl | exact Rd.blk 5 rfl rfl | exact Rd.blk 6 rfl rfl | exact Rd.blk 7 rfl rfl | exact Rd.blk 8 rfl rfl | exact Rd.roc (by simp) (by assumption) | (apply Rd.rocN (by simp); assumption; rfl)) (by decide) ?_
    refine xk_move rfl (by decide) ?_
    refine xk_eql rfl rfl (by decide) ?_
    refine XK.nil ?_
    (repeat (first | refine XK.thenN ?_ | refine XK.thenE ?_ | refine XK.thenR ?_ | refine XK.inN ?_ | refine XK.inE ?_ | refine XK.inR ?_ | refine XK.inF rfl ?_))
    refine XK.if_ rfl (fun h => ?_) (fun h => ?_)
    ·
      refine XK.seq ?_

      refine XK.region ?_
      refine xk_assign rfl (by decide) ?_
      refine XK.nil ?_
      (repeat (first | refine XK.thenN ?_ | refine XK.thenE ?_ | refine XK.thenR ?_ | refine XK.inN ?_ | refine XK.inE ?_ | refine XK.inR ?_ | refine XK.inF rfl ?_))
      refine XK.ret ?_
      (repeat (first | refine XK.thenN ?_ | refine XK.thenE ?_ | refine XK.thenR ?_ | refine XK.inN ?_ | refine XK.inE ?_ | refine XK.inR ?_ | refine XK.inF rfl ?_))
      exact XK.ret1 rfl rfl fun w1 st => ⟨by rw [show l.contains v = true by simpa using (show u = v from h) ▸ List.mem_of_getElem? hu], st.below (by simp)⟩
    ·
      refine XK.skip ?_
      (repeat (first | refine XK.thenN ?_ | refine XK.thenE ?_ | refine XK.thenR ?_ | refine XK.inN ?_ | refine XK.inE ?_ | refine XK.inR ?_ | refine XK.inF rfl ?_))

      refine XK.region ?_
      refine xk_move rfl (by decide) ?_
      refine xk_add rfl rfl (wrap_in (by omega)) (by decide) ?_
      refine xk_assign rfl (by decide) ?_
      refine XK.nil ?_
      (repeat (first | refine XK.thenN ?_ | refine XK.thenE ?_ | refine XK.thenR ?_ | refine XK.inN ?_ | refine XK.inE ?_ | refine XK.inR ?_ | refine XK.inF rfl ?_))
      exact XK.env [(5, .int .i64 ((k : Int) + 1)), (1, .int .i64 v), (0, .slice (some ⟨b, off, none⟩) n c)] ⟨rfl, rfl, rfl, trivial⟩ (XK.round (n - (k + 1)) (by omega) ⟨k + 1, by omega, rfl, all_snoc hin (fun x hx => by rw [hu] at hx; cases hx; exact h), rfl, rfl, rfl⟩)
  ·
    refine XK.exit ?_
    (repeat (first | refine XK.thenN ?_ | refine XK.thenE ?_ | refine XK.thenR ?_ | refine XK.inN ?_ | refine XK.inE ?_ | refine XK.inR ?_ | refine XK.inF rfl ?_))
    refine XK.seq ?_

    refine XK.region ?_
    refine xk_assign rfl (by decide) ?_
    refine XK.nil ?_
    (repeat (first | refine XK.thenN ?_ | refine XK.thenE ?_ | refine XK.thenR ?_ | refine XK.inN ?_ | refine XK.inE ?_ | refine XK.inR ?_ | refine XK.inF rfl ?_))
    refine XK.ret ?_
    (repeat (first | refine XK.thenN ?_ | refine XK.thenE ?_ | refine XK.thenR ?_ | refine XK.inN ?_ | refine XK.inE ?_ | refine XK.inR ?_ | refine XK.inF rfl ?_))
    exact XK.ret1 rfl rfl fun w1 st => ⟨by
      rw [show l.contains v = false by
        cases hc : l.contains v with
        | false => rfl
        | true =>
          obtain ⟨i, hi⟩ := List.getElem?_of_mem (show v ∈ l by simpa using hc)
          exact absurd rfl (hin i (by have := (List.getElem?_eq_some_iff.1 hi).1; omega) v hi)], st.below (by simp)⟩

set_option maxHeartbeats 2000000 in
theorem planOrders_any (A : Option Addr) (n c : Nat) (zs : List Int) (ra rb : Int) (w : World) (h0 : SlS (all w) 1 A n (intCells zs)) (hz : I64s zs) (hn : n = zs.length) (hn2 : n ≤ 9223372036854775807) (hra : -9223372036854775808 ≤ ra ∧ ra ≤ 9223372036854775807) (hrb : -9223372036854775808 ≤ rb ∧ rb ≤ 9223372036854775807) :
    Calls Try.prog 5 #[.slice A n c, .int .i64 ra, .int .i64 rb] w (Rt (.bool true) w) := by
  refine XK.enter (vs := [.slice A n c, .int .i64 ra, .int .i64 rb]) Try.func5 rfl Try.ntmps5 (by simp) ?_
  refine XK.seq ?_

  refine XK.region ?_
  refine xk_assign rfl (by decide) ?_
  refine XK.nil ?_
  (repeat (first | refine XK.thenN ?_ | refine XK.thenE ?_ | refine XK.thenR ?_ | refine XK.inN ?_ | refine XK.inE ?_ | refine XK.inR ?_ | refine XK.inF rfl ?_))
  refine XK.seq ?_

  refine XK.region ?_
  refine xk_callR (f := 17) (fi := []) (ca := []) (by kernel_rfl) rfl rfl (by decide) (fun w1 st => shown17_any w1) ?_
  refine xk_assign rfl (by decide) ?_
  refine XK.nil ?_
  (repeat (first | refine XK.thenN ?_ | refine XK.thenE ?_ | refine XK.thenR ?_ | refine XK.inN ?_ | refine XK.inE ?_ | refine XK.inR ?_ | refine XK.inF rfl ?_))
  refine XK.seq ?_

  refine XK.region ?_
  refine xk_move rfl (by decide) ?_
  refine xk_call [] (f := 18) (fi := []) (ca := []) (by kernel_rfl) rfl rfl (by decide) (by simp) (fun v w w' => ∃ cs s, v = .agg cs ∧ SocR (slq (fresh w w')) s cs ∧ s.made) (fun w1 st => chip17_any A n c zs w1 (h0.le (st.le (by simp))) hz hn hn2) ?_
  rintro _ w1 q1 ⟨cs, s, rfl, hS, hm⟩ hf _ _
  obtain ⟨A1, n1, k1, A2, n2, k2, A3, n3, k3, A4, n4, k4, rfl, hSP⟩ := (hS.mono (slq_le hf)).P
  obtain ⟨rfl, rfl, rfl, rfl⟩ := hSP.len
  clear hf hS
  refine xk_alloc (cs := [.slice none 0 0, .slice none 0 0, .slice none 0 0, .slice none 0 0]) (zeroB_of (by kernel_rfl)) (by decide) fun g1 => ?_
  (first | (refine xk_storeN 0 rfl rfl rfl (by kernel_rfl) (by simp [Value.cells, Value.oneCell']) (by simp [Value.cells]) ?_) | (refine xk_storeN 1 rfl rfl rfl (by kernel_rfl) (by simp [Value.cells, Value.oneCell']) (by simp [Value.cells]) ?_) | (refine xk_storeN 2 rfl rfl rfl (by kernel_rfl) (by simp [Value.cells, Value.oneCell']) (by simp [Value.cells]) ?_) | (refine xk_storeN 3 rfl rfl rfl (by kernel_rfl) (by simp [Value.cells, Value.oneCell']) (by simp [Value.cells]) ?_) | (refine xk_storeN 4 rfl rfl rfl (by kernel_rfl) (by simp [Value.cells, Value.oneCell']) (by simp [Value.cells]) ?_) | (refine xk_storeN 5 rfl rfl rfl (by kernel_rfl) (by simp [Value.cells, Value.oneCell']) (by simp [Value.cells]) ?_) | (refine xk_storeN 6 rfl rfl rfl (by kernel_rfl) (by simp [Value.cells, Value.oneCell']) (by simp [Value.cells]) ?_) | (refine xk_storeN 7 rfl rfl rfl (by kernel_rfl) (by simp [Value.cells, Value.oneCell']) (by simp [Value.cells]) ?_) | (refine xk_storeN 8 rfl rfl rfl (by kernel_rfl) (by simp [Value.cells, Value.oneCell']) (by simp [Value.cells]) ?_)); simp only [putN, Value.cells, List.set, List.take, List.drop, List.nil_append, List.append_nil, List.length_cons, List.length_nil, List.cons_append, Nat.reduceAdd]
  refine XK.nil ?_
  (repeat (first | refine XK.thenN ?_ | refine XK.thenE ?_ | refine XK.thenR ?_ | refine XK.inN ?_ | refine XK.inE ?_ | refine XK.inR ?_ | refine XK.inF rfl ?_))
  refine XK.seq ?_
  refine XK.seq ?_

  refine XK.region ?_
  refine xk_move rfl (by decide) ?_
  (first | refine xk_notD rfl (by decide) ?_ | refine xk_not rfl (by decide) ?_)
  refine XK.nil ?_
  (repeat (first | refine XK.thenN ?_ | refine XK.thenE ?_ | refine XK.thenR ?_ | refine XK.inN ?_ | refine XK.inE ?_ | refine XK.inR ?_ | refine XK.inF rfl ?_))
  refine XK.cond rfl (fun h => by cases h) (fun h => ?_)

  ·
    refine XK.skip ?_
    (repeat (first | refine XK.thenN ?_ | refine XK.thenE ?_ | refine XK.thenR ?_ | refine XK.inN ?_ | refine XK.inE ?_ | refine XK.inR ?_ | refine XK.inF rfl ?_))
    refine XK.seq ?_

    refine XK.draw 7 (by kernel_rfl) (by kernel_rfl) ?_
    refine XA.do_ 0 rfl rfl rfl (by decide) (does_loadN 4 (by kernel_rfl) rfl (by first | assumption | exact RdN.whole 0 rfl | exact RdN.whole 1 rfl | exact RdN.whole 2 rfl | exact RdN.whole 3 rfl | exact RdN.whole 4 rfl | exact RdN.whole 5 rfl | exact RdN.whole 6 rfl | exact RdN.whole 7 rfl | exact RdN.whole 8 rfl | exact RdN.roc (by simp) (by assumption)) rfl) (by kernel_rfl) (fun _ _ _ h => h) (by first | exact fun _ h => h | exact fun _ h => h.tail | exact fun _ h => h.tailR | exact fun _ h => h.tail.tail | exact fun _ h => h.tailR.tail | exact fun _ h => h.tailR.tailR) ?_
    refine XA.do_ 1 rfl rfl rfl (by decide) (does_loadN 4 (by kernel_rfl) rfl (by first | assumption | exact RdN.whole 0 rfl | exact RdN.whole 1 rfl | exact RdN.whole 2 rfl | exact RdN.whole 3 rfl | exact RdN.whole 4 rfl | exact RdN.whole 5 rfl | exact RdN.whole 6 rfl | exact RdN.whole 7 rfl | exact RdN.whole 8 rfl | exact RdN.roc (by simp) (by assumption)) rfl) (by kernel_rfl) (fun _ _ _ h => h) (by first | exact fun _ h => h | exact fun _ h => h.tail | exact fun _ h => h.tailR | exact fun _ h => h.tail.tail | exact fun _ h => h.tailR.tail | exact fun _ h => h.tailR.tailR) ?_
    refine XA.do_ 2 rfl rfl rfl (by decide) (does_move rfl) (by kernel_rfl) (fun _ _ _ h => h) (by first | exact fun _ h => h | exact fun _ h => h.tail | exact fun _ h => h.tailR | exact fun _ h => h.tail.tail | exact fun _ h => h.tailR.tail | exact fun _ h => h.tailR.tailR) ?_
    refine XA.do_ 4 rfl rfl rfl (by decide) (does_loadN 4 (by kernel_rfl) rfl (by first | assumption | exact RdN.whole 0 rfl | exact RdN.whole 1 rfl | exact RdN.whole 2 rfl | exact RdN.whole 3 rfl | exact RdN.whole 4 rfl | exact RdN.whole 5 rfl | exact RdN.whole 6 rfl | exact RdN.whole 7 rfl | exact RdN.whole 8 rfl | exact RdN.roc (by simp) (by assumption)) rfl) (by kernel_rfl) (fun _ _ _ h => h) (by first | exact fun _ h => h | exact fun _ h => h.tail | exact fun _ h => h.tailR | exact fun _ h => h.tail.tail | exact fun _ h => h.tailR.tail | exact fun _ h => h.tailR.tailR) ?_
    refine XA.do_ 5 rfl rfl rfl (by decide) (does_move rfl) (by kernel_rfl) (fun _ _ _ h => h) (by first | exact fun _ h => h | exact fun _ h => h.tail | exact fun _ h => h.tailR | exact fun _ h => h.tail.tail | exact fun _ h => h.tailR.tail | exact fun _ h => h.tailR.tailR) ?_
    refine XA.next 3 rfl (by kernel_rfl) ?_
    refine xk_call [] (f := 20) (fi := []) (ca := []) (by kernel_rfl) rfl rfl (by decide) (by simp) (WishOk (someW s.clocks.length s.domains.length s.resets.length ra)) (fun w1 st => some17_any A1 A2 A3 A4 s.clocks.length k1 s.domains.length k2 s.resets.length k3 s.devs.length k4 ra w1 hra (by have := hm.nc; omega) (by have := hm.nd; omega) (by have := hm.nr; omega)) ?_
    rintro _ w1 q2 hx hf _ _
    have hx := WshR.le hx hf
    have hsmx := someW_sm hm ra
    have hlx := someW_len s ra
    generalize hgx : someW s.clocks.length s.domains.length s.resets.length ra = x at *
    obtain ⟨B1, mB1, B2, mB2, B3, mB3, rfl, e1, e2, e3⟩ := hx
    have hx : WshR q2 x _ := ⟨B1, mB1, B2, mB2, B3, mB3, rfl, e1, e2, e3⟩
    clear hf e1 e2 e3
    refine XK.nil ?_; refine XK.thenN ?_; refine XA.back (fun _ h => h.tailR) ?_
    refine XA.next 6 rfl (by kernel_rfl) ?_
    refine xk_call [] (f := 20) (fi := []) (ca := []) (by kernel_rfl) rfl rfl (by decide) (by simp) (WishOk (someW s.clocks.length s.domains.length s.resets.length rb)) (fun w1 st => some17_any A1 A2 A3 A4 s.clocks.length k1 s.domains.length k2 s.resets.length k3 s.devs.length k4 rb w1 hrb (by have := hm.nc; omega) (by have := hm.nd; omega) (by have := hm.nr; omega)) ?_
    rintro _ w1 q3 hy hf _ _
    have hy := WshR.le hy hf
    have hsmy := someW_sm hm rb
    have hly := someW_len s rb
    generalize hgy : someW s.clocks.length s.domains.length s.resets.length rb = y at *
    obtain ⟨C1, mC1, C2, mC2, C3, mC3, rfl, e1, e2, e3⟩ := hy
    have hy : WshR q3 y _ := ⟨C1, mC1, C2, mC2, C3, mC3, rfl, e1, e2, e3⟩
    clear hf e1 e2 e3
    refine XK.nil ?_; refine XK.thenN ?_; refine XA.back (fun _ h => h.tailR.tailR) ?_
    refine XA.next 7 rfl (by kernel_rfl) ?_
    refine xk_call [] (f := 19) (fi := []) (ca := []) (by kernel_rfl) rfl rfl (by decide) (by simp) (StepsR (allM s x y)) (fun w1 st => stepsM_any hSP hm (st.le (by simp)) hx (st.le (by simp)) hy (st.le (by simp))) ?_
    rintro _ w1 q4 ⟨AL, cL, rfl, hL⟩ hf _ _
    have hL := hL.le hf
    have hpair := allM_pairs hm x y
    have hok := allM_ok hm x y
    have hlen := allM_len hm x y
    clear hf
    generalize allM s x y = L at *
    refine XK.nil ?_; refine XK.thenN ?_; refine XA.backT rfl ?_
    refine XA.next 8 rfl (by kernel_rfl) ?_
    refine xk_assign rfl (by decide) ?_
    refine XK.nil ?_; refine XK.thenN ?_; refine XA.backT rfl ?_
    refine XA.done (by kernel_rfl) ?_
    (repeat (first | refine XK.thenN ?_ | refine XK.thenE ?_ | refine XK.thenR ?_ | refine XK.inN ?_ | refine XK.inE ?_ | refine XK.inR ?_ | refine XK.inF rfl ?_))
    refine XK.seq ?_

    refine XK.region ?_
    refine xk_assign rfl (by decide) ?_
    refine XK.nil ?_
    (repeat (first | refine XK.thenN ?_ | refine XK.thenE ?_ | refine XK.thenR ?_ | refine XK.inN ?_ | refine XK.inE ?_ | refine XK.inR ?_ | refine XK.inF rfl ?_))
    refine XK.seq ?_
    refine XK.seq ?_

    refine XK.region ?_
    refine xk_assign rfl (by decide) ?_
    refine XK.nil ?_
    (repeat (first | refine XK.thenN ?_ | refine XK.thenE ?_ | refine XK.thenR ?_ | refine XK.inN ?_ | refine XK.inE ?_ | refine XK.inR ?_ | refine XK.inF rfl ?_))
    refine XK.env [(11, .int .i64 0), (10, .bool false), (9, .slice AL L.length cL), (8, .pointer (some ⟨g1, 0, none⟩))] ⟨rfl, rfl, rfl, rfl, trivial⟩ ?_
    refine XK.block ?_
    refine XK.loop (fun m e R H => ∃ (i : Nat) (off : Bool), i ≤ L.length ∧ m = L.length - i ∧ (off = true → ∃ (k : Nat) (p : Stp), k < i ∧ L[k]? = some p ∧ ¬ ((¬ p.pr = 22 ∧ p.v = 1) ∨ (p.pr = 22 ∧ p.v = 0))) ∧ e = [(11, .int .i64 i), (10, .bool (decide (off = true))), (9, .slice AL L.length cL), (8, .pointer (some ⟨g1, 0, none⟩))] ∧ R = [q4, q3, q2, q1, all w] ∧ H = [HP.blk g1 50 [.slice A1 s.clocks.length k1, .slice A2 s.domains.length k2, .slice A3 s.resets.length k3, .slice A4 s.devs.length k4]]) L.length ⟨0, false, by omega, rfl, (fun h => by cases h), rfl, rfl, rfl⟩ fun m e R H hI => ?_
    obtain ⟨i, off, hi, rfl, hoff, rfl, rfl, rfl⟩ := hI
    refine XK.seq ?_
    refine XK.seq ?_

    refine XK.region ?_
    refine xk_move rfl (by decide) ?_
    refine xk_move rfl (by decide) ?_
    refine xk_len (el := 59) (by kernel_rfl) rfl (by decide) ?_
    refine xk_lss rfl rfl (by decide) ?_
    refine XK.nil ?_
    (repeat (first | refine XK.thenN ?_ | refine XK.thenE ?_ | refine XK.thenR ?_ | refine XK.inN ?_ | refine XK.inE ?_ | refine XK.inR ?_ | refine XK.inF rfl ?_))
    refine XK.if_ rfl (fun h => ?_) (fun h => ?_)
    ·
      refine XK.skip ?_
      (repeat (first | refine XK.thenN ?_ | refine XK.thenE ?_ | refine XK.thenR ?_ | refine XK.inN ?_ | refine XK.inE ?_ | refine XK.inR ?_ | refine XK.inF rfl ?_))
      refine XK.seq ?_
      have h' : (i : Int) < (L.length : Int) := h
      obtain ⟨pi, hpi⟩ : ∃ pi, L[i]? = some pi := ⟨_, List.getElem?_eq_getElem (by omega)⟩
      obtain ⟨bL, oL, rfl, hzL, hci⟩ := hL.step hpi
      have hoki := hok pi (List.mem_of_getElem? hpi)
      have hno : ((¬ pi.pr = 22 ∧ pi.v = 1) ∨ (pi.pr = 22 ∧ pi.v = 0)) → ¬ off = true := fun hu ho => by
        obtain ⟨k, p, hk, hp, hnu⟩ := hoff ho
        exact hnu ((pair_at hpair hp hpi hk).up hu)
      refine XK.block ?_
      refine XK.cutB 12 (((¬ pi.pr = 22 ∧ pi.v = 1) ∨ (pi.pr = 22 ∧ pi.v = 0))) ?_ ?_
      · skip

        refine XK.region ?_
        refine xk_move rfl (by decide) ?_
        refine xk_move rfl (by decide) ?_
        refine xk_at i (oL + i * 4) (el := 59) (sz := 4) (by kernel_rfl) (by kernel_rfl) rfl rfl (by omega) (by omega) (by omega) (by decide) ?_
        refine xk_field (off := 0) (by kernel_rfl) rfl (by decide) ?_
        refine xk_load (by kernel_rfl) rfl (Rd.ro (p := q4) (by simp) hzL (hci _ _ rfl)) (by decide) ?_
        refine xk_neq rfl rfl (by decide) ?_
        refine xk_move rfl (by decide) ?_
        refine xk_split (t := 41) rfl (fun hg => ?_) (fun hg => ?_)
        ·
          refine xk_guardT rfl rfl ?_; refine xk_move rfl (by decide) ?_
          refine xk_guardT rfl rfl ?_; refine xk_move rfl (by decide) ?_
          refine xk_guardT rfl rfl ?_; refine xk_at i (oL + i * 4) (el := 59) (sz := 4) (by kernel_rfl) (by kernel_rfl) rfl rfl (by omega) (by omega) (by omega) (by decide) ?_
          refine xk_guardT rfl rfl ?_; refine xk_field (off := 3) (by kernel_rfl) rfl (by decide) ?_
          refine xk_guardT rfl rfl ?_; refine xk_load (by kernel_rfl) rfl (Rd.ro (p := q4) (by simp) hzL (hci _ _ rfl)) (by decide) ?_
          refine xk_guardT rfl rfl ?_; refine xk_eql rfl rfl (by decide) ?_
          (first | refine xk_pickT rfl rfl (by decide) ?_ | refine xk_pickF rfl rfl (by decide) ?_)
          refine xk_move rfl (by decide) ?_
          refine xk_split (t := 49) rfl (fun hg => ?_) (fun hg => ?_)
          ·
            refine xk_guardF rfl rfl rfl (by decide) ?_
            refine xk_guardF rfl rfl rfl (by decide) ?_
            refine xk_guardF rfl rfl rfl (by decide) ?_
            refine xk_guardF rfl rfl rfl (by decide) ?_
            refine xk_guardF rfl rfl rfl (by decide) ?_
            refine xk_guardF rfl rfl rfl (by decide) ?_
            refine xk_guardF rfl rfl rfl (by decide) ?_
            refine xk_guardU rfl rfl (by decide) ?_
            refine xk_guardU rfl rfl (by decide) ?_
            refine xk_guardU rfl rfl (by decide) ?_
            refine xk_guardU rfl rfl (by decide) ?_
            refine xk_guardU rfl rfl (by decide) ?_
            refine xk_guardU rfl rfl (by decide) ?_
            refine xk_guardF rfl rfl rfl (by decide) ?_
            (first | refine xk_pickT rfl rfl (by decide) ?_ | refine xk_pickF rfl rfl (by decide) ?_)
            refine xk_assign rfl (by decide) ?_
            refine XK.nil ?_
            (repeat (first | refine XK.thenN ?_ | refine XK.thenE ?_ | refine XK.thenR ?_ | refine XK.inN ?_ | refine XK.inE ?_ | refine XK.inR ?_ | refine XK.inF rfl ?_))
            exact XK.meetB (by repeat (first | exact trivial | refine ⟨rfl, ?_⟩)) (by first | exact get_iff rfl (by first | omega | simp_all) | exact get_false rfl (by first | omega | simp_all) | exact get_true rfl (by first | omega | simp_all))
          ·
            refine xk_guardT rfl rfl ?_; refine xk_move rfl (by decide) ?_
            refine xk_guardT rfl rfl ?_; refine xk_move rfl (by decide) ?_
            refine xk_guardT rfl rfl ?_; refine xk_at i (oL + i * 4) (el := 59) (sz := 4) (by kernel_rfl) (by kernel_rfl) rfl rfl (by omega) (by omega) (by omega) (by decide) ?_
            refine xk_guardT rfl rfl ?_; refine xk_field (off := 0) (by kernel_rfl) rfl (by decide) ?_
            refine xk_guardT rfl rfl ?_; refine xk_load (by kernel_rfl) rfl (Rd.ro (p := q4) (by simp) hzL (hci _ _ rfl)) (by decide) ?_
            refine xk_guardT rfl rfl ?_; refine xk_eql rfl rfl (by decide) ?_
            refine xk_guardT rfl rfl ?_; refine xk_move rfl (by decide) ?_
            refine xk_split (t := 56) rfl (fun hg => ?_) (fun hg => ?_)
            ·
              refine xk_guardT rfl rfl ?_; refine xk_move rfl (by decide) ?_
              refine xk_guardT rfl rfl ?_; refine xk_move rfl (by decide) ?_
              refine xk_guardT rfl rfl ?_; refine xk_at i (oL + i * 4) (el := 59) (sz := 4) (by kernel_rfl) (by kernel_rfl) rfl rfl (by omega) (by omega) (by omega) (by decide) ?_
              refine xk_guardT rfl rfl ?_; refine xk_field (off := 3) (by kernel_rfl) rfl (by decide) ?_
              refine xk_guardT rfl rfl ?_; refine xk_load (by kernel_rfl) rfl (Rd.ro (p := q4) (by simp) hzL (hci _ _ rfl)) (by decide) ?_
              refine xk_guardT rfl rfl ?_; refine xk_eql rfl rfl (by decide) ?_
              refine xk_guardT rfl rfl ?_; (first | refine xk_pickT rfl rfl (by decide) ?_ | refine xk_pickF rfl rfl (by decide) ?_)
              (first | refine xk_pickT rfl rfl (by decide) ?_ | refine xk_pickF rfl rfl (by decide) ?_)
              refine xk_assign rfl (by decide) ?_
              refine XK.nil ?_
              (repeat (first | refine XK.thenN ?_ | refine XK.thenE ?_ | refine XK.thenR ?_ | refine XK.inN ?_ | refine XK.inE ?_ | refine XK.inR ?_ | refine XK.inF rfl ?_))
              exact XK.meetB (by repeat (first | exact trivial | refine ⟨rfl, ?_⟩)) (by first | exact get_iff rfl (by first | omega | simp_all) | exact get_false rfl (by first | omega | simp_all) | exact get_true rfl (by first | omega | simp_all))
            ·
              refine xk_guardF rfl rfl rfl (by decide) ?_
              refine xk_guardF rfl rfl rfl (by decide) ?_
              refine xk_guardF rfl rfl rfl (by decide) ?_
              refine xk_guardF rfl rfl rfl (by decide) ?_
              refine xk_guardF rfl rfl rfl (by decide) ?_
              refine xk_guardF rfl rfl rfl (by decide) ?_
              refine xk_guardT rfl rfl ?_; (first | refine xk_pickT rfl rfl (by decide) ?_ | refine xk_pickF rfl rfl (by decide) ?_)
              (first | refine xk_pickT rfl rfl (by decide) ?_ | refine xk_pickF rfl rfl (by decide) ?_)
              refine xk_assign rfl (by decide) ?_
              refine XK.nil ?_
              (repeat (first | refine XK.thenN ?_ | refine XK.thenE ?_ | refine XK.thenR ?_ | refine XK.inN ?_ | refine XK.inE ?_ | refine XK.inR ?_ | refine XK.inF rfl ?_))
              exact XK.meetB (by repeat (first | exact trivial | refine ⟨rfl, ?_⟩)) (by first | exact get_iff rfl (by first | omega | simp_all) | exact get_false rfl (by first | omega | simp_all) | exact get_true rfl (by first | omega | simp_all))
        ·
          refine xk_guardF rfl rfl rfl (by decide) ?_
          refine xk_guardF rfl rfl rfl (by decide) ?_
          refine xk_guardF rfl rfl rfl (by decide) ?_
          refine xk_guardF rfl rfl rfl (by decide) ?_
          refine xk_guardF rfl rfl rfl (by decide) ?_
          refine xk_guardF rfl rfl rfl (by decide) ?_
          (first | refine xk_pickT rfl rfl (by decide) ?_ | refine xk_pickF rfl rfl (by decide) ?_)
          refine xk_move rfl (by decide) ?_
          refine xk_guardT rfl rfl ?_; refine xk_move rfl (by decide) ?_
          refine xk_guardT rfl rfl ?_; refine xk_move rfl (by decide) ?_
          refine xk_guardT rfl rfl ?_; refine xk_at i (oL + i * 4) (el := 59) (sz := 4) (by kernel_rfl) (by kernel_rfl) rfl rfl (by omega) (by omega) (by omega) (by decide) ?_
          refine xk_guardT rfl rfl ?_; refine xk_field (off := 0) (by kernel_rfl) rfl (by decide) ?_
          refine xk_guardT rfl rfl ?_; refine xk_load (by kernel_rfl) rfl (Rd.ro (p := q4) (by simp) hzL (hci _ _ rfl)) (by decide) ?_
          refine xk_guardT rfl rfl ?_; refine xk_eql rfl rfl (by decide) ?_
          refine xk_guardT rfl rfl ?_; refine xk_move rfl (by decide) ?_
          refine xk_split (t := 56) rfl (fun hg => ?_) (fun hg => ?_)
          ·
            refine xk_guardT rfl rfl ?_; refine xk_move rfl (by decide) ?_
            refine xk_guardT rfl rfl ?_; refine xk_move rfl (by decide) ?_
            refine xk_guardT rfl rfl ?_; refine xk_at i (oL + i * 4) (el := 59) (sz := 4) (by kernel_rfl) (by kernel_rfl) rfl rfl (by omega) (by omega) (by omega) (by decide) ?_
            refine xk_guardT rfl rfl ?_; refine xk_field (off := 3) (by kernel_rfl) rfl (by decide) ?_
            refine xk_guardT rfl rfl ?_; refine xk_load (by kernel_rfl) rfl (Rd.ro (p := q4) (by simp) hzL (hci _ _ rfl)) (by decide) ?_
            refine xk_guardT rfl rfl ?_; refine xk_eql rfl rfl (by decide) ?_
            refine xk_guardT rfl rfl ?_; (first | refine xk_pickT rfl rfl (by decide) ?_ | refine xk_pickF rfl rfl (by decide) ?_)
            (first | refine xk_pickT rfl rfl (by decide) ?_ | refine xk_pickF rfl rfl (by decide) ?_)
            refine xk_assign rfl (by decide) ?_
            refine XK.nil ?_
            (repeat (first | refine XK.thenN ?_ | refine XK.thenE ?_ | refine XK.thenR ?_ | refine XK.inN ?_ | refine XK.inE ?_ | refine XK.inR ?_ | refine XK.inF rfl ?_))
            exact XK.meetB (by repeat (first | exact trivial | refine ⟨rfl, ?_⟩)) (by first | exact get_iff rfl (by first | omega | simp_all) | exact get_false rfl (by first | omega | simp_all) | exact get_true rfl (by first | omega | simp_all))
          ·
            refine xk_guardF rfl rfl rfl (by decide) ?_
            refine xk_guardF rfl rfl rfl (by decide) ?_
            refine xk_guardF rfl rfl rfl (by decide) ?_
            refine xk_guardF rfl rfl rfl (by decide) ?_
            refine xk_guardF rfl rfl rfl (by decide) ?_
            refine xk_guardF rfl rfl rfl (by decide) ?_
            refine xk_guardT rfl rfl ?_; (first | refine xk_pickT rfl rfl (by decide) ?_ | refine xk_pickF rfl rfl (by decide) ?_)
            (first | refine xk_pickT rfl rfl (by decide) ?_ | refine xk_pickF rfl rfl (by decide) ?_)
            refine xk_assign rfl (by decide) ?_
            refine XK.nil ?_
            (repeat (first | refine XK.thenN ?_ | refine XK.thenE ?_ | refine XK.thenR ?_ | refine XK.inN ?_ | refine XK.inE ?_ | refine XK.inR ?_ | refine XK.inF rfl ?_))
            exact XK.meetB (by repeat (first | exact trivial | refine ⟨rfl, ?_⟩)) (by first | exact get_iff rfl (by first | omega | simp_all) | exact get_false rfl (by first | omega | simp_all) | exact get_true rfl (by first | omega | simp_all))
      refine XK.seq ?_
      refine XK.cutB 68 (False) ?_ ?_
      · skip

        refine XK.region ?_
        refine xk_move rfl (by decide) ?_
        refine xk_move rfl (by decide) ?_
        refine xk_split (t := 66) rfl (fun hg => ?_) (fun hg => ?_)
        ·
          refine xk_guardT rfl rfl ?_; refine xk_move rfl (by decide) ?_
          (first | refine xk_pickT rfl rfl (by decide) ?_ | refine xk_pickF rfl rfl (by decide) ?_)
          refine XK.nil ?_
          (repeat (first | refine XK.thenN ?_ | refine XK.thenE ?_ | refine XK.thenR ?_ | refine XK.inN ?_ | refine XK.inE ?_ | refine XK.inR ?_ | refine XK.inF rfl ?_))
          exact XK.meetB (by repeat (first | exact trivial | refine ⟨rfl, ?_⟩)) (get_iff rfl ⟨fun ho => hno hg ho, fun h => h.elim⟩)
        ·
          refine xk_guardF rfl rfl rfl (by decide) ?_
          (first | refine xk_pickT rfl rfl (by decide) ?_ | refine xk_pickF rfl rfl (by decide) ?_)
          refine XK.nil ?_
          (repeat (first | refine XK.thenN ?_ | refine XK.thenE ?_ | refine XK.thenR ?_ | refine XK.inN ?_ | refine XK.inE ?_ | refine XK.inR ?_ | refine XK.inF rfl ?_))
          exact XK.meetB (by repeat (first | exact trivial | refine ⟨rfl, ?_⟩)) (by first | exact get_iff rfl (by first | omega | simp_all) | exact get_false rfl (by first | omega | simp_all) | exact get_true rfl (by first | omega | simp_all))
      refine XK.if_ rfl (fun h => h.elim) (fun h => ?_)

      ·
        refine XK.skip ?_
        (repeat (first | refine XK.thenN ?_ | refine XK.thenE ?_ | refine XK.thenR ?_ | refine XK.inN ?_ | refine XK.inE ?_ | refine XK.inR ?_ | refine XK.inF rfl ?_))
        refine XK.cut (fun e R H => e = [(10, .bool (decide (off = true ∨ ¬ ((¬ pi.pr = 22 ∧ pi.v = 1) ∨ (pi.pr = 22 ∧ pi.v = 0))))), (12, .bool (decide ((¬ pi.pr = 22 ∧ pi.v = 1) ∨ (pi.pr = 22 ∧ pi.v = 0)))), (11, .int .i64 i), (9, .slice (some ⟨bL, oL, none⟩) L.length cL), (8, .pointer (some ⟨g1, 0, none⟩))] ∧ R = [q4, q3, q2, q1, all w] ∧ H = [HP.blk g1 50 [.slice A1 s.clocks.length k1, .slice A2 s.domains.length k2, .slice A3 s.resets.length k3, .slice A4 s.devs.length k4]]) ?_ ?_
        ·

          refine XK.region ?_
          refine xk_move rfl (by decide) ?_
          refine xk_move rfl (by decide) ?_
          refine xk_split (t := 70) rfl (fun hg => ?_) (fun hg => ?_)
          ·
            refine xk_guardF rfl rfl rfl (by decide) ?_
            refine xk_guardF rfl rfl rfl (by decide) ?_
            (first | refine xk_pickT rfl rfl (by decide) ?_ | refine xk_pickF rfl rfl (by decide) ?_)
            refine xk_assign rfl (by decide) ?_
            refine XK.nil ?_
            (repeat (first | refine XK.thenN ?_ | refine XK.thenE ?_ | refine XK.thenR ?_ | refine XK.inN ?_ | refine XK.inE ?_ | refine XK.inR ?_ | refine XK.inF rfl ?_))
            exact XK.env [(10, .bool (decide (off = true ∨ ¬ ((¬ pi.pr = 22 ∧ pi.v = 1) ∨ (pi.pr = 22 ∧ pi.v = 0))))), (12, .bool (decide ((¬ pi.pr = 22 ∧ pi.v = 1) ∨ (pi.pr = 22 ∧ pi.v = 0)))), (11, .int .i64 i), (9, .slice (some ⟨bL, oL, none⟩) L.length cL), (8, .pointer (some ⟨g1, 0, none⟩))] ⟨get_true rfl (.inl hg), rfl, rfl, rfl, rfl, trivial⟩ (XK.meet ⟨rfl, rfl, rfl⟩)
          ·
            refine xk_guardT rfl rfl ?_; refine xk_move rfl (by decide) ?_
            refine xk_guardT rfl rfl ?_; (first | refine xk_notD rfl (by decide) ?_ | refine xk_not rfl (by decide) ?_)
            (first | refine xk_pickT rfl rfl (by decide) ?_ | refine xk_pickF rfl rfl (by decide) ?_)
            refine xk_assign rfl (by decide) ?_
            refine XK.nil ?_
            (repeat (first | refine XK.thenN ?_ | refine XK.thenE ?_ | refine XK.thenR ?_ | refine XK.inN ?_ | refine XK.inE ?_ | refine XK.inR ?_ | refine XK.inF rfl ?_))
            exact XK.env [(10, .bool (decide (off = true ∨ ¬ ((¬ pi.pr = 22 ∧ pi.v = 1) ∨ (pi.pr = 22 ∧ pi.v = 0))))), (12, .bool (decide ((¬ pi.pr = 22 ∧ pi.v = 1) ∨ (pi.pr = 22 ∧ pi.v = 0)))), (11, .int .i64 i), (9, .slice (some ⟨bL, oL, none⟩) L.length cL), (8, .pointer (some ⟨g1, 0, none⟩))] ⟨get_iff rfl ⟨fun h => .inr h, fun h => h.resolve_left hg⟩, rfl, rfl, rfl, rfl, trivial⟩ (XK.meet ⟨rfl, rfl, rfl⟩)
        rintro _ _ _ ⟨rfl, rfl, rfl⟩
        refine XK.seq ?_

        refine XK.region ?_
        refine xk_assign rfl (by decide) ?_
        refine XK.nil ?_
        (repeat (first | refine XK.thenN ?_ | refine XK.thenE ?_ | refine XK.thenR ?_ | refine XK.inN ?_ | refine XK.inE ?_ | refine XK.inR ?_ | refine XK.inF rfl ?_))
        refine XK.env [(13, .int .i64 0), (12, .bool (decide ((¬ pi.pr = 22 ∧ pi.v = 1) ∨ (pi.pr = 22 ∧ pi.v = 0)))), (11, .int .i64 i), (10, .bool (decide (off = true ∨ ¬ ((¬ pi.pr = 22 ∧ pi.v = 1) ∨ (pi.pr = 22 ∧ pi.v = 0))))), (9, .slice (some ⟨bL, oL, none⟩) L.length cL), (8, .pointer (some ⟨g1, 0, none⟩))] ⟨rfl, rfl, rfl, rfl, rfl, rfl, trivial⟩ ?_
        refine XK.block ?_
        refine XK.loop (fun m e R H => ∃ (j : Nat), j ≤ i ∧ m = i - j ∧ e = [(13, .int .i64 j), (12, .bool (decide ((¬ pi.pr = 22 ∧ pi.v = 1) ∨ (pi.pr = 22 ∧ pi.v = 0)))), (11, .int .i64 i), (10, .bool (decide (off = true ∨ ¬ ((¬ pi.pr = 22 ∧ pi.v = 1) ∨ (pi.pr = 22 ∧ pi.v = 0))))), (9, .slice (some ⟨bL, oL, none⟩) L.length cL), (8, .pointer (some ⟨g1, 0, none⟩))] ∧ R = [q4, q3, q2, q1, all w] ∧ H = [HP.blk g1 50 [.slice A1 s.clocks.length k1, .slice A2 s.domains.length k2, .slice A3 s.resets.length k3, .slice A4 s.devs.length k4]]) i ⟨0, by omega, rfl, rfl, rfl, rfl⟩ fun m e R H hI => ?_
        obtain ⟨j, hj, rfl, rfl, rfl, rfl⟩ := hI
        refine XK.seq ?_
        refine XK.seq ?_

        refine XK.region ?_
        refine xk_move rfl (by decide) ?_
        refine xk_move rfl (by decide) ?_
        refine xk_lss rfl rfl (by decide) ?_
        refine XK.nil ?_
        (repeat (first | refine XK.thenN ?_ | refine XK.thenE ?_ | refine XK.thenR ?_ | refine XK.inN ?_ | refine XK.inE ?_ | refine XK.inR ?_ | refine XK.inF rfl ?_))
        refine XK.if_ rfl (fun h => ?_) (fun h => ?_)
        ·
          refine XK.skip ?_
          (repeat (first | refine XK.thenN ?_ | refine XK.thenE ?_ | refine XK.thenR ?_ | refine XK.inN ?_ | refine XK.inE ?_ | refine XK.inR ?_ | refine XK.inF rfl ?_))
          refine XK.seq ?_
          have hji : (j : Int) < (i : Int) := h
          obtain ⟨pj, hpj⟩ : ∃ pj, L[j]? = some pj := ⟨_, List.getElem?_eq_getElem (by omega)⟩
          obtain ⟨bL', oL', eL, _, hcj⟩ := hL.step hpj
          cases eL
          have hokj := hok pj (List.mem_of_getElem? hpj)
          have hpo := pair_at hpair hpj hpi (by omega)
          have hidj : IntKind.i64.wrap pj.id = pj.id := wrap_in (by have := hokj.id; omega)
          have hidi : IntKind.i64.wrap pi.id = pi.id := wrap_in (by have := hoki.id; omega)
          refine XK.block ?_
          refine XK.seq ?_
          refine XK.cutB 104 (¬ pj.pr = pi.pr ∨ ¬ ((pj.v = 1) ↔ (pi.v = 1))) ?_ ?_
          · skip

            refine XK.draw 24 (by kernel_rfl) (by kernel_rfl) ?_
            refine XA.do_ 0 rfl rfl rfl (by decide) (does_move rfl) (by kernel_rfl) (fun _ _ _ h => h) (by first | exact fun _ h => h | exact fun _ h => h.tail | exact fun _ h => h.tailR | exact fun _ h => h.tail.tail | exact fun _ h => h.tailR.tail | exact fun _ h => h.tailR.tailR) ?_
            refine XA.do_ 1 rfl rfl rfl (by decide) (does_move rfl) (by kernel_rfl) (fun _ _ _ h => h) (by first | exact fun _ h => h | exact fun _ h => h.tail | exact fun _ h => h.tailR | exact fun _ h => h.tail.tail | exact fun _ h => h.tailR.tail | exact fun _ h => h.tailR.tailR) ?_
            refine XA.do_ 2 rfl rfl rfl (by decide) (does_at j (oL + j * 4) (el := 59) (sz := 4) (by kernel_rfl) (by kernel_rfl) rfl rfl (by omega) (by omega) (by omega)) (by kernel_rfl) (fun _ _ _ h => h) (by first | exact fun _ h => h | exact fun _ h => h.tail | exact fun _ h => h.tailR | exact fun _ h => h.tail.tail | exact fun _ h => h.tailR.tail | exact fun _ h => h.tailR.tailR) ?_
            refine XA.do_ 3 rfl rfl rfl (by decide) (does_field (off := 0) (by kernel_rfl) rfl) (by kernel_rfl) (fun _ _ _ h => h) (by first | exact fun _ h => h | exact fun _ h => h.tail | exact fun _ h => h.tailR | exact fun _ h => h.tail.tail | exact fun _ h => h.tailR.tail | exact fun _ h => h.tailR.tailR) ?_
            refine XA.do_ 4 rfl rfl rfl (by decide) (does_load (by kernel_rfl) rfl (Rd.ro (p := q4) (by simp) hzL (hcj _ _ rfl))) (by kernel_rfl) (fun _ _ _ h => h) (by first | exact fun _ h => h | exact fun _ h => h.tail | exact fun _ h => h.tailR | exact fun _ h => h.tail.tail | exact fun _ h => h.tailR.tail | exact fun _ h => h.tailR.tailR) ?_
            refine XA.do_ 5 rfl rfl rfl (by decide) (does_move rfl) (by kernel_rfl) (fun _ _ _ h => h) (by first | exact fun _ h => h | exact fun _ h => h.tail | exact fun _ h => h.tailR | exact fun _ h => h.tail.tail | exact fun _ h => h.tailR.tail | exact fun _ h => h.tailR.tailR) ?_
            refine XA.do_ 6 rfl rfl rfl (by decide) (does_move rfl) (by kernel_rfl) (fun _ _ _ h => h) (by first | exact fun _ h => h | exact fun _ h => h.tail | exact fun _ h => h.tailR | exact fun _ h => h.tail.tail | exact fun _ h => h.tailR.tail | exact fun _ h => h.tailR.tailR) ?_
            refine XA.do_ 7 rfl rfl rfl (by decide) (does_at i (oL + i * 4) (el := 59) (sz := 4) (by kernel_rfl) (by kernel_rfl) rfl rfl (by omega) (by omega) (by omega)) (by kernel_rfl) (fun _ _ _ h => h) (by first | exact fun _ h => h | exact fun _ h => h.tail | exact fun _ h => h.tailR | exact fun _ h => h.tail.tail | exact fun _ h => h.tailR.tail | exact fun _ h => h.tailR.tailR) ?_
            refine XA.do_ 8 rfl rfl rfl (by decide) (does_field (off := 0) (by kernel_rfl) rfl) (by kernel_rfl) (fun _ _ _ h => h) (by first | exact fun _ h => h | exact fun _ h => h.tail | exact fun _ h => h.tailR | exact fun _ h => h.tail.tail | exact fun _ h => h.tailR.tail | exact fun _ h => h.tailR.tailR) ?_
            refine XA.do_ 9 rfl rfl rfl (by decide) (does_load (by kernel_rfl) rfl (Rd.ro (p := q4) (by simp) hzL (hci _ _ rfl))) (by kernel_rfl) (fun _ _ _ h => h) (by first | exact fun _ h => h | exact fun _ h => h.tail | exact fun _ h => h.tailR | exact fun _ h => h.tail.tail | exact fun _ h => h.tailR.tail | exact fun _ h => h.tailR.tailR) ?_
            refine XA.do_ 10 rfl rfl rfl (by decide) (does_neq rfl rfl) (by kernel_rfl) (fun _ _ _ h => h) (by first | exact fun _ h => h | exact fun _ h => h.tail | exact fun _ h => h.tailR | exact fun _ h => h.tail.tail | exact fun _ h => h.tailR.tail | exact fun _ h => h.tailR.tailR) ?_
            refine XA.do_ 11 rfl rfl rfl (by decide) (does_move rfl) (by kernel_rfl) (fun _ _ _ h => h) (by first | exact fun _ h => h | exact fun _ h => h.tail | exact fun _ h => h.tailR | exact fun _ h => h.tail.tail | exact fun _ h => h.tailR.tail | exact fun _ h => h.tailR.tailR) ?_
            refine XA.split (t := 90) rfl (fun hg => ?_) (fun hg => ?_)
            ·
              refine XA.doF 12 rfl rfl rfl rfl (by decide) (by kernel_rfl) (fun _ _ _ h => h) (by first | exact fun _ h => h | exact fun _ h => h.tail | exact fun _ h => h.tailR | exact fun _ h => h.tail.tail | exact fun _ h => h.tailR.tail | exact fun _ h => h.tailR.tailR) ?_
              refine XA.doF 13 rfl rfl rfl rfl (by decide) (by kernel_rfl) (fun _ _ _ h => h) (by first | exact fun _ h => h | exact fun _ h => h.tail | exact fun _ h => h.tailR | exact fun _ h => h.tail.tail | exact fun _ h => h.tailR.tail | exact fun _ h => h.tailR.tailR) ?_
              refine XA.doF 14 rfl rfl rfl rfl (by decide) (by kernel_rfl) (fun _ _ _ h => h) (by first | exact fun _ h => h | exact fun _ h => h.tail | exact fun _ h => h.tailR | exact fun _ h => h.tail.tail | exact fun _ h => h.tailR.tail | exact fun _ h => h.tailR.tailR) ?_
              refine XA.doF 15 rfl rfl rfl rfl (by decide) (by kernel_rfl) (fun _ _ _ h => h) (by first | exact fun _ h => h | exact fun _ h => h.tail | exact fun _ h => h.tailR | exact fun _ h => h.tail.tail | exact fun _ h => h.tailR.tail | exact fun _ h => h.tailR.tailR) ?_
              refine XA.doF 16 rfl rfl rfl rfl (by decide) (by kernel_rfl) (fun _ _ _ h => h) (by first | exact fun _ h => h | exact fun _ h => h.tail | exact fun _ h => h.tailR | exact fun _ h => h.tail.tail | exact fun _ h => h.tailR.tail | exact fun _ h => h.tailR.tailR) ?_
              refine XA.doF 17 rfl rfl rfl rfl (by decide) (by kernel_rfl) (fun _ _ _ h => h) (by first | exact fun _ h => h | exact fun _ h => h.tail | exact fun _ h => h.tailR | exact fun _ h => h.tail.tail | exact fun _ h => h.tailR.tail | exact fun _ h => h.tailR.tailR) ?_
              refine XA.doF 18 rfl rfl rfl rfl (by decide) (by kernel_rfl) (fun _ _ _ h => h) (by first | exact fun _ h => h | exact fun _ h => h.tail | exact fun _ h => h.tailR | exact fun _ h => h.tail.tail | exact fun _ h => h.tailR.tail | exact fun _ h => h.tailR.tailR) ?_
              refine XA.doF 19 rfl rfl rfl rfl (by decide) (by kernel_rfl) (fun _ _ _ h => h) (by first | exact fun _ h => h | exact fun _ h => h.tail | exact fun _ h => h.tailR | exact fun _ h => h.tail.tail | exact fun _ h => h.tailR.tail | exact fun _ h => h.tailR.tailR) ?_
              refine XA.doF 20 rfl rfl rfl rfl (by decide) (by kernel_rfl) (fun _ _ _ h => h) (by first | exact fun _ h => h | exact fun _ h => h.tail | exact fun _ h => h.tailR | exact fun _ h => h.tail.tail | exact fun _ h => h.tailR.tail | exact fun _ h => h.tailR.tailR) ?_
              refine XA.doF 21 rfl rfl rfl rfl (by decide) (by kernel_rfl) (fun _ _ _ h => h) (by first | exact fun _ h => h | exact fun _ h => h.tail | exact fun _ h => h.tailR | exact fun _ h => h.tail.tail | exact fun _ h => h.tailR.tail | exact fun _ h => h.tailR.tailR) ?_
              refine XA.doF 22 rfl rfl rfl rfl (by decide) (by kernel_rfl) (fun _ _ _ h => h) (by first | exact fun _ h => h | exact fun _ h => h.tail | exact fun _ h => h.tailR | exact fun _ h => h.tail.tail | exact fun _ h => h.tailR.tail | exact fun _ h => h.tailR.tailR) ?_
              refine XA.doF 23 rfl rfl rfl rfl (by decide) (by kernel_rfl) (fun _ _ _ h => h) (by first | exact fun _ h => h | exact fun _ h => h.tail | exact fun _ h => h.tailR | exact fun _ h => h.tail.tail | exact fun _ h => h.tailR.tail | exact fun _ h => h.tailR.tailR) ?_
              refine XA.next 24 rfl (by kernel_rfl) ?_
              refine xk_guardF rfl rfl rfl (by decide) ?_
              refine XK.nil ?_; refine XK.thenN ?_; refine XA.backT rfl ?_
              refine XA.next 25 rfl (by kernel_rfl) ?_
              (first | refine xk_pickT rfl rfl (by decide) ?_ | refine xk_pickF rfl rfl (by decide) ?_)
              refine XK.nil ?_; refine XK.thenN ?_; refine XA.backT rfl ?_
              refine XA.done (by kernel_rfl) ?_
              (repeat (first | refine XK.thenN ?_ | refine XK.thenE ?_ | refine XK.thenR ?_ | refine XK.inN ?_ | refine XK.inE ?_ | refine XK.inR ?_ | refine XK.inF rfl ?_))
              exact XK.meetB (by repeat (first | exact trivial | refine ⟨rfl, ?_⟩)) (get_true rfl (.inl hg))
            ·
              refine XA.doT 12 rfl rfl rfl (by decide) (does_move rfl) (by kernel_rfl) (fun _ _ _ h => h) (by first | exact fun _ h => h | exact fun _ h => h.tail | exact fun _ h => h.tailR | exact fun _ h => h.tail.tail | exact fun _ h => h.tailR.tail | exact fun _ h => h.tailR.tailR) ?_
              refine XA.doT 13 rfl rfl rfl (by decide) (does_move rfl) (by kernel_rfl) (fun _ _ _ h => h) (by first | exact fun _ h => h | exact fun _ h => h.tail | exact fun _ h => h.tailR | exact fun _ h => h.tail.tail | exact fun _ h => h.tailR.tail | exact fun _ h => h.tailR.tailR) ?_
              refine XA.doT 14 rfl rfl rfl (by decide) (does_at j (oL + j * 4) (el := 59) (sz := 4) (by kernel_rfl) (by kernel_rfl) rfl rfl (by omega) (by omega) (by omega)) (by kernel_rfl) (fun _ _ _ h => h) (by first | exact fun _ h => h | exact fun _ h => h.tail | exact fun _ h => h.tailR | exact fun _ h => h.tail.tail | exact fun _ h => h.tailR.tail | exact fun _ h => h.tailR.tailR) ?_
              refine XA.doT 15 rfl rfl rfl (by decide) (does_field (off := 3) (by kernel_rfl) rfl) (by kernel_rfl) (fun _ _ _ h => h) (by first | exact fun _ h => h | exact fun _ h => h.tail | exact fun _ h => h.tailR | exact fun _ h => h.tail.tail | exact fun _ h => h.tailR.tail | exact fun _ h => h.tailR.tailR) ?_
              refine XA.doT 16 rfl rfl rfl (by decide) (does_load (by kernel_rfl) rfl (Rd.ro (p := q4) (by simp) hzL (hcj _ _ rfl))) (by kernel_rfl) (fun _ _ _ h => h) (by first | exact fun _ h => h | exact fun _ h => h.tail | exact fun _ h => h.tailR | exact fun _ h => h.tail.tail | exact fun _ h => h.tailR.tail | exact fun _ h => h.tailR.tailR) ?_
              refine XA.doT 17 rfl rfl rfl (by decide) (does_eql rfl rfl) (by kernel_rfl) (fun _ _ _ h => h) (by first | exact fun _ h => h | exact fun _ h => h.tail | exact fun _ h => h.tailR | exact fun _ h => h.tail.tail | exact fun _ h => h.tailR.tail | exact fun _ h => h.tailR.tailR) ?_
              refine XA.doT 18 rfl rfl rfl (by decide) (does_move rfl) (by kernel_rfl) (fun _ _ _ h => h) (by first | exact fun _ h => h | exact fun _ h => h.tail | exact fun _ h => h.tailR | exact fun _ h => h.tail.tail | exact fun _ h => h.tailR.tail | exact fun _ h => h.tailR.tailR) ?_
              refine XA.doT 19 rfl rfl rfl (by decide) (does_move rfl) (by kernel_rfl) (fun _ _ _ h => h) (by first | exact fun _ h => h | exact fun _ h => h.tail | exact fun _ h => h.tailR | exact fun _ h => h.tail.tail | exact fun _ h => h.tailR.tail | exact fun _ h => h.tailR.tailR) ?_
              refine XA.doT 20 rfl rfl rfl (by decide) (does_at i (oL + i * 4) (el := 59) (sz := 4) (by kernel_rfl) (by kernel_rfl) rfl rfl (by omega) (by omega) (by omega)) (by kernel_rfl) (fun _ _ _ h => h) (by first | exact fun _ h => h | exact fun _ h => h.tail | exact fun _ h => h.tailR | exact fun _ h => h.tail.tail | exact fun _ h => h.tailR.tail | exact fun _ h => h.tailR.tailR) ?_
              refine XA.doT 21 rfl rfl rfl (by decide) (does_field (off := 3) (by kernel_rfl) rfl) (by kernel_rfl) (fun _ _ _ h => h) (by first | exact fun _ h => h | exact fun _ h => h.tail | exact fun _ h => h.tailR | exact fun _ h => h.tail.tail | exact fun _ h => h.tailR.tail | exact fun _ h => h.tailR.tailR) ?_
              refine XA.doT 22 rfl rfl rfl (by decide) (does_load (by kernel_rfl) rfl (Rd.ro (p := q4) (by simp) hzL (hci _ _ rfl))) (by kernel_rfl) (fun _ _ _ h => h) (by first | exact fun _ h => h | exact fun _ h => h.tail | exact fun _ h => h.tailR | exact fun _ h => h.tail.tail | exact fun _ h => h.tailR.tail | exact fun _ h => h.tailR.tailR) ?_
              refine XA.doT 23 rfl rfl rfl (by decide) (does_eql rfl rfl) (by kernel_rfl) (fun _ _ _ h => h) (by first | exact fun _ h => h | exact fun _ h => h.tail | exact fun _ h => h.tailR | exact fun _ h => h.tail.tail | exact fun _ h => h.tailR.tail | exact fun _ h => h.tailR.tailR) ?_
              refine XA.next 24 rfl (by kernel_rfl) ?_
              refine xk_guardT rfl rfl ?_; refine xk_neqB (by kernel_rfl) rfl rfl (by decide) ?_
              refine XK.nil ?_; refine XK.thenN ?_; refine XA.backT rfl ?_
              refine XA.next 25 rfl (by kernel_rfl) ?_
              (first | refine xk_pickT rfl rfl (by decide) ?_ | refine xk_pickF rfl rfl (by decide) ?_)
              refine XK.nil ?_; refine XK.thenN ?_; refine XA.backT rfl ?_
              refine XA.done (by kernel_rfl) ?_
              (repeat (first | refine XK.thenN ?_ | refine XK.thenE ?_ | refine XK.thenR ?_ | refine XK.inN ?_ | refine XK.inE ?_ | refine XK.inR ?_ | refine XK.inF rfl ?_))
              exact XK.meetB (by repeat (first | exact trivial | refine ⟨rfl, ?_⟩)) (get_iff rfl ⟨fun h1 => .inr fun h2 => h1 (decide_eq_decide.2 h2), fun h1 h2 => by
                rcases h1 with h1 | h1
                · exact hg h1
                · exact h1 (decide_eq_decide.1 h2)⟩)
          refine XK.if_ rfl (fun h => ?_) (fun h => ?_)
          ·
            refine XK.exit ?_
            (repeat (first | refine XK.thenN ?_ | refine XK.thenE ?_ | refine XK.thenR ?_ | refine XK.inN ?_ | refine XK.inE ?_ | refine XK.inR ?_ | refine XK.inF rfl ?_))

            refine XK.region ?_
            refine xk_move rfl (by decide) ?_
            refine xk_add rfl rfl (wrap_in (by omega)) (by decide) ?_
            refine xk_assign rfl (by decide) ?_
            refine XK.nil ?_
            (repeat (first | refine XK.thenN ?_ | refine XK.thenE ?_ | refine XK.thenR ?_ | refine XK.inN ?_ | refine XK.inE ?_ | refine XK.inR ?_ | refine XK.inF rfl ?_))
            exact XK.env [(13, .int .i64 ((j : Int) + 1)), (12, .bool (decide ((¬ pi.pr = 22 ∧ pi.v = 1) ∨ (pi.pr = 22 ∧ pi.v = 0)))), (11, .int .i64 i), (10, .bool (decide (off = true ∨ ¬ ((¬ pi.pr = 22 ∧ pi.v = 1) ∨ (pi.pr = 22 ∧ pi.v = 0))))), (9, .slice (some ⟨bL, oL, none⟩) L.length cL), (8, .pointer (some ⟨g1, 0, none⟩))] ⟨rfl, rfl, rfl, rfl, rfl, rfl, trivial⟩ (XK.round (i - (j + 1)) (by omega) ⟨j + 1, by omega, rfl, rfl, rfl, rfl⟩)
          ·
            have heq : pj.pr = pi.pr := Classical.not_not.1 fun hn => h (.inl hn)
            have hv : (pj.v = 1) ↔ (pi.v = 1) := Classical.not_not.1 fun hn => h (.inr hn)
            refine XK.skip ?_
            (repeat (first | refine XK.thenN ?_ | refine XK.thenE ?_ | refine XK.thenR ?_ | refine XK.inN ?_ | refine XK.inE ?_ | refine XK.inR ?_ | refine XK.inF rfl ?_))
            refine XK.seq ?_

            refine XK.region ?_
            refine xk_move rfl (by decide) ?_
            refine xk_move rfl (by decide) ?_
            refine xk_at j (oL + j * 4) (el := 59) (sz := 4) (by kernel_rfl) (by kernel_rfl) rfl rfl (by omega) (by omega) (by omega) (by decide) ?_
            refine xk_field (off := 2) (by kernel_rfl) rfl (by decide) ?_
            refine xk_load (by kernel_rfl) rfl (Rd.ro (p := q4) (by simp) hzL (hcj _ _ rfl)) (by decide) ?_
            refine xk_conv (ds := .int .u32) (by kernel_rfl) (by kernel_rfl) rfl hidj (by decide) ?_
            refine xk_assign rfl (by decide) ?_
            refine XK.nil ?_
            (repeat (first | refine XK.thenN ?_ | refine XK.thenE ?_ | refine XK.thenR ?_ | refine XK.inN ?_ | refine XK.inE ?_ | refine XK.inR ?_ | refine XK.inF rfl ?_))
            refine XK.seq ?_

            refine XK.region ?_
            refine xk_move rfl (by decide) ?_
            refine xk_move rfl (by decide) ?_
            refine xk_at i (oL + i * 4) (el := 59) (sz := 4) (by kernel_rfl) (by kernel_rfl) rfl rfl (by omega) (by omega) (by omega) (by decide) ?_
            refine xk_field (off := 2) (by kernel_rfl) rfl (by decide) ?_
            refine xk_load (by kernel_rfl) rfl (Rd.ro (p := q4) (by simp) hzL (hci _ _ rfl)) (by decide) ?_
            refine xk_conv (ds := .int .u32) (by kernel_rfl) (by kernel_rfl) rfl hidi (by decide) ?_
            refine xk_assign rfl (by decide) ?_
            refine XK.nil ?_
            (repeat (first | refine XK.thenN ?_ | refine XK.thenE ?_ | refine XK.thenR ?_ | refine XK.inN ?_ | refine XK.inE ?_ | refine XK.inR ?_ | refine XK.inF rfl ?_))
            refine XK.cut (fun e R H => ∃ x y : Int, ((((¬ pi.pr = 22 ∧ pi.v = 1) ∨ (pi.pr = 22 ∧ pi.v = 0)) ∧ x = pj.id ∧ y = pi.id) ∨ (¬ ((¬ pi.pr = 22 ∧ pi.v = 1) ∨ (pi.pr = 22 ∧ pi.v = 0)) ∧ x = pi.id ∧ y = pj.id)) ∧ e = [(15, .int .i64 y), (14, .int .i64 x), (13, .int .i64 j), (12, .bool (decide ((¬ pi.pr = 22 ∧ pi.v = 1) ∨ (pi.pr = 22 ∧ pi.v = 0)))), (11, .int .i64 i), (10, .bool (decide (off = true ∨ ¬ ((¬ pi.pr = 22 ∧ pi.v = 1) ∨ (pi.pr = 22 ∧ pi.v = 0))))), (9, .slice (some ⟨bL, oL, none⟩) L.length cL), (8, .pointer (some ⟨g1, 0, none⟩))] ∧ R = [q4, q3, q2, q1, all w] ∧ H = [HP.blk g1 50 [.slice A1 s.clocks.length k1, .slice A2 s.domains.length k2, .slice A3 s.resets.length k3, .slice A4 s.devs.length k4]]) ?_ ?_
            ·
              refine XK.seq ?_

              refine XK.region ?_
              refine xk_move rfl (by decide) ?_
              (first | refine xk_notD rfl (by decide) ?_ | refine xk_not rfl (by decide) ?_)
              refine XK.nil ?_
              (repeat (first | refine XK.thenN ?_ | refine XK.thenE ?_ | refine XK.thenR ?_ | refine XK.inN ?_ | refine XK.inE ?_ | refine XK.inR ?_ | refine XK.inF rfl ?_))
              refine XK.if_ rfl (fun hu => ?_) (fun hu => ?_)
              ·
                refine XK.seq ?_

                refine XK.region ?_
                refine xk_move rfl (by decide) ?_
                refine xk_move rfl (by decide) ?_
                refine xk_at i (oL + i * 4) (el := 59) (sz := 4) (by kernel_rfl) (by kernel_rfl) rfl rfl (by omega) (by omega) (by omega) (by decide) ?_
                refine xk_field (off := 2) (by kernel_rfl) rfl (by decide) ?_
                refine xk_load (by kernel_rfl) rfl (Rd.ro (p := q4) (by simp) hzL (hci _ _ rfl)) (by decide) ?_
                refine xk_conv (ds := .int .u32) (by kernel_rfl) (by kernel_rfl) rfl hidi (by decide) ?_
                refine xk_assign rfl (by decide) ?_
                refine XK.nil ?_
                (repeat (first | refine XK.thenN ?_ | refine XK.thenE ?_ | refine XK.thenR ?_ | refine XK.inN ?_ | refine XK.inE ?_ | refine XK.inR ?_ | refine XK.inF rfl ?_))

                refine XK.region ?_
                refine xk_move rfl (by decide) ?_
                refine xk_move rfl (by decide) ?_
                refine xk_at j (oL + j * 4) (el := 59) (sz := 4) (by kernel_rfl) (by kernel_rfl) rfl rfl (by omega) (by omega) (by omega) (by decide) ?_
                refine xk_field (off := 2) (by kernel_rfl) rfl (by decide) ?_
                refine xk_load (by kernel_rfl) rfl (Rd.ro (p := q4) (by simp) hzL (hcj _ _ rfl)) (by decide) ?_
                refine xk_conv (ds := .int .u32) (by kernel_rfl) (by kernel_rfl) rfl hidj (by decide) ?_
                refine xk_assign rfl (by decide) ?_
                refine XK.nil ?_
                (repeat (first | refine XK.thenN ?_ | refine XK.thenE ?_ | refine XK.thenR ?_ | refine XK.inN ?_ | refine XK.inE ?_ | refine XK.inR ?_ | refine XK.inF rfl ?_))
                exact XK.env [(15, .int .i64 pj.id), (14, .int .i64 pi.id), (13, .int .i64 j), (12, .bool (decide ((¬ pi.pr = 22 ∧ pi.v = 1) ∨ (pi.pr = 22 ∧ pi.v = 0)))), (11, .int .i64 i), (10, .bool (decide (off = true ∨ ¬ ((¬ pi.pr = 22 ∧ pi.v = 1) ∨ (pi.pr = 22 ∧ pi.v = 0))))), (9, .slice (some ⟨bL, oL, none⟩) L.length cL), (8, .pointer (some ⟨g1, 0, none⟩))] ⟨rfl, rfl, rfl, rfl, rfl, rfl, rfl, rfl, trivial⟩ (XK.meet ⟨_, _, .inr ⟨hu, rfl, rfl⟩, rfl, rfl, rfl⟩)
              ·
                refine XK.skip ?_
                (repeat (first | refine XK.thenN ?_ | refine XK.thenE ?_ | refine XK.thenR ?_ | refine XK.inN ?_ | refine XK.inE ?_ | refine XK.inR ?_ | refine XK.inF rfl ?_))
                exact XK.env [(15, .int .i64 pi.id), (14, .int .i64 pj.id), (13, .int .i64 j), (12, .bool (decide ((¬ pi.pr = 22 ∧ pi.v = 1) ∨ (pi.pr = 22 ∧ pi.v = 0)))), (11, .int .i64 i), (10, .bool (decide (off = true ∨ ¬ ((¬ pi.pr = 22 ∧ pi.v = 1) ∨ (pi.pr = 22 ∧ pi.v = 0))))), (9, .slice (some ⟨bL, oL, none⟩) L.length cL), (8, .pointer (some ⟨g1, 0, none⟩))] ⟨rfl, rfl, rfl, rfl, rfl, rfl, rfl, rfl, trivial⟩ (XK.meet ⟨_, _, .inl ⟨Classical.not_not.1 hu, rfl, rfl⟩, rfl, rfl, rfl⟩)
            rintro _ _ _ ⟨x, y, hxy, rfl, rfl, rfl⟩
            refine XK.cutB 164 (False) ?_ ?_
            · skip

              refine XK.region ?_
              refine xk_move rfl (by decide) ?_
              refine xk_move rfl (by decide) ?_
              refine xk_at i (oL + i * 4) (el := 59) (sz := 4) (by kernel_rfl) (by kernel_rfl) rfl rfl (by omega) (by omega) (by omega) (by decide) ?_
              refine xk_field (off := 0) (by kernel_rfl) rfl (by decide) ?_
              refine xk_load (by kernel_rfl) rfl (Rd.ro (p := q4) (by simp) hzL (hci _ _ rfl)) (by decide) ?_
              refine xk_eql rfl rfl (by decide) ?_
              refine xk_move rfl (by decide) ?_
              refine xk_split (t := 137) rfl (fun h17 => ?_) (fun h17 => ?_)
              ·
                obtain ⟨k, dm, rfl, hdk, hne⟩ := hpo.dom heq hv h17 x y hxy
                obtain ⟨bD, oD, rD, rfl, hzD, _, rfl, hcD⟩ := hSP.dom.rowP hdk
                have hkl := (List.getElem?_eq_some_iff.1 hdk).1
                refine xk_guardT rfl rfl ?_; refine xk_field (off := 1) (by kernel_rfl) rfl (by decide) ?_
                refine xk_guardT rfl rfl ?_; refine xk_load (by kernel_rfl) rfl (by first | assumption | exact Rd.blk 0 rfl rfl | exact Rd.blk 1 rfl rfl | exact Rd.blk 2 rfl rfl | exact Rd.blk 3 rfl rfl | exact Rd.blk 4 rfl rfl | exact Rd.blk 5 rfl rfl | exact Rd.blk 6 rfl rfl | exact Rd.blk 7 rfl rfl | exact Rd.blk 8 rfl rfl | exact Rd.roc (by simp) (by assumption) | (apply Rd.rocN (by simp); assumption; rfl)) (by decide) ?_
                refine xk_guardT rfl rfl ?_; refine xk_move rfl (by decide) ?_
                refine xk_guardT rfl rfl ?_; refine xk_at (k) (oD + k * 3) (el := 61) (sz := 3) (by kernel_rfl) (by kernel_rfl) rfl rfl rfl (by omega) (by omega) (by decide) ?_
                refine xk_guardT rfl rfl ?_; refine xk_field (off := 0) (by kernel_rfl) rfl (by decide) ?_
                refine xk_guardT rfl rfl ?_; refine xk_load (by kernel_rfl) rfl (Rd.ro (p := q1) (by simp) hzD (hcD 0 _ rfl)) (by decide) ?_
                refine xk_guardT rfl rfl ?_; refine xk_move rfl (by decide) ?_
                refine xk_guardT rfl rfl ?_; refine xk_eql rfl rfl (by decide) ?_
                (first | refine xk_pickT rfl rfl (by decide) ?_ | refine xk_pickF rfl rfl (by decide) ?_)
                refine xk_move rfl (by decide) ?_
                refine xk_split (t := 147) rfl (fun hg => ?_) (fun hg => ?_)
                ·
                  exact absurd hg hne

                ·
                  refine xk_guardT rfl rfl ?_; refine xk_move rfl (by decide) ?_
                  refine xk_guardT rfl rfl ?_; refine xk_move rfl (by decide) ?_
                  refine xk_guardT rfl rfl ?_; refine xk_at i (oL + i * 4) (el := 59) (sz := 4) (by kernel_rfl) (by kernel_rfl) rfl rfl (by omega) (by omega) (by omega) (by decide) ?_
                  refine xk_guardT rfl rfl ?_; refine xk_field (off := 0) (by kernel_rfl) rfl (by decide) ?_
                  refine xk_guardT rfl rfl ?_; refine xk_load (by kernel_rfl) rfl (Rd.ro (p := q4) (by simp) hzL (hci _ _ rfl)) (by decide) ?_
                  refine xk_guardT rfl rfl ?_; refine xk_eql rfl rfl (by decide) ?_
                  refine xk_guardT rfl rfl ?_; refine xk_move rfl (by decide) ?_
                  refine xk_split (t := 154) rfl (fun hg => ?_) (fun hg => ?_)
                  ·
                    exfalso; omega

                  ·
                    refine xk_guardF rfl rfl rfl (by decide) ?_
                    refine xk_guardF rfl rfl rfl (by decide) ?_
                    refine xk_guardF rfl rfl rfl (by decide) ?_
                    refine xk_guardF rfl rfl rfl (by decide) ?_
                    refine xk_guardF rfl rfl rfl (by decide) ?_
                    refine xk_guardF rfl rfl rfl (by decide) ?_
                    refine xk_guardF rfl rfl rfl (by decide) ?_
                    refine xk_guardF rfl rfl rfl (by decide) ?_
                    refine xk_guardT rfl rfl ?_; (first | refine xk_pickT rfl rfl (by decide) ?_ | refine xk_pickF rfl rfl (by decide) ?_)
                    (first | refine xk_pickT rfl rfl (by decide) ?_ | refine xk_pickF rfl rfl (by decide) ?_)
                    refine XK.nil ?_
                    (repeat (first | refine XK.thenN ?_ | refine XK.thenE ?_ | refine XK.thenR ?_ | refine XK.inN ?_ | refine XK.inE ?_ | refine XK.inR ?_ | refine XK.inF rfl ?_))
                    exact XK.meetB (by repeat (first | exact trivial | refine ⟨rfl, ?_⟩)) (get_false rfl (fun h => h))
              ·
                refine xk_guardF rfl rfl rfl (by decide) ?_
                refine xk_guardF rfl rfl rfl (by decide) ?_
                refine xk_guardF rfl rfl rfl (by decide) ?_
                refine xk_guardF rfl rfl rfl (by decide) ?_
                refine xk_guardF rfl rfl rfl (by decide) ?_
                refine xk_guardF rfl rfl rfl (by decide) ?_
                refine xk_guardF rfl rfl rfl (by decide) ?_
                refine xk_guardF rfl rfl rfl (by decide) ?_
                (first | refine xk_pickT rfl rfl (by decide) ?_ | refine xk_pickF rfl rfl (by decide) ?_)
                refine xk_move rfl (by decide) ?_
                refine xk_guardT rfl rfl ?_; refine xk_move rfl (by decide) ?_
                refine xk_guardT rfl rfl ?_; refine xk_move rfl (by decide) ?_
                refine xk_guardT rfl rfl ?_; refine xk_at i (oL + i * 4) (el := 59) (sz := 4) (by kernel_rfl) (by kernel_rfl) rfl rfl (by omega) (by omega) (by omega) (by decide) ?_
                refine xk_guardT rfl rfl ?_; refine xk_field (off := 0) (by kernel_rfl) rfl (by decide) ?_
                refine xk_guardT rfl rfl ?_; refine xk_load (by kernel_rfl) rfl (Rd.ro (p := q4) (by simp) hzL (hci _ _ rfl)) (by decide) ?_
                refine xk_guardT rfl rfl ?_; refine xk_eql rfl rfl (by decide) ?_
                refine xk_guardT rfl rfl ?_; refine xk_move rfl (by decide) ?_
                refine xk_split (t := 154) rfl (fun hg => ?_) (fun hg => ?_)
                ·
                  obtain ⟨k, ck, rfl, hck, hne⟩ := hpo.clk heq hv hg x y hxy
                  obtain ⟨bC, oC, rC, rfl, hzC, _, hR, hcC⟩ := hSP.clk.rowP hck
                  obtain ⟨Asr, nsr, ksr, rfl, rfl, hsr⟩ := hR
                  have hkl := (List.getElem?_eq_some_iff.1 hck).1
                  have hcl : ck.src.length ≤ 1000000 := by have := (made_small hm).2.2.2.2.1 ck (List.mem_of_getElem? hck); omega
                  refine xk_guardT rfl rfl ?_; refine xk_field (off := 0) (by kernel_rfl) rfl (by decide) ?_
                  refine xk_guardT rfl rfl ?_; refine xk_load (by kernel_rfl) rfl (by first | assumption | exact Rd.blk 0 rfl rfl | exact Rd.blk 1 rfl rfl | exact Rd.blk 2 rfl rfl | exact Rd.blk 3 rfl rfl | exact Rd.blk 4 rfl rfl | exact Rd.blk 5 rfl rfl | exact Rd.blk 6 rfl rfl | exact Rd.blk 7 rfl rfl | exact Rd.blk 8 rfl rfl | exact Rd.roc (by simp) (by assumption) | (apply Rd.rocN (by simp); assumption; rfl)) (by decide) ?_
                  refine xk_guardT rfl rfl ?_; refine xk_move rfl (by decide) ?_
                  refine xk_guardT rfl rfl ?_; refine xk_at (k) (oC + k * 6) (el := 65) (sz := 6) (by kernel_rfl) (by kernel_rfl) rfl rfl rfl (by omega) (by omega) (by decide) ?_
                  refine xk_guardT rfl rfl ?_; refine xk_field (off := 1) (by kernel_rfl) rfl (by decide) ?_
                  refine xk_guardT rfl rfl ?_; refine xk_load (by kernel_rfl) rfl (Rd.ro (p := q1) (by simp) hzC (hcC 1 _ rfl)) (by decide) ?_
                  refine xk_guardT rfl rfl ?_; refine xk_move rfl (by decide) ?_
                  refine xk_guardT rfl rfl ?_; refine xk_callR (f := 21) (fi := []) (ca := []) (by kernel_rfl) rfl rfl (by decide) (fun w1 st => has3_any Asr _ ksr ck.src y w1 (SlS.le hsr (st.le (by simp))) rfl hcl) ?_
                  rw [hne]
                  refine xk_guardT rfl rfl ?_; (first | refine xk_pickT rfl rfl (by decide) ?_ | refine xk_pickF rfl rfl (by decide) ?_)
                  (first | refine xk_pickT rfl rfl (by decide) ?_ | refine xk_pickF rfl rfl (by decide) ?_)
                  refine XK.nil ?_
                  (repeat (first | refine XK.thenN ?_ | refine XK.thenE ?_ | refine XK.thenR ?_ | refine XK.inN ?_ | refine XK.inE ?_ | refine XK.inR ?_ | refine XK.inF rfl ?_))
                  exact XK.meetB (by repeat (first | exact trivial | refine ⟨rfl, ?_⟩)) (get_false rfl (fun h => h))
                ·
                  refine xk_guardF rfl rfl rfl (by decide) ?_
                  refine xk_guardF rfl rfl rfl (by decide) ?_
                  refine xk_guardF rfl rfl rfl (by decide) ?_
                  refine xk_guardF rfl rfl rfl (by decide) ?_
                  refine xk_guardF rfl rfl rfl (by decide) ?_
                  refine xk_guardF rfl rfl rfl (by decide) ?_
                  refine xk_guardF rfl rfl rfl (by decide) ?_
                  refine xk_guardF rfl rfl rfl (by decide) ?_
                  refine xk_guardT rfl rfl ?_; (first | refine xk_pickT rfl rfl (by decide) ?_ | refine xk_pickF rfl rfl (by decide) ?_)
                  (first | refine xk_pickT rfl rfl (by decide) ?_ | refine xk_pickF rfl rfl (by decide) ?_)
                  refine XK.nil ?_
                  (repeat (first | refine XK.thenN ?_ | refine XK.thenE ?_ | refine XK.thenR ?_ | refine XK.inN ?_ | refine XK.inE ?_ | refine XK.inR ?_ | refine XK.inF rfl ?_))
                  exact XK.meetB (by repeat (first | exact trivial | refine ⟨rfl, ?_⟩)) (get_false rfl (fun h => h))
            refine XK.if_ rfl (fun h => h.elim) (fun h => ?_)

            ·
              refine XK.skip ?_
              (repeat (first | refine XK.thenN ?_ | refine XK.thenE ?_ | refine XK.thenR ?_ | refine XK.inN ?_ | refine XK.inE ?_ | refine XK.inR ?_ | refine XK.inF rfl ?_))

              refine XK.region ?_
              refine xk_move rfl (by decide) ?_
              refine xk_add rfl rfl (wrap_in (by omega)) (by decide) ?_
              refine xk_assign rfl (by decide) ?_
              refine XK.nil ?_
              (repeat (first | refine XK.thenN ?_ | refine XK.thenE ?_ | refine XK.thenR ?_ | refine XK.inN ?_ | refine XK.inE ?_ | refine XK.inR ?_ | refine XK.inF rfl ?_))
              exact XK.env [(13, .int .i64 ((j : Int) + 1)), (12, .bool (decide ((¬ pi.pr = 22 ∧ pi.v = 1) ∨ (pi.pr = 22 ∧ pi.v = 0)))), (11, .int .i64 i), (10, .bool (decide (off = true ∨ ¬ ((¬ pi.pr = 22 ∧ pi.v = 1) ∨ (pi.pr = 22 ∧ pi.v = 0))))), (9, .slice (some ⟨bL, oL, none⟩) L.length cL), (8, .pointer (some ⟨g1, 0, none⟩))] ⟨rfl, rfl, rfl, rfl, rfl, rfl, trivial⟩ (XK.round (i - (j + 1)) (by omega) ⟨j + 1, by omega, rfl, rfl, rfl, rfl⟩)
        ·
          refine XK.exit ?_
          (repeat (first | refine XK.thenN ?_ | refine XK.thenE ?_ | refine XK.thenR ?_ | refine XK.inN ?_ | refine XK.inE ?_ | refine XK.inR ?_ | refine XK.inF rfl ?_))

          refine XK.region ?_
          refine xk_move rfl (by decide) ?_
          refine xk_add rfl rfl (wrap_in (by omega)) (by decide) ?_
          refine xk_assign rfl (by decide) ?_
          refine XK.nil ?_
          (repeat (first | refine XK.thenN ?_ | refine XK.thenE ?_ | refine XK.thenR ?_ | refine XK.inN ?_ | refine XK.inE ?_ | refine XK.inR ?_ | refine XK.inF rfl ?_))
          exact XK.env [(11, .int .i64 ((i : Int) + 1)), (10, .bool (decide (decide (off = true ∨ ¬ ((¬ pi.pr = 22 ∧ pi.v = 1) ∨ (pi.pr = 22 ∧ pi.v = 0))) = true))), (9, .slice (some ⟨bL, oL, none⟩) L.length cL), (8, .pointer (some ⟨g1, 0, none⟩))] ⟨rfl, get_iff rfl (by rw [decide_eq_true_iff]), rfl, rfl, trivial⟩ (XK.round (L.length - (i + 1)) (by omega) ⟨i + 1, decide (off = true ∨ ¬ ((¬ pi.pr = 22 ∧ pi.v = 1) ∨ (pi.pr = 22 ∧ pi.v = 0))), by omega, rfl, (fun ho => by
            rw [decide_eq_true_iff] at ho
            rcases ho with ho | ho
            · obtain ⟨k, p, h1, h2, h3⟩ := hoff ho
              exact ⟨k, p, by omega, h2, h3⟩
            · exact ⟨i, pi, by omega, hpi, ho⟩), rfl, rfl, rfl⟩)
    ·
      refine XK.exit ?_
      (repeat (first | refine XK.thenN ?_ | refine XK.thenE ?_ | refine XK.thenR ?_ | refine XK.inN ?_ | refine XK.inE ?_ | refine XK.inR ?_ | refine XK.inF rfl ?_))
      refine XK.seq ?_

      refine XK.region ?_
      refine xk_assign rfl (by decide) ?_
      refine XK.nil ?_
      (repeat (first | refine XK.thenN ?_ | refine XK.thenE ?_ | refine XK.thenR ?_ | refine XK.inN ?_ | refine XK.inE ?_ | refine XK.inR ?_ | refine XK.inF rfl ?_))
      refine XK.ret ?_
      (repeat (first | refine XK.thenN ?_ | refine XK.thenE ?_ | refine XK.thenR ?_ | refine XK.inN ?_ | refine XK.inE ?_ | refine XK.inR ?_ | refine XK.inF rfl ?_))
      exact XK.ret1 rfl rfl fun w1 st => ⟨rfl, st.below (by simp)⟩

end Go.Proofs.Ytbgibbbggajgaaa
