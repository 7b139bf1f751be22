/- PlanBack: the steps back are as many as those there, and lead back. -/
import Derived.Test.YtbgibbbggajgaaaBackP
namespace Go.Proofs.Ytbgibbbggajgaaa
set_option linter.all false
open Go.RowKit
theorem someW_len2 (s : Soc) (raw : Int) : (someW s.clocks.length s.domains.length s.resets.length raw).of s := ⟨by simp [someW, bitsL_len], by simp [someW, bitsL_len], by simp [someW, bitsL_len]⟩

set_option maxHeartbeats 2000000 in
theorem planBack_any (A : Option Addr) (n c : Nat) (zs : List Int) (ra rb : Int) (w : World) (h0 : SlS (all w) 1 A n (intCells zs)) (hz : I64s zs) (hn : n = zs.length) (hn2 : n ≤ 9223372036854775807) (hra : -9223372036854775808 ≤ ra ∧ ra ≤ 9223372036854775807) (hrb : -9223372036854775808 ≤ rb ∧ rb ≤ 9223372036854775807) :
    Calls Try.prog 7 #[.slice A n c, .int .i64 ra, .int .i64 rb] w (Rt (.bool true) w) := by
  refine XK.enter (vs := [.slice A n c, .int .i64 ra, .int .i64 rb]) Try.func7 rfl Try.ntmps7 (by simp) ?_
  refine XK.seq ?_

  refine XK.region ?_
  refine xk_assign rfl (by decide) ?_
  refine XK.nil ?_
  (repeat (first | refine XK.thenN ?_ | refine XK.thenE ?_ | refine XK.thenR ?_ | refine XK.inN ?_ | refine XK.inE ?_ | refine XK.inR ?_ | refine XK.inF rfl ?_))
  refine XK.seq ?_

  refine XK.region ?_
  refine xk_callR (f := 17) (fi := []) (ca := []) (by kernel_rfl) rfl rfl (by decide) (fun w1 st => shown17_any w1) ?_
  refine xk_assign rfl (by decide) ?_
  refine XK.nil ?_
  (repeat (first | refine XK.thenN ?_ | refine XK.thenE ?_ | refine XK.thenR ?_ | refine XK.inN ?_ | refine XK.inE ?_ | refine XK.inR ?_ | refine XK.inF rfl ?_))
  refine XK.seq ?_

  refine XK.region ?_
  refine xk_move rfl (by decide) ?_
  refine xk_call [] (f := 18) (fi := []) (ca := []) (by kernel_rfl) rfl rfl (by decide) (by simp) (fun v w w' => ∃ cs s, v = .agg cs ∧ SocR (slq (fresh w w')) s cs ∧ s.made) (fun w1 st => chip17_any A n c zs w1 (h0.le (st.le (by simp))) hz hn hn2) ?_
  rintro _ w1 q1 ⟨cs, s, rfl, hS, hm⟩ hf _ _
  obtain ⟨A1, n1, k1, A2, n2, k2, A3, n3, k3, A4, n4, k4, rfl, hSP⟩ := (hS.mono (slq_le hf)).P
  obtain ⟨rfl, rfl, rfl, rfl⟩ := hSP.len
  clear hf hS
  refine xk_alloc (cs := [.slice none 0 0, .slice none 0 0, .slice none 0 0, .slice none 0 0]) (zeroB_of (by kernel_rfl)) (by decide) fun g1 => ?_
  (first | (refine xk_storeN 0 rfl rfl rfl (by kernel_rfl) (by simp [Value.cells, Value.oneCell']) (by simp [Value.cells]) ?_) | (refine xk_storeN 1 rfl rfl rfl (by kernel_rfl) (by simp [Value.cells, Value.oneCell']) (by simp [Value.cells]) ?_) | (refine xk_storeN 2 rfl rfl rfl (by kernel_rfl) (by simp [Value.cells, Value.oneCell']) (by simp [Value.cells]) ?_) | (refine xk_storeN 3 rfl rfl rfl (by kernel_rfl) (by simp [Value.cells, Value.oneCell']) (by simp [Value.cells]) ?_) | (refine xk_storeN 4 rfl rfl rfl (by kernel_rfl) (by simp [Value.cells, Value.oneCell']) (by simp [Value.cells]) ?_) | (refine xk_storeN 5 rfl rfl rfl (by kernel_rfl) (by simp [Value.cells, Value.oneCell']) (by simp [Value.cells]) ?_) | (refine xk_storeN 6 rfl rfl rfl (by kernel_rfl) (by simp [Value.cells, Value.oneCell']) (by simp [Value.cells]) ?_) | (refine xk_storeN 7 rfl rfl rfl (by kernel_rfl) (by simp [Value.cells, Value.oneCell']) (by simp [Value.cells]) ?_) | (refine xk_storeN 8 rfl rfl rfl (by kernel_rfl) (by simp [Value.cells, Value.oneCell']) (by simp [Value.cells]) ?_)); simp only [putN, Value.cells, List.set, List.take, List.drop, List.nil_append, List.append_nil, List.length_cons, List.length_nil, List.cons_append, Nat.reduceAdd]
  refine XK.nil ?_
  (repeat (first | refine XK.thenN ?_ | refine XK.thenE ?_ | refine XK.thenR ?_ | refine XK.inN ?_ | refine XK.inE ?_ | refine XK.inR ?_ | refine XK.inF rfl ?_))
  refine XK.seq ?_
  refine XK.seq ?_

  refine XK.region ?_
  refine xk_move rfl (by decide) ?_
  (first | refine xk_notD rfl (by decide) ?_ | refine xk_not rfl (by decide) ?_)
  refine XK.nil ?_
  (repeat (first | refine XK.thenN ?_ | refine XK.thenE ?_ | refine XK.thenR ?_ | refine XK.inN ?_ | refine XK.inE ?_ | refine XK.inR ?_ | refine XK.inF rfl ?_))
  refine XK.cond rfl (fun h => by cases h) (fun h => ?_)

  ·
    refine XK.skip ?_
    (repeat (first | refine XK.thenN ?_ | refine XK.thenE ?_ | refine XK.thenR ?_ | refine XK.inN ?_ | refine XK.inE ?_ | refine XK.inR ?_ | refine XK.inF rfl ?_))
    refine XK.seq ?_

    refine XK.region ?_
    refine xk_loadN 4 (by kernel_rfl) rfl (by first | assumption | exact RdN.whole 0 rfl | exact RdN.whole 1 rfl | exact RdN.whole 2 rfl | exact RdN.whole 3 rfl | exact RdN.whole 4 rfl | exact RdN.whole 5 rfl | exact RdN.whole 6 rfl | exact RdN.whole 7 rfl | exact RdN.whole 8 rfl | exact RdN.roc (by simp) (by assumption)) rfl (by decide) ?_
    refine xk_move rfl (by decide) ?_
    refine xk_call [] (f := 20) (fi := []) (ca := []) (by kernel_rfl) rfl rfl (by decide) (by simp) (WishOk (someW s.clocks.length s.domains.length s.resets.length ra)) (fun w1 st => some17_any A1 A2 A3 A4 s.clocks.length k1 s.domains.length k2 s.resets.length k3 s.devs.length k4 ra w1 hra (by have := hm.nc; omega) (by have := hm.nd; omega) (by have := hm.nr; omega)) ?_
    rintro _ w1 q2 hx hf _ _
    have hx := WshR.le hx hf
    have hsmx := someW_sm hm ra
    have hlx := someW_len2 s ra
    generalize hgx : someW s.clocks.length s.domains.length s.resets.length ra = x at *
    obtain ⟨B1, mB1, B2, mB2, B3, mB3, rfl, e1, e2, e3⟩ := hx
    have hx : WshR q2 x _ := ⟨B1, mB1, B2, mB2, B3, mB3, rfl, e1, e2, e3⟩
    clear hf e1 e2 e3
    refine xk_alloc (cs := [.slice none 0 0, .slice none 0 0, .slice none 0 0]) (zeroB_of (by kernel_rfl)) (by decide) fun g2 => ?_
    (first | (refine xk_storeN 0 rfl rfl rfl (by kernel_rfl) (by simp [Value.cells, Value.oneCell']) (by simp [Value.cells]) ?_) | (refine xk_storeN 1 rfl rfl rfl (by kernel_rfl) (by simp [Value.cells, Value.oneCell']) (by simp [Value.cells]) ?_) | (refine xk_storeN 2 rfl rfl rfl (by kernel_rfl) (by simp [Value.cells, Value.oneCell']) (by simp [Value.cells]) ?_) | (refine xk_storeN 3 rfl rfl rfl (by kernel_rfl) (by simp [Value.cells, Value.oneCell']) (by simp [Value.cells]) ?_) | (refine xk_storeN 4 rfl rfl rfl (by kernel_rfl) (by simp [Value.cells, Value.oneCell']) (by simp [Value.cells]) ?_) | (refine xk_storeN 5 rfl rfl rfl (by kernel_rfl) (by simp [Value.cells, Value.oneCell']) (by simp [Value.cells]) ?_) | (refine xk_storeN 6 rfl rfl rfl (by kernel_rfl) (by simp [Value.cells, Value.oneCell']) (by simp [Value.cells]) ?_) | (refine xk_storeN 7 rfl rfl rfl (by kernel_rfl) (by simp [Value.cells, Value.oneCell']) (by simp [Value.cells]) ?_) | (refine xk_storeN 8 rfl rfl rfl (by kernel_rfl) (by simp [Value.cells, Value.oneCell']) (by simp [Value.cells]) ?_)); simp only [putN, Value.cells, List.set, List.take, List.drop, List.nil_append, List.append_nil, List.length_cons, List.length_nil, List.cons_append, Nat.reduceAdd]
    refine XK.nil ?_
    (repeat (first | refine XK.thenN ?_ | refine XK.thenE ?_ | refine XK.thenR ?_ | refine XK.inN ?_ | refine XK.inE ?_ | refine XK.inR ?_ | refine XK.inF rfl ?_))
    refine XK.seq ?_

    refine XK.region ?_
    refine xk_loadN 4 (by kernel_rfl) rfl (by first | assumption | exact RdN.whole 0 rfl | exact RdN.whole 1 rfl | exact RdN.whole 2 rfl | exact RdN.whole 3 rfl | exact RdN.whole 4 rfl | exact RdN.whole 5 rfl | exact RdN.whole 6 rfl | exact RdN.whole 7 rfl | exact RdN.whole 8 rfl | exact RdN.roc (by simp) (by assumption)) rfl (by decide) ?_
    refine xk_move rfl (by decide) ?_
    refine xk_call [] (f := 20) (fi := []) (ca := []) (by kernel_rfl) rfl rfl (by decide) (by simp) (WishOk (someW s.clocks.length s.domains.length s.resets.length rb)) (fun w1 st => some17_any A1 A2 A3 A4 s.clocks.length k1 s.domains.length k2 s.resets.length k3 s.devs.length k4 rb w1 hrb (by have := hm.nc; omega) (by have := hm.nd; omega) (by have := hm.nr; omega)) ?_
    rintro _ w1 q3 hy hf _ _
    have hy := WshR.le hy hf
    have hsmy := someW_sm hm rb
    have hly := someW_len2 s rb
    generalize hgy : someW s.clocks.length s.domains.length s.resets.length rb = y at *
    obtain ⟨C1, mC1, C2, mC2, C3, mC3, rfl, e1, e2, e3⟩ := hy
    have hy : WshR q3 y _ := ⟨C1, mC1, C2, mC2, C3, mC3, rfl, e1, e2, e3⟩
    clear hf e1 e2 e3
    refine xk_alloc (cs := [.slice none 0 0, .slice none 0 0, .slice none 0 0]) (zeroB_of (by kernel_rfl)) (by decide) fun g3 => ?_
    (first | (refine xk_storeN 0 rfl rfl rfl (by kernel_rfl) (by simp [Value.cells, Value.oneCell']) (by simp [Value.cells]) ?_) | (refine xk_storeN 1 rfl rfl rfl (by kernel_rfl) (by simp [Value.cells, Value.oneCell']) (by simp [Value.cells]) ?_) | (refine xk_storeN 2 rfl rfl rfl (by kernel_rfl) (by simp [Value.cells, Value.oneCell']) (by simp [Value.cells]) ?_) | (refine xk_storeN 3 rfl rfl rfl (by kernel_rfl) (by simp [Value.cells, Value.oneCell']) (by simp [Value.cells]) ?_) | (refine xk_storeN 4 rfl rfl rfl (by kernel_rfl) (by simp [Value.cells, Value.oneCell']) (by simp [Value.cells]) ?_) | (refine xk_storeN 5 rfl rfl rfl (by kernel_rfl) (by simp [Value.cells, Value.oneCell']) (by simp [Value.cells]) ?_) | (refine xk_storeN 6 rfl rfl rfl (by kernel_rfl) (by simp [Value.cells, Value.oneCell']) (by simp [Value.cells]) ?_) | (refine xk_storeN 7 rfl rfl rfl (by kernel_rfl) (by simp [Value.cells, Value.oneCell']) (by simp [Value.cells]) ?_) | (refine xk_storeN 8 rfl rfl rfl (by kernel_rfl) (by simp [Value.cells, Value.oneCell']) (by simp [Value.cells]) ?_)); simp only [putN, Value.cells, List.set, List.take, List.drop, List.nil_append, List.append_nil, List.length_cons, List.length_nil, List.cons_append, Nat.reduceAdd]
    refine XK.nil ?_
    (repeat (first | refine XK.thenN ?_ | refine XK.thenE ?_ | refine XK.thenR ?_ | refine XK.inN ?_ | refine XK.inE ?_ | refine XK.inR ?_ | refine XK.inF rfl ?_))
    refine XK.seq ?_

    refine XK.region ?_
    refine xk_loadN 4 (by kernel_rfl) rfl (by first | assumption | exact RdN.whole 0 rfl | exact RdN.whole 1 rfl | exact RdN.whole 2 rfl | exact RdN.whole 3 rfl | exact RdN.whole 4 rfl | exact RdN.whole 5 rfl | exact RdN.whole 6 rfl | exact RdN.whole 7 rfl | exact RdN.whole 8 rfl | exact RdN.roc (by simp) (by assumption)) rfl (by decide) ?_
    refine xk_loadN 3 (by kernel_rfl) rfl (by first | assumption | exact RdN.whole 0 rfl | exact RdN.whole 1 rfl | exact RdN.whole 2 rfl | exact RdN.whole 3 rfl | exact RdN.whole 4 rfl | exact RdN.whole 5 rfl | exact RdN.whole 6 rfl | exact RdN.whole 7 rfl | exact RdN.whole 8 rfl | exact RdN.roc (by simp) (by assumption)) rfl (by decide) ?_
    refine xk_loadN 3 (by kernel_rfl) rfl (by first | assumption | exact RdN.whole 0 rfl | exact RdN.whole 1 rfl | exact RdN.whole 2 rfl | exact RdN.whole 3 rfl | exact RdN.whole 4 rfl | exact RdN.whole 5 rfl | exact RdN.whole 6 rfl | exact RdN.whole 7 rfl | exact RdN.whole 8 rfl | exact RdN.roc (by simp) (by assumption)) rfl (by decide) ?_
    refine xk_call [] (f := 19) (fi := []) (ca := []) (by kernel_rfl) rfl rfl (by decide) (by simp) (StepsR (allM s x y)) (fun w1 st => stepsM_any hSP hm (st.le (by simp)) hx (st.le (by simp)) hy (st.le (by simp))) ?_
    rintro _ w1 q4 ⟨AT, cAT, rfl, hT⟩ hf _ _
    have hT := hT.le hf
    have hokT := allM_ok hm x y
    have hlenT := allM_len hm x y
    clear hf
    refine xk_assign rfl (by decide) ?_
    refine XK.nil ?_
    (repeat (first | refine XK.thenN ?_ | refine XK.thenE ?_ | refine XK.thenR ?_ | refine XK.inN ?_ | refine XK.inE ?_ | refine XK.inR ?_ | refine XK.inF rfl ?_))
    refine XK.seq ?_

    refine XK.region ?_
    refine xk_loadN 4 (by kernel_rfl) rfl (by first | assumption | exact RdN.whole 0 rfl | exact RdN.whole 1 rfl | exact RdN.whole 2 rfl | exact RdN.whole 3 rfl | exact RdN.whole 4 rfl | exact RdN.whole 5 rfl | exact RdN.whole 6 rfl | exact RdN.whole 7 rfl | exact RdN.whole 8 rfl | exact RdN.roc (by simp) (by assumption)) rfl (by decide) ?_
    refine xk_loadN 3 (by kernel_rfl) rfl (by first | assumption | exact RdN.whole 0 rfl | exact RdN.whole 1 rfl | exact RdN.whole 2 rfl | exact RdN.whole 3 rfl | exact RdN.whole 4 rfl | exact RdN.whole 5 rfl | exact RdN.whole 6 rfl | exact RdN.whole 7 rfl | exact RdN.whole 8 rfl | exact RdN.roc (by simp) (by assumption)) rfl (by decide) ?_
    refine xk_loadN 3 (by kernel_rfl) rfl (by first | assumption | exact RdN.whole 0 rfl | exact RdN.whole 1 rfl | exact RdN.whole 2 rfl | exact RdN.whole 3 rfl | exact RdN.whole 4 rfl | exact RdN.whole 5 rfl | exact RdN.whole 6 rfl | exact RdN.whole 7 rfl | exact RdN.whole 8 rfl | exact RdN.roc (by simp) (by assumption)) rfl (by decide) ?_
    refine xk_call [] (f := 19) (fi := []) (ca := []) (by kernel_rfl) rfl rfl (by decide) (by simp) (StepsR (allM s y x)) (fun w1 st => stepsM_any hSP hm (st.le (by simp)) hy (st.le (by simp)) hx (st.le (by simp))) ?_
    rintro _ w1 q5 ⟨AB, cAB, rfl, hU⟩ hf _ _
    have hU := hU.le hf
    have hokU := allM_ok hm y x
    have hlenU := allM_len hm y x
    clear hf
    have hTU := allM_len_eq s x y
    have hfT := fold_all hlx hly
    have hfU := fold_all hly hlx
    generalize hgT : allM s x y = T at *
    generalize hgU : allM s y x = U at *
    refine xk_assign rfl (by decide) ?_
    refine XK.nil ?_
    (repeat (first | refine XK.thenN ?_ | refine XK.thenE ?_ | refine XK.thenR ?_ | refine XK.inN ?_ | refine XK.inE ?_ | refine XK.inR ?_ | refine XK.inF rfl ?_))
    refine XK.seq ?_

    refine XK.region ?_
    refine xk_loadN 3 (by kernel_rfl) rfl (by first | assumption | exact RdN.whole 0 rfl | exact RdN.whole 1 rfl | exact RdN.whole 2 rfl | exact RdN.whole 3 rfl | exact RdN.whole 4 rfl | exact RdN.whole 5 rfl | exact RdN.whole 6 rfl | exact RdN.whole 7 rfl | exact RdN.whole 8 rfl | exact RdN.roc (by simp) (by assumption)) rfl (by decide) ?_
    refine xk_alloc (cs := [.slice none 0 0, .slice none 0 0, .slice none 0 0]) (zeroB_of (by kernel_rfl)) (by decide) fun g4 => ?_
    (first | (refine xk_storeN 0 rfl rfl rfl (by kernel_rfl) (by simp [Value.cells, Value.oneCell']) (by simp [Value.cells]) ?_) | (refine xk_storeN 1 rfl rfl rfl (by kernel_rfl) (by simp [Value.cells, Value.oneCell']) (by simp [Value.cells]) ?_) | (refine xk_storeN 2 rfl rfl rfl (by kernel_rfl) (by simp [Value.cells, Value.oneCell']) (by simp [Value.cells]) ?_) | (refine xk_storeN 3 rfl rfl rfl (by kernel_rfl) (by simp [Value.cells, Value.oneCell']) (by simp [Value.cells]) ?_) | (refine xk_storeN 4 rfl rfl rfl (by kernel_rfl) (by simp [Value.cells, Value.oneCell']) (by simp [Value.cells]) ?_) | (refine xk_storeN 5 rfl rfl rfl (by kernel_rfl) (by simp [Value.cells, Value.oneCell']) (by simp [Value.cells]) ?_) | (refine xk_storeN 6 rfl rfl rfl (by kernel_rfl) (by simp [Value.cells, Value.oneCell']) (by simp [Value.cells]) ?_) | (refine xk_storeN 7 rfl rfl rfl (by kernel_rfl) (by simp [Value.cells, Value.oneCell']) (by simp [Value.cells]) ?_) | (refine xk_storeN 8 rfl rfl rfl (by kernel_rfl) (by simp [Value.cells, Value.oneCell']) (by simp [Value.cells]) ?_)); simp only [putN, Value.cells, List.set, List.take, List.drop, List.nil_append, List.append_nil, List.length_cons, List.length_nil, List.cons_append, Nat.reduceAdd]
    refine XK.nil ?_
    (repeat (first | refine XK.thenN ?_ | refine XK.thenE ?_ | refine XK.thenR ?_ | refine XK.inN ?_ | refine XK.inE ?_ | refine XK.inR ?_ | refine XK.inF rfl ?_))
    refine XK.seq ?_
    refine XK.seq ?_

    refine XK.region ?_
    refine xk_assign rfl (by decide) ?_
    refine XK.nil ?_
    (repeat (first | refine XK.thenN ?_ | refine XK.thenE ?_ | refine XK.thenR ?_ | refine XK.inN ?_ | refine XK.inE ?_ | refine XK.inR ?_ | refine XK.inF rfl ?_))
    refine XK.env [(14, .int .i64 0), (13, .pointer (some ⟨g4, 0, none⟩)), (11, .slice AT T.length cAT), (12, .slice AB U.length cAB), (10, .pointer (some ⟨g3, 0, none⟩)), (9, .pointer (some ⟨g2, 0, none⟩)), (8, .pointer (some ⟨g1, 0, none⟩)), (1, .int .i64 ra)] ⟨rfl, rfl, rfl, rfl, rfl, rfl, rfl, rfl, trivial⟩ ?_
    refine XK.weakR (R' := [q2, q5, q4, q3, q2, q1, all w]) (by simp) ?_
    refine XK.block ?_
    refine XK.loop (fun m e R H => ∃ (i : Nat) (xi : Wsh) (qw : Piece) (D1 D2 D3 : Option Addr) (mD1 mD2 mD3 : Nat), i ≤ T.length ∧ m = T.length - i ∧ xi = (T.take i).foldl applyW x ∧ xi.sm ∧ WshR qw xi (.agg #[.slice D1 xi.d.length mD1, .slice D2 xi.c.length mD2, .slice D3 xi.l.length mD3]) ∧ e = [(14, .int .i64 i), (13, .pointer (some ⟨g4, 0, none⟩)), (11, .slice AT T.length cAT), (12, .slice AB U.length cAB), (10, .pointer (some ⟨g3, 0, none⟩)), (9, .pointer (some ⟨g2, 0, none⟩)), (8, .pointer (some ⟨g1, 0, none⟩)), (1, .int .i64 ra)] ∧ R = [qw, q5, q4, q3, q2, q1, all w] ∧ H = [HP.blk g4 56 [.slice D1 xi.d.length mD1, .slice D2 xi.c.length mD2, .slice D3 xi.l.length mD3], HP.blk g3 56 [.slice C1 y.d.length mC1, .slice C2 y.c.length mC2, .slice C3 y.l.length mC3], HP.blk g2 56 [.slice B1 x.d.length mB1, .slice B2 x.c.length mB2, .slice B3 x.l.length mB3], HP.blk g1 50 [.slice A1 s.clocks.length k1, .slice A2 s.domains.length k2, .slice A3 s.resets.length k3, .slice A4 s.devs.length k4]]) T.length ⟨0, x, q2, B1, B2, B3, mB1, mB2, mB3, by omega, rfl, rfl, hsmx, hx, rfl, rfl, rfl⟩ fun m e R H hI => ?_
    obtain ⟨i, xi, qw, D1, D2, D3, mD1, mD2, mD3, hi, rfl, hxi, hsi, hwi, rfl, rfl, rfl⟩ := hI
    refine XK.seq ?_
    refine XK.seq ?_

    refine XK.region ?_
    refine xk_move rfl (by decide) ?_
    refine xk_move rfl (by decide) ?_
    refine xk_len (el := 59) (by kernel_rfl) rfl (by decide) ?_
    refine xk_lss rfl rfl (by decide) ?_
    refine XK.nil ?_
    (repeat (first | refine XK.thenN ?_ | refine XK.thenE ?_ | refine XK.thenR ?_ | refine XK.inN ?_ | refine XK.inE ?_ | refine XK.inR ?_ | refine XK.inF rfl ?_))
    refine XK.if_ rfl (fun h => ?_) (fun h => ?_)
    ·
      refine XK.skip ?_
      (repeat (first | refine XK.thenN ?_ | refine XK.thenE ?_ | refine XK.thenR ?_ | refine XK.inN ?_ | refine XK.inE ?_ | refine XK.inR ?_ | refine XK.inF rfl ?_))
      refine XK.seq ?_
      have h' : (i : Int) < (T.length : Int) := h
      obtain ⟨pi, hpi⟩ : ∃ pi, T[i]? = some pi := ⟨_, List.getElem?_eq_getElem (by omega)⟩
      obtain ⟨bL, oL, rfl, hzL, hci⟩ := hT.step hpi
      have hoki := hokT pi (List.mem_of_getElem? hpi)
      refine XK.block ?_

      refine XK.draw 5 (by kernel_rfl) (by kernel_rfl) ?_
      refine XA.do_ 0 rfl rfl rfl (by decide) (does_loadN 3 (by kernel_rfl) rfl (by first | assumption | exact RdN.whole 0 rfl | exact RdN.whole 1 rfl | exact RdN.whole 2 rfl | exact RdN.whole 3 rfl | exact RdN.whole 4 rfl | exact RdN.whole 5 rfl | exact RdN.whole 6 rfl | exact RdN.whole 7 rfl | exact RdN.whole 8 rfl | exact RdN.roc (by simp) (by assumption)) rfl) (by kernel_rfl) (fun _ _ _ h => h) (by first | exact fun _ h => h | exact fun _ h => h.tail | exact fun _ h => h.tailR | exact fun _ h => h.tail.tail | exact fun _ h => h.tailR.tail | exact fun _ h => h.tailR.tailR) ?_
      refine XA.do_ 1 rfl rfl rfl (by decide) (does_move rfl) (by kernel_rfl) (fun _ _ _ h => h) (by first | exact fun _ h => h | exact fun _ h => h.tail | exact fun _ h => h.tailR | exact fun _ h => h.tail.tail | exact fun _ h => h.tailR.tail | exact fun _ h => h.tailR.tailR) ?_
      refine XA.do_ 2 rfl rfl rfl (by decide) (does_move rfl) (by kernel_rfl) (fun _ _ _ h => h) (by first | exact fun _ h => h | exact fun _ h => h.tail | exact fun _ h => h.tailR | exact fun _ h => h.tail.tail | exact fun _ h => h.tailR.tail | exact fun _ h => h.tailR.tailR) ?_
      refine XA.do_ 3 rfl rfl rfl (by decide) (does_at (i) (oL + i * 4) (el := 59) (sz := 4) (by kernel_rfl) (by kernel_rfl) rfl rfl (by omega) (by omega) (by omega)) (by kernel_rfl) (fun _ _ _ h => h) (by first | exact fun _ h => h | exact fun _ h => h.tail | exact fun _ h => h.tailR | exact fun _ h => h.tail.tail | exact fun _ h => h.tailR.tail | exact fun _ h => h.tailR.tailR) ?_
      refine XA.do_ 4 rfl rfl rfl (by decide) (does_loadN 4 (by kernel_rfl) rfl (RdN.of (vs := [.int .i64 pi.pr, .int .i64 pi.msg, .int .u32 pi.id, .int .u32 pi.v]) fun f v hf => Rd.ro (p := q4) (by simp) hzL (hci f v hf)) rfl) (by kernel_rfl) (fun _ _ _ h => h) (by first | exact fun _ h => h | exact fun _ h => h.tail | exact fun _ h => h.tailR | exact fun _ h => h.tail.tail | exact fun _ h => h.tailR.tail | exact fun _ h => h.tailR.tailR) ?_
      refine XA.next 5 rfl (by kernel_rfl) ?_
      refine xk_call [] (f := 22) (fi := []) (ca := []) (by kernel_rfl) rfl rfl (by decide) (by simp) (WishOk (applyW xi pi)) (fun w1 st => apply_any _ xi pi w1 (hwi.le (st.le (by simp))) hsi hoki) ?_
      rintro _ w1 qn hu hf _ _
      have hu := WshR.le hu hf
      have hsu := applyW_sm hsi pi
      have hfn : applyW xi pi = (T.take (i + 1)).foldl applyW x := by rw [hxi]; exact (fold_next hpi).symm
      generalize applyW xi pi = u at *
      obtain ⟨G1, mG1, G2, mG2, G3, mG3, rfl, e1, e2, e3⟩ := hu
      have hu : WshR qn u _ := ⟨G1, mG1, G2, mG2, G3, mG3, rfl, e1, e2, e3⟩
      clear hf e1 e2 e3
      refine XK.nil ?_; refine XK.thenN ?_; refine XA.backT rfl ?_
      refine XA.next 6 rfl (by kernel_rfl) ?_
      (first | (refine xk_storeN 0 rfl rfl rfl (by kernel_rfl) (by simp [Value.cells, Value.oneCell']) (by simp [Value.cells]) ?_) | (refine xk_storeN 1 rfl rfl rfl (by kernel_rfl) (by simp [Value.cells, Value.oneCell']) (by simp [Value.cells]) ?_) | (refine xk_storeN 2 rfl rfl rfl (by kernel_rfl) (by simp [Value.cells, Value.oneCell']) (by simp [Value.cells]) ?_) | (refine xk_storeN 3 rfl rfl rfl (by kernel_rfl) (by simp [Value.cells, Value.oneCell']) (by simp [Value.cells]) ?_) | (refine xk_storeN 4 rfl rfl rfl (by kernel_rfl) (by simp [Value.cells, Value.oneCell']) (by simp [Value.cells]) ?_) | (refine xk_storeN 5 rfl rfl rfl (by kernel_rfl) (by simp [Value.cells, Value.oneCell']) (by simp [Value.cells]) ?_) | (refine xk_storeN 6 rfl rfl rfl (by kernel_rfl) (by simp [Value.cells, Value.oneCell']) (by simp [Value.cells]) ?_) | (refine xk_storeN 7 rfl rfl rfl (by kernel_rfl) (by simp [Value.cells, Value.oneCell']) (by simp [Value.cells]) ?_) | (refine xk_storeN 8 rfl rfl rfl (by kernel_rfl) (by simp [Value.cells, Value.oneCell']) (by simp [Value.cells]) ?_)); simp only [putN, Value.cells, List.set, List.take, List.drop, List.nil_append, List.append_nil, List.length_cons, List.length_nil, List.cons_append, Nat.reduceAdd]
      refine XK.nil ?_; refine XK.thenN ?_; refine XA.backT rfl ?_
      refine XA.done (by kernel_rfl) ?_
      (repeat (first | refine XK.thenN ?_ | refine XK.thenE ?_ | refine XK.thenR ?_ | refine XK.inN ?_ | refine XK.inE ?_ | refine XK.inR ?_ | refine XK.inF rfl ?_))

      refine XK.region ?_
      refine xk_move rfl (by decide) ?_
      refine xk_add rfl rfl (wrap_in (by omega)) (by decide) ?_
      refine xk_assign rfl (by decide) ?_
      refine XK.nil ?_
      (repeat (first | refine XK.thenN ?_ | refine XK.thenE ?_ | refine XK.thenR ?_ | refine XK.inN ?_ | refine XK.inE ?_ | refine XK.inR ?_ | refine XK.inF rfl ?_))
      refine XK.weakR (R' := [qn, q5, q4, q3, q2, q1, all w]) (by simp) ?_
      exact XK.env [(14, .int .i64 ((i : Int) + 1)), (13, .pointer (some ⟨g4, 0, none⟩)), (11, .slice (some ⟨bL, oL, none⟩) T.length cAT), (12, .slice AB U.length cAB), (10, .pointer (some ⟨g3, 0, none⟩)), (9, .pointer (some ⟨g2, 0, none⟩)), (8, .pointer (some ⟨g1, 0, none⟩)), (1, .int .i64 ra)] ⟨rfl, rfl, rfl, rfl, rfl, rfl, rfl, rfl, trivial⟩ (XK.round (T.length - (i + 1)) (by omega) ⟨i + 1, u, qn, G1, G2, G3, mG1, mG2, mG3, by omega, rfl, hfn, hsu, hu, rfl, rfl, rfl⟩)
    ·
      refine XK.exit ?_
      (repeat (first | refine XK.thenN ?_ | refine XK.thenE ?_ | refine XK.thenR ?_ | refine XK.inN ?_ | refine XK.inE ?_ | refine XK.inR ?_ | refine XK.inF rfl ?_))
      refine XK.seq ?_
      have h' : ¬ (i : Int) < (T.length : Int) := h
      obtain rfl : i = T.length := by omega
      rw [List.take_length, hfT] at hxi
      subst xi
      refine XK.cutB 68 (False) ?_ ?_
      · skip

        refine XK.draw 17 (by kernel_rfl) (by kernel_rfl) ?_
        refine XA.do_ 0 rfl rfl rfl (by decide) (does_move rfl) (by kernel_rfl) (fun _ _ _ h => h) (by first | exact fun _ h => h | exact fun _ h => h.tail | exact fun _ h => h.tailR | exact fun _ h => h.tail.tail | exact fun _ h => h.tailR.tail | exact fun _ h => h.tailR.tailR) ?_
        refine XA.do_ 1 rfl rfl rfl (by decide) (does_len (el := 59) (by kernel_rfl) rfl) (by kernel_rfl) (fun _ _ _ h => h) (by first | exact fun _ h => h | exact fun _ h => h.tail | exact fun _ h => h.tailR | exact fun _ h => h.tail.tail | exact fun _ h => h.tailR.tail | exact fun _ h => h.tailR.tailR) ?_
        refine XA.do_ 2 rfl rfl rfl (by decide) (does_move rfl) (by kernel_rfl) (fun _ _ _ h => h) (by first | exact fun _ h => h | exact fun _ h => h.tail | exact fun _ h => h.tailR | exact fun _ h => h.tail.tail | exact fun _ h => h.tailR.tail | exact fun _ h => h.tailR.tailR) ?_
        refine XA.do_ 3 rfl rfl rfl (by decide) (does_len (el := 59) (by kernel_rfl) rfl) (by kernel_rfl) (fun _ _ _ h => h) (by first | exact fun _ h => h | exact fun _ h => h.tail | exact fun _ h => h.tailR | exact fun _ h => h.tail.tail | exact fun _ h => h.tailR.tail | exact fun _ h => h.tailR.tailR) ?_
        refine XA.do_ 4 rfl rfl rfl (by decide) (does_neq rfl rfl) (by kernel_rfl) (fun _ _ _ h => h) (by first | exact fun _ h => h | exact fun _ h => h.tail | exact fun _ h => h.tailR | exact fun _ h => h.tail.tail | exact fun _ h => h.tailR.tail | exact fun _ h => h.tailR.tailR) ?_
        refine XA.do_ 5 rfl rfl rfl (by decide) (does_move rfl) (by kernel_rfl) (fun _ _ _ h => h) (by first | exact fun _ h => h | exact fun _ h => h.tail | exact fun _ h => h.tailR | exact fun _ h => h.tail.tail | exact fun _ h => h.tailR.tail | exact fun _ h => h.tailR.tailR) ?_
        refine XA.split (t := 53) rfl (fun hg => ?_) (fun hg => ?_)
        ·
          exact absurd (by rw [hTU]) hg

        ·
          refine XA.doT 6 rfl rfl rfl (by decide) (does_loadN 3 (by kernel_rfl) rfl (by first | assumption | exact RdN.whole 0 rfl | exact RdN.whole 1 rfl | exact RdN.whole 2 rfl | exact RdN.whole 3 rfl | exact RdN.whole 4 rfl | exact RdN.whole 5 rfl | exact RdN.whole 6 rfl | exact RdN.whole 7 rfl | exact RdN.whole 8 rfl | exact RdN.roc (by simp) (by assumption)) rfl) (by kernel_rfl) (fun _ _ _ h => h) (by first | exact fun _ h => h | exact fun _ h => h.tail | exact fun _ h => h.tailR | exact fun _ h => h.tail.tail | exact fun _ h => h.tailR.tail | exact fun _ h => h.tailR.tailR) ?_
          refine XA.doT 7 rfl rfl rfl (by decide) (does_loadN 3 (by kernel_rfl) rfl (by first | assumption | exact RdN.whole 0 rfl | exact RdN.whole 1 rfl | exact RdN.whole 2 rfl | exact RdN.whole 3 rfl | exact RdN.whole 4 rfl | exact RdN.whole 5 rfl | exact RdN.whole 6 rfl | exact RdN.whole 7 rfl | exact RdN.whole 8 rfl | exact RdN.roc (by simp) (by assumption)) rfl) (by kernel_rfl) (fun _ _ _ h => h) (by first | exact fun _ h => h | exact fun _ h => h.tail | exact fun _ h => h.tailR | exact fun _ h => h.tail.tail | exact fun _ h => h.tailR.tail | exact fun _ h => h.tailR.tailR) ?_
          refine XA.next 8 rfl (by kernel_rfl) ?_
          refine xk_guardT rfl rfl ?_; refine xk_callR (f := 23) (fi := []) (ca := []) (by kernel_rfl) rfl rfl (by decide) (fun w1 st => alike17_any _ _ y y w1 (hwi.le (st.le (by simp))) (hy.le (st.le (by simp))) hsmy hsmy) ?_
          rw [Wsh.same_self]
          refine XK.nil ?_; refine XK.thenN ?_; refine XA.back (by first | exact fun _ h => h | exact fun _ h => h.tail | exact fun _ h => h.tailR | exact fun _ h => h.tail.tail | exact fun _ h => h.tailR.tail | exact fun _ h => h.tailR.tailR) ?_
          refine XA.doT 9 rfl rfl rfl (by decide) (by first | exact does_notD rfl | exact does_not rfl) (by kernel_rfl) (fun _ _ _ h => h) (by first | exact fun _ h => h | exact fun _ h => h.tail | exact fun _ h => h.tailR | exact fun _ h => h.tail.tail | exact fun _ h => h.tailR.tail | exact fun _ h => h.tailR.tailR) ?_
          refine XA.do_ 10 rfl rfl rfl (by decide) (by first | exact does_pickT rfl rfl | exact does_pickF rfl rfl) (by kernel_rfl) (fun _ _ _ h => h) (by first | exact fun _ h => h | exact fun _ h => h.tail | exact fun _ h => h.tailR | exact fun _ h => h.tail.tail | exact fun _ h => h.tailR.tail | exact fun _ h => h.tailR.tailR) ?_
          refine XA.do_ 11 rfl rfl rfl (by decide) (does_move rfl) (by kernel_rfl) (fun _ _ _ h => h) (by first | exact fun _ h => h | exact fun _ h => h.tail | exact fun _ h => h.tailR | exact fun _ h => h.tail.tail | exact fun _ h => h.tailR.tail | exact fun _ h => h.tailR.tailR) ?_
          refine XA.splitB (t := 59) rfl (fun hg => ?_) (fun hg => ?_)
          ·
            exact absurd hg (by decide)

          ·
            refine XA.doT 12 rfl rfl rfl (by decide) (does_loadN 4 (by kernel_rfl) rfl (by first | assumption | exact RdN.whole 0 rfl | exact RdN.whole 1 rfl | exact RdN.whole 2 rfl | exact RdN.whole 3 rfl | exact RdN.whole 4 rfl | exact RdN.whole 5 rfl | exact RdN.whole 6 rfl | exact RdN.whole 7 rfl | exact RdN.whole 8 rfl | exact RdN.roc (by simp) (by assumption)) rfl) (by kernel_rfl) (fun _ _ _ h => h) (by first | exact fun _ h => h | exact fun _ h => h.tail | exact fun _ h => h.tailR | exact fun _ h => h.tail.tail | exact fun _ h => h.tailR.tail | exact fun _ h => h.tailR.tailR) ?_
            refine XA.doT 13 rfl rfl rfl (by decide) (does_loadN 3 (by kernel_rfl) rfl (by first | assumption | exact RdN.whole 0 rfl | exact RdN.whole 1 rfl | exact RdN.whole 2 rfl | exact RdN.whole 3 rfl | exact RdN.whole 4 rfl | exact RdN.whole 5 rfl | exact RdN.whole 6 rfl | exact RdN.whole 7 rfl | exact RdN.whole 8 rfl | exact RdN.roc (by simp) (by assumption)) rfl) (by kernel_rfl) (fun _ _ _ h => h) (by first | exact fun _ h => h | exact fun _ h => h.tail | exact fun _ h => h.tailR | exact fun _ h => h.tail.tail | exact fun _ h => h.tailR.tail | exact fun _ h => h.tailR.tailR) ?_
            refine XA.doT 14 rfl rfl rfl (by decide) (does_loadN 4 (by kernel_rfl) rfl (by first | assumption | exact RdN.whole 0 rfl | exact RdN.whole 1 rfl | exact RdN.whole 2 rfl | exact RdN.whole 3 rfl | exact RdN.whole 4 rfl | exact RdN.whole 5 rfl | exact RdN.whole 6 rfl | exact RdN.whole 7 rfl | exact RdN.whole 8 rfl | exact RdN.roc (by simp) (by assumption)) rfl) (by kernel_rfl) (fun _ _ _ h => h) (by first | exact fun _ h => h | exact fun _ h => h.tail | exact fun _ h => h.tailR | exact fun _ h => h.tail.tail | exact fun _ h => h.tailR.tail | exact fun _ h => h.tailR.tailR) ?_
            refine XA.doT 15 rfl rfl rfl (by decide) (does_move rfl) (by kernel_rfl) (fun _ _ _ h => h) (by first | exact fun _ h => h | exact fun _ h => h.tail | exact fun _ h => h.tailR | exact fun _ h => h.tail.tail | exact fun _ h => h.tailR.tail | exact fun _ h => h.tailR.tailR) ?_
            refine XA.next 16 rfl (by kernel_rfl) ?_
            refine xk_guardT rfl rfl ?_; refine xk_call [] (f := 20) (fi := []) (ca := []) (by kernel_rfl) rfl rfl (by decide) (by simp) (WishOk x) (fun w1 st => hgx ▸ some17_any A1 A2 A3 A4 s.clocks.length k1 s.domains.length k2 s.resets.length k3 s.devs.length k4 ra w1 hra (by have := hm.nc; omega) (by have := hm.nd; omega) (by have := hm.nr; omega)) ?_
            rintro _ w1 q6 hx2 hf _ _
            have hx2 := WshR.le hx2 hf
            obtain ⟨G1, mG1, G2, mG2, G3, mG3, rfl, e1, e2, e3⟩ := hx2
            have hx2 : WshR q6 x _ := ⟨G1, mG1, G2, mG2, G3, mG3, rfl, e1, e2, e3⟩
            clear hf e1 e2 e3
            refine XK.nil ?_; refine XK.thenN ?_; refine XA.back (by first | exact fun _ h => h | exact fun _ h => h.tail | exact fun _ h => h.tailR | exact fun _ h => h.tail.tail | exact fun _ h => h.tailR.tail | exact fun _ h => h.tailR.tailR) ?_
            refine XA.next 17 rfl (by kernel_rfl) ?_
            refine xk_guardT rfl rfl ?_; refine xk_call [] (f := 19) (fi := []) (ca := []) (by kernel_rfl) rfl rfl (by decide) (by simp) (StepsR []) (fun w1 st => allM_same s x ▸ stepsM_any hSP hm (st.le (by simp)) hx (st.le (by simp)) hx2 (st.le (by simp))) ?_
            rintro _ w1 q7 ⟨AE, cE, rfl, _⟩ _ _ _
            refine XK.nil ?_; refine XK.thenN ?_; refine XA.backT rfl ?_
            refine XA.next 18 rfl (by kernel_rfl) ?_
            refine xk_guardT rfl rfl ?_; refine xk_len (el := 59) (by kernel_rfl) rfl (by decide) ?_
            refine XK.nil ?_; refine XK.thenN ?_; refine XA.backT rfl ?_
            refine XA.next 19 rfl (by kernel_rfl) ?_
            refine xk_guardT rfl rfl ?_; refine xk_neq rfl rfl (by decide) ?_
            refine XK.nil ?_; refine XK.thenN ?_; refine XA.backT rfl ?_
            refine XA.next 20 rfl (by kernel_rfl) ?_
            (first | refine xk_pickT rfl rfl (by decide) ?_ | refine xk_pickF rfl rfl (by decide) ?_)
            refine XK.nil ?_; refine XK.thenN ?_; refine XA.backT rfl ?_
            refine XA.done (by kernel_rfl) ?_
            (repeat (first | refine XK.thenN ?_ | refine XK.thenE ?_ | refine XK.thenR ?_ | refine XK.inN ?_ | refine XK.inE ?_ | refine XK.inR ?_ | refine XK.inF rfl ?_))
            exact XK.weakR (by simp) (XK.meetB (by repeat (first | exact trivial | refine ⟨rfl, ?_⟩)) (get_iff rfl (by simp)))
      refine XK.if_ rfl (fun h => h.elim) (fun h => ?_)

      ·
        refine XK.skip ?_
        (repeat (first | refine XK.thenN ?_ | refine XK.thenE ?_ | refine XK.thenR ?_ | refine XK.inN ?_ | refine XK.inE ?_ | refine XK.inR ?_ | refine XK.inF rfl ?_))
        refine XK.seq ?_
        refine XK.seq ?_

        refine XK.region ?_
        refine xk_assign rfl (by decide) ?_
        refine XK.nil ?_
        (repeat (first | refine XK.thenN ?_ | refine XK.thenE ?_ | refine XK.thenR ?_ | refine XK.inN ?_ | refine XK.inE ?_ | refine XK.inR ?_ | refine XK.inF rfl ?_))
        refine XK.env [(15, .int .i64 0), (13, .pointer (some ⟨g4, 0, none⟩)), (12, .slice AB U.length cAB), (10, .pointer (some ⟨g3, 0, none⟩)), (9, .pointer (some ⟨g2, 0, none⟩)), (8, .pointer (some ⟨g1, 0, none⟩)), (1, .int .i64 ra)] ⟨rfl, rfl, rfl, rfl, rfl, rfl, rfl, trivial⟩ ?_
        refine XK.block ?_
        refine XK.loop (fun m e R H => ∃ (i : Nat) (xi : Wsh) (qw : Piece) (D1 D2 D3 : Option Addr) (mD1 mD2 mD3 : Nat), i ≤ U.length ∧ m = U.length - i ∧ xi = (U.take i).foldl applyW y ∧ xi.sm ∧ WshR qw xi (.agg #[.slice D1 xi.d.length mD1, .slice D2 xi.c.length mD2, .slice D3 xi.l.length mD3]) ∧ e = [(15, .int .i64 i), (13, .pointer (some ⟨g4, 0, none⟩)), (12, .slice AB U.length cAB), (10, .pointer (some ⟨g3, 0, none⟩)), (9, .pointer (some ⟨g2, 0, none⟩)), (8, .pointer (some ⟨g1, 0, none⟩)), (1, .int .i64 ra)] ∧ R = [qw, q5, q4, q3, q2, q1, all w] ∧ H = [HP.blk g4 56 [.slice D1 xi.d.length mD1, .slice D2 xi.c.length mD2, .slice D3 xi.l.length mD3], HP.blk g3 56 [.slice C1 y.d.length mC1, .slice C2 y.c.length mC2, .slice C3 y.l.length mC3], HP.blk g2 56 [.slice B1 x.d.length mB1, .slice B2 x.c.length mB2, .slice B3 x.l.length mB3], HP.blk g1 50 [.slice A1 s.clocks.length k1, .slice A2 s.domains.length k2, .slice A3 s.resets.length k3, .slice A4 s.devs.length k4]]) U.length ⟨0, y, qw, D1, D2, D3, mD1, mD2, mD3, by omega, rfl, rfl, hsi, hwi, rfl, rfl, rfl⟩ fun m e R H hI => ?_
        obtain ⟨i, xi, qw, D1, D2, D3, mD1, mD2, mD3, hi, rfl, hxi, hsi, hwi, rfl, rfl, rfl⟩ := hI
        refine XK.seq ?_
        refine XK.seq ?_

        refine XK.region ?_
        refine xk_move rfl (by decide) ?_
        refine xk_move rfl (by decide) ?_
        refine xk_len (el := 59) (by kernel_rfl) rfl (by decide) ?_
        refine xk_lss rfl rfl (by decide) ?_
        refine XK.nil ?_
        (repeat (first | refine XK.thenN ?_ | refine XK.thenE ?_ | refine XK.thenR ?_ | refine XK.inN ?_ | refine XK.inE ?_ | refine XK.inR ?_ | refine XK.inF rfl ?_))
        refine XK.if_ rfl (fun h => ?_) (fun h => ?_)
        ·
          refine XK.skip ?_
          (repeat (first | refine XK.thenN ?_ | refine XK.thenE ?_ | refine XK.thenR ?_ | refine XK.inN ?_ | refine XK.inE ?_ | refine XK.inR ?_ | refine XK.inF rfl ?_))
          refine XK.seq ?_
          have h' : (i : Int) < (U.length : Int) := h
          obtain ⟨pi, hpi⟩ : ∃ pi, U[i]? = some pi := ⟨_, List.getElem?_eq_getElem (by omega)⟩
          obtain ⟨bL, oL, rfl, hzL, hci⟩ := hU.step hpi
          have hoki := hokU pi (List.mem_of_getElem? hpi)
          refine XK.block ?_

          refine XK.draw 5 (by kernel_rfl) (by kernel_rfl) ?_
          refine XA.do_ 0 rfl rfl rfl (by decide) (does_loadN 3 (by kernel_rfl) rfl (by first | assumption | exact RdN.whole 0 rfl | exact RdN.whole 1 rfl | exact RdN.whole 2 rfl | exact RdN.whole 3 rfl | exact RdN.whole 4 rfl | exact RdN.whole 5 rfl | exact RdN.whole 6 rfl | exact RdN.whole 7 rfl | exact RdN.whole 8 rfl | exact RdN.roc (by simp) (by assumption)) rfl) (by kernel_rfl) (fun _ _ _ h => h) (by first | exact fun _ h => h | exact fun _ h => h.tail | exact fun _ h => h.tailR | exact fun _ h => h.tail.tail | exact fun _ h => h.tailR.tail | exact fun _ h => h.tailR.tailR) ?_
          refine XA.do_ 1 rfl rfl rfl (by decide) (does_move rfl) (by kernel_rfl) (fun _ _ _ h => h) (by first | exact fun _ h => h | exact fun _ h => h.tail | exact fun _ h => h.tailR | exact fun _ h => h.tail.tail | exact fun _ h => h.tailR.tail | exact fun _ h => h.tailR.tailR) ?_
          refine XA.do_ 2 rfl rfl rfl (by decide) (does_move rfl) (by kernel_rfl) (fun _ _ _ h => h) (by first | exact fun _ h => h | exact fun _ h => h.tail | exact fun _ h => h.tailR | exact fun _ h => h.tail.tail | exact fun _ h => h.tailR.tail | exact fun _ h => h.tailR.tailR) ?_
          refine XA.do_ 3 rfl rfl rfl (by decide) (does_at (i) (oL + i * 4) (el := 59) (sz := 4) (by kernel_rfl) (by kernel_rfl) rfl rfl (by omega) (by omega) (by omega)) (by kernel_rfl) (fun _ _ _ h => h) (by first | exact fun _ h => h | exact fun _ h => h.tail | exact fun _ h => h.tailR | exact fun _ h => h.tail.tail | exact fun _ h => h.tailR.tail | exact fun _ h => h.tailR.tailR) ?_
          refine XA.do_ 4 rfl rfl rfl (by decide) (does_loadN 4 (by kernel_rfl) rfl (RdN.of (vs := [.int .i64 pi.pr, .int .i64 pi.msg, .int .u32 pi.id, .int .u32 pi.v]) fun f v hf => Rd.ro (p := q5) (by simp) hzL (hci f v hf)) rfl) (by kernel_rfl) (fun _ _ _ h => h) (by first | exact fun _ h => h | exact fun _ h => h.tail | exact fun _ h => h.tailR | exact fun _ h => h.tail.tail | exact fun _ h => h.tailR.tail | exact fun _ h => h.tailR.tailR) ?_
          refine XA.next 5 rfl (by kernel_rfl) ?_
          refine xk_call [] (f := 22) (fi := []) (ca := []) (by kernel_rfl) rfl rfl (by decide) (by simp) (WishOk (applyW xi pi)) (fun w1 st => apply_any _ xi pi w1 (hwi.le (st.le (by simp))) hsi hoki) ?_
          rintro _ w1 qn hu hf _ _
          have hu := WshR.le hu hf
          have hsu := applyW_sm hsi pi
          have hfn : applyW xi pi = (U.take (i + 1)).foldl applyW y := by rw [hxi]; exact (fold_next hpi).symm
          generalize applyW xi pi = u at *
          obtain ⟨G1, mG1, G2, mG2, G3, mG3, rfl, e1, e2, e3⟩ := hu
          have hu : WshR qn u _ := ⟨G1, mG1, G2, mG2, G3, mG3, rfl, e1, e2, e3⟩
          clear hf e1 e2 e3
          refine XK.nil ?_; refine XK.thenN ?_; refine XA.backT rfl ?_
          refine XA.next 6 rfl (by kernel_rfl) ?_
          (first | (refine xk_storeN 0 rfl rfl rfl (by kernel_rfl) (by simp [Value.cells, Value.oneCell']) (by simp [Value.cells]) ?_) | (refine xk_storeN 1 rfl rfl rfl (by kernel_rfl) (by simp [Value.cells, Value.oneCell']) (by simp [Value.cells]) ?_) | (refine xk_storeN 2 rfl rfl rfl (by kernel_rfl) (by simp [Value.cells, Value.oneCell']) (by simp [Value.cells]) ?_) | (refine xk_storeN 3 rfl rfl rfl (by kernel_rfl) (by simp [Value.cells, Value.oneCell']) (by simp [Value.cells]) ?_) | (refine xk_storeN 4 rfl rfl rfl (by kernel_rfl) (by simp [Value.cells, Value.oneCell']) (by simp [Value.cells]) ?_) | (refine xk_storeN 5 rfl rfl rfl (by kernel_rfl) (by simp [Value.cells, Value.oneCell']) (by simp [Value.cells]) ?_) | (refine xk_storeN 6 rfl rfl rfl (by kernel_rfl) (by simp [Value.cells, Value.oneCell']) (by simp [Value.cells]) ?_) | (refine xk_storeN 7 rfl rfl rfl (by kernel_rfl) (by simp [Value.cells, Value.oneCell']) (by simp [Value.cells]) ?_) | (refine xk_storeN 8 rfl rfl rfl (by kernel_rfl) (by simp [Value.cells, Value.oneCell']) (by simp [Value.cells]) ?_)); simp only [putN, Value.cells, List.set, List.take, List.drop, List.nil_append, List.append_nil, List.length_cons, List.length_nil, List.cons_append, Nat.reduceAdd]
          refine XK.nil ?_; refine XK.thenN ?_; refine XA.backT rfl ?_
          refine XA.done (by kernel_rfl) ?_
          (repeat (first | refine XK.thenN ?_ | refine XK.thenE ?_ | refine XK.thenR ?_ | refine XK.inN ?_ | refine XK.inE ?_ | refine XK.inR ?_ | refine XK.inF rfl ?_))

          refine XK.region ?_
          refine xk_move rfl (by decide) ?_
          refine xk_add rfl rfl (wrap_in (by omega)) (by decide) ?_
          refine xk_assign rfl (by decide) ?_
          refine XK.nil ?_
          (repeat (first | refine XK.thenN ?_ | refine XK.thenE ?_ | refine XK.thenR ?_ | refine XK.inN ?_ | refine XK.inE ?_ | refine XK.inR ?_ | refine XK.inF rfl ?_))
          refine XK.weakR (R' := [qn, q5, q4, q3, q2, q1, all w]) (by simp) ?_
          exact XK.env [(15, .int .i64 ((i : Int) + 1)), (13, .pointer (some ⟨g4, 0, none⟩)), (12, .slice (some ⟨bL, oL, none⟩) U.length cAB), (10, .pointer (some ⟨g3, 0, none⟩)), (9, .pointer (some ⟨g2, 0, none⟩)), (8, .pointer (some ⟨g1, 0, none⟩)), (1, .int .i64 ra)] ⟨rfl, rfl, rfl, rfl, rfl, rfl, rfl, trivial⟩ (XK.round (U.length - (i + 1)) (by omega) ⟨i + 1, u, qn, G1, G2, G3, mG1, mG2, mG3, by omega, rfl, hfn, hsu, hu, rfl, rfl, rfl⟩)
        ·
          refine XK.exit ?_
          (repeat (first | refine XK.thenN ?_ | refine XK.thenE ?_ | refine XK.thenR ?_ | refine XK.inN ?_ | refine XK.inE ?_ | refine XK.inR ?_ | refine XK.inF rfl ?_))
          refine XK.seq ?_

          refine XK.region ?_
          refine xk_loadN 3 (by kernel_rfl) rfl (by first | assumption | exact RdN.whole 0 rfl | exact RdN.whole 1 rfl | exact RdN.whole 2 rfl | exact RdN.whole 3 rfl | exact RdN.whole 4 rfl | exact RdN.whole 5 rfl | exact RdN.whole 6 rfl | exact RdN.whole 7 rfl | exact RdN.whole 8 rfl | exact RdN.roc (by simp) (by assumption)) rfl (by decide) ?_
          refine xk_loadN 3 (by kernel_rfl) rfl (by first | assumption | exact RdN.whole 0 rfl | exact RdN.whole 1 rfl | exact RdN.whole 2 rfl | exact RdN.whole 3 rfl | exact RdN.whole 4 rfl | exact RdN.whole 5 rfl | exact RdN.whole 6 rfl | exact RdN.whole 7 rfl | exact RdN.whole 8 rfl | exact RdN.roc (by simp) (by assumption)) rfl (by decide) ?_
          have h' : ¬ (i : Int) < (U.length : Int) := h
          obtain rfl : i = U.length := by omega
          rw [List.take_length, hfU] at hxi
          subst xi
          refine xk_callR (f := 23) (fi := []) (ca := []) (by kernel_rfl) rfl rfl (by decide) (fun w1 st => alike17_any _ _ _ _ w1 (hwi.le (st.le (by simp))) (hx.le (st.le (by simp))) hsmx hsmx) ?_
          rw [Wsh.same_self]
          refine xk_assign rfl (by decide) ?_
          refine XK.nil ?_
          (repeat (first | refine XK.thenN ?_ | refine XK.thenE ?_ | refine XK.thenR ?_ | refine XK.inN ?_ | refine XK.inE ?_ | refine XK.inR ?_ | refine XK.inF rfl ?_))
          refine XK.ret ?_
          (repeat (first | refine XK.thenN ?_ | refine XK.thenE ?_ | refine XK.thenR ?_ | refine XK.inN ?_ | refine XK.inE ?_ | refine XK.inR ?_ | refine XK.inF rfl ?_))
          exact XK.ret1 rfl rfl fun w1 st => ⟨rfl, st.below (by simp)⟩

end Go.Proofs.Ytbgibbbggajgaaa
