/- PlanApplies: what is wished behind any step is as the chapter says. -/
import Derived.Test.YtbgibbbggajgaaaLaw17
namespace Go.Proofs.Ytbgibbbggajgaaa
set_option linter.all false
open Go.RowKit

set_option maxHeartbeats 1000000 in
theorem planApplies_any (A : Option Addr) (n c : Nat) (zs : List Int) (raw : Int) (p : Stp) (w : World) (h0 : SlS (all w) 1 A n (intCells zs)) (hz : I64s zs) (hn : n = zs.length) (hn2 : n ≤ 9223372036854775807) (hraw : -9223372036854775808 ≤ raw ∧ raw ≤ 9223372036854775807) (hp : p.ok) :
    Calls Try.prog 6 #[.slice A n c, .int .i64 raw, .agg #[.int .i64 p.pr, .int .i64 p.msg, .int .u32 p.id, .int .u32 p.v]] w (Rt (.bool true) w) := by
  refine XK.enter (vs := [.slice A n c, .int .i64 raw, .agg #[.int .i64 p.pr, .int .i64 p.msg, .int .u32 p.id, .int .u32 p.v]]) Try.func6 rfl Try.ntmps6 (by simp) ?_
  refine XK.seq ?_

  refine XK.region ?_
  refine xk_box rfl (by decide) fun g1 => ?_
  refine xk_assign rfl (by decide) ?_
  refine XK.nil ?_
  (repeat (first | refine XK.thenN ?_ | refine XK.thenE ?_ | refine XK.thenR ?_ | refine XK.inN ?_ | refine XK.inE ?_ | refine XK.inR ?_ | refine XK.inF rfl ?_))
  refine XK.seq ?_

  refine XK.region ?_
  refine xk_callR (f := 17) (fi := []) (ca := []) (by kernel_rfl) rfl rfl (by decide) (fun w1 st => shown17_any w1) ?_
  refine xk_assign rfl (by decide) ?_
  refine XK.nil ?_
  (repeat (first | refine XK.thenN ?_ | refine XK.thenE ?_ | refine XK.thenR ?_ | refine XK.inN ?_ | refine XK.inE ?_ | refine XK.inR ?_ | refine XK.inF rfl ?_))
  refine XK.seq ?_

  refine XK.region ?_
  refine xk_move rfl (by decide) ?_
  refine xk_call [] (f := 18) (fi := []) (ca := []) (by kernel_rfl) rfl rfl (by decide) (by simp) (fun v w w' => ∃ cs s, v = .agg cs ∧ SocR (slq (fresh w w')) s cs ∧ s.made) (fun w1 st => chip17_any A n c zs w1 (h0.le (st.le (by simp))) hz hn hn2) ?_
  rintro _ w1 q1 ⟨cs, s, rfl, hS, hm⟩ hf _ _
  obtain ⟨A1, n1, k1, A2, n2, k2, A3, n3, k3, A4, n4, k4, rfl, hSP⟩ := (hS.mono (slq_le hf)).P
  obtain ⟨rfl, rfl, rfl, rfl⟩ := hSP.len
  clear hf hS
  refine xk_alloc (cs := [.slice none 0 0, .slice none 0 0, .slice none 0 0, .slice none 0 0]) (zeroB_of (by kernel_rfl)) (by decide) fun g2 => ?_
  (first | (refine xk_storeN 0 rfl rfl rfl (by kernel_rfl) (by simp [Value.cells, Value.oneCell']) (by simp [Value.cells]) ?_) | (refine xk_storeN 1 rfl rfl rfl (by kernel_rfl) (by simp [Value.cells, Value.oneCell']) (by simp [Value.cells]) ?_) | (refine xk_storeN 2 rfl rfl rfl (by kernel_rfl) (by simp [Value.cells, Value.oneCell']) (by simp [Value.cells]) ?_) | (refine xk_storeN 3 rfl rfl rfl (by kernel_rfl) (by simp [Value.cells, Value.oneCell']) (by simp [Value.cells]) ?_) | (refine xk_storeN 4 rfl rfl rfl (by kernel_rfl) (by simp [Value.cells, Value.oneCell']) (by simp [Value.cells]) ?_) | (refine xk_storeN 5 rfl rfl rfl (by kernel_rfl) (by simp [Value.cells, Value.oneCell']) (by simp [Value.cells]) ?_) | (refine xk_storeN 6 rfl rfl rfl (by kernel_rfl) (by simp [Value.cells, Value.oneCell']) (by simp [Value.cells]) ?_) | (refine xk_storeN 7 rfl rfl rfl (by kernel_rfl) (by simp [Value.cells, Value.oneCell']) (by simp [Value.cells]) ?_) | (refine xk_storeN 8 rfl rfl rfl (by kernel_rfl) (by simp [Value.cells, Value.oneCell']) (by simp [Value.cells]) ?_)); simp only [putN, Value.cells, List.set, List.take, List.drop, List.nil_append, List.append_nil, List.length_cons, List.length_nil, List.cons_append, Nat.reduceAdd]
  refine XK.nil ?_
  (repeat (first | refine XK.thenN ?_ | refine XK.thenE ?_ | refine XK.thenR ?_ | refine XK.inN ?_ | refine XK.inE ?_ | refine XK.inR ?_ | refine XK.inF rfl ?_))
  refine XK.seq ?_
  refine XK.seq ?_

  refine XK.region ?_
  refine xk_move rfl (by decide) ?_
  (first | refine xk_notD rfl (by decide) ?_ | refine xk_not rfl (by decide) ?_)
  refine XK.nil ?_
  (repeat (first | refine XK.thenN ?_ | refine XK.thenE ?_ | refine XK.thenR ?_ | refine XK.inN ?_ | refine XK.inE ?_ | refine XK.inR ?_ | refine XK.inF rfl ?_))
  refine XK.cond rfl (fun h => by cases h) (fun h => ?_)

  ·
    refine XK.skip ?_
    (repeat (first | refine XK.thenN ?_ | refine XK.thenE ?_ | refine XK.thenR ?_ | refine XK.inN ?_ | refine XK.inE ?_ | refine XK.inR ?_ | refine XK.inF rfl ?_))
    refine XK.seq ?_

    refine XK.region ?_
    refine xk_loadN 4 (by kernel_rfl) rfl (by first | assumption | exact RdN.whole 0 rfl | exact RdN.whole 1 rfl | exact RdN.whole 2 rfl | exact RdN.whole 3 rfl | exact RdN.whole 4 rfl | exact RdN.whole 5 rfl | exact RdN.whole 6 rfl | exact RdN.whole 7 rfl | exact RdN.whole 8 rfl | exact RdN.roc (by simp) (by assumption)) rfl (by decide) ?_
    refine xk_move rfl (by decide) ?_
    refine xk_call [] (f := 20) (fi := []) (ca := []) (by kernel_rfl) rfl rfl (by decide) (by simp) (WishOk (someW s.clocks.length s.domains.length s.resets.length raw)) (fun w1 st => some17_any A1 A2 A3 A4 s.clocks.length k1 s.domains.length k2 s.resets.length k3 s.devs.length k4 raw w1 hraw (by have := hm.nc; omega) (by have := hm.nd; omega) (by have := hm.nr; omega)) ?_
    rintro _ w1 q2 hx hf _ _
    have hx := WshR.le hx hf
    have hsmx := someW_sm hm raw
    generalize hgxx : someW s.clocks.length s.domains.length s.resets.length raw = x at *
    obtain ⟨B1, mB1, B2, mB2, B3, mB3, rfl, e1, e2, e3⟩ := hx
    have hx : WshR q2 x _ := ⟨B1, mB1, B2, mB2, B3, mB3, rfl, e1, e2, e3⟩
    clear hf e1 e2 e3
    refine xk_alloc (cs := [.slice none 0 0, .slice none 0 0, .slice none 0 0]) (zeroB_of (by kernel_rfl)) (by decide) fun g3 => ?_
    (first | (refine xk_storeN 0 rfl rfl rfl (by kernel_rfl) (by simp [Value.cells, Value.oneCell']) (by simp [Value.cells]) ?_) | (refine xk_storeN 1 rfl rfl rfl (by kernel_rfl) (by simp [Value.cells, Value.oneCell']) (by simp [Value.cells]) ?_) | (refine xk_storeN 2 rfl rfl rfl (by kernel_rfl) (by simp [Value.cells, Value.oneCell']) (by simp [Value.cells]) ?_) | (refine xk_storeN 3 rfl rfl rfl (by kernel_rfl) (by simp [Value.cells, Value.oneCell']) (by simp [Value.cells]) ?_) | (refine xk_storeN 4 rfl rfl rfl (by kernel_rfl) (by simp [Value.cells, Value.oneCell']) (by simp [Value.cells]) ?_) | (refine xk_storeN 5 rfl rfl rfl (by kernel_rfl) (by simp [Value.cells, Value.oneCell']) (by simp [Value.cells]) ?_) | (refine xk_storeN 6 rfl rfl rfl (by kernel_rfl) (by simp [Value.cells, Value.oneCell']) (by simp [Value.cells]) ?_) | (refine xk_storeN 7 rfl rfl rfl (by kernel_rfl) (by simp [Value.cells, Value.oneCell']) (by simp [Value.cells]) ?_) | (refine xk_storeN 8 rfl rfl rfl (by kernel_rfl) (by simp [Value.cells, Value.oneCell']) (by simp [Value.cells]) ?_)); simp only [putN, Value.cells, List.set, List.take, List.drop, List.nil_append, List.append_nil, List.length_cons, List.length_nil, List.cons_append, Nat.reduceAdd]
    refine XK.nil ?_
    (repeat (first | refine XK.thenN ?_ | refine XK.thenE ?_ | refine XK.thenR ?_ | refine XK.inN ?_ | refine XK.inE ?_ | refine XK.inR ?_ | refine XK.inF rfl ?_))
    refine XK.seq ?_

    refine XK.region ?_
    refine xk_loadN 4 (by kernel_rfl) rfl (by first | assumption | exact RdN.whole 0 rfl | exact RdN.whole 1 rfl | exact RdN.whole 2 rfl | exact RdN.whole 3 rfl | exact RdN.whole 4 rfl | exact RdN.whole 5 rfl | exact RdN.whole 6 rfl | exact RdN.whole 7 rfl | exact RdN.whole 8 rfl | exact RdN.roc (by simp) (by assumption)) rfl (by decide) ?_
    refine xk_move rfl (by decide) ?_
    refine xk_call [] (f := 20) (fi := []) (ca := []) (by kernel_rfl) rfl rfl (by decide) (by simp) (WishOk x) (fun w1 st => hgxx ▸ some17_any A1 A2 A3 A4 s.clocks.length k1 s.domains.length k2 s.resets.length k3 s.devs.length k4 raw w1 hraw (by have := hm.nc; omega) (by have := hm.nd; omega) (by have := hm.nr; omega)) ?_
    rintro _ w1 q3 hy hf _ _
    have hy := WshR.le hy hf
    obtain ⟨C1, c1, C2, c2, C3, c3, rfl, e1, e2, e3⟩ := hy
    have hy : WshR q3 x _ := ⟨C1, c1, C2, c2, C3, c3, rfl, e1, e2, e3⟩
    clear hf e1 e2 e3
    refine xk_alloc (cs := [.slice none 0 0, .slice none 0 0, .slice none 0 0]) (zeroB_of (by kernel_rfl)) (by decide) fun g4 => ?_
    (first | (refine xk_storeN 0 rfl rfl rfl (by kernel_rfl) (by simp [Value.cells, Value.oneCell']) (by simp [Value.cells]) ?_) | (refine xk_storeN 1 rfl rfl rfl (by kernel_rfl) (by simp [Value.cells, Value.oneCell']) (by simp [Value.cells]) ?_) | (refine xk_storeN 2 rfl rfl rfl (by kernel_rfl) (by simp [Value.cells, Value.oneCell']) (by simp [Value.cells]) ?_) | (refine xk_storeN 3 rfl rfl rfl (by kernel_rfl) (by simp [Value.cells, Value.oneCell']) (by simp [Value.cells]) ?_) | (refine xk_storeN 4 rfl rfl rfl (by kernel_rfl) (by simp [Value.cells, Value.oneCell']) (by simp [Value.cells]) ?_) | (refine xk_storeN 5 rfl rfl rfl (by kernel_rfl) (by simp [Value.cells, Value.oneCell']) (by simp [Value.cells]) ?_) | (refine xk_storeN 6 rfl rfl rfl (by kernel_rfl) (by simp [Value.cells, Value.oneCell']) (by simp [Value.cells]) ?_) | (refine xk_storeN 7 rfl rfl rfl (by kernel_rfl) (by simp [Value.cells, Value.oneCell']) (by simp [Value.cells]) ?_) | (refine xk_storeN 8 rfl rfl rfl (by kernel_rfl) (by simp [Value.cells, Value.oneCell']) (by simp [Value.cells]) ?_)); simp only [putN, Value.cells, List.set, List.take, List.drop, List.nil_append, List.append_nil, List.length_cons, List.length_nil, List.cons_append, Nat.reduceAdd]
    refine XK.nil ?_
    (repeat (first | refine XK.thenN ?_ | refine XK.thenE ?_ | refine XK.thenR ?_ | refine XK.inN ?_ | refine XK.inE ?_ | refine XK.inR ?_ | refine XK.inF rfl ?_))
    refine XK.seq ?_

    refine XK.region ?_
    refine xk_field (off := 0) (by kernel_rfl) rfl (by decide) ?_
    refine xk_load (by kernel_rfl) rfl (by first | assumption | exact Rd.blk 0 rfl rfl | exact Rd.blk 1 rfl rfl | exact Rd.blk 2 rfl rfl | exact Rd.blk 3 rfl rfl | exact Rd.blk 4 rfl rfl | exact Rd.blk 5 rfl rfl | exact Rd.blk 6 rfl rfl | exact Rd.blk 7 rfl rfl | exact Rd.blk 8 rfl rfl | exact Rd.roc (by simp) (by assumption) | (apply Rd.rocN (by simp); assumption; rfl)) (by decide) ?_
    refine xk_field (off := 1) (by kernel_rfl) rfl (by decide) ?_
    refine xk_load (by kernel_rfl) rfl (by first | assumption | exact Rd.blk 0 rfl rfl | exact Rd.blk 1 rfl rfl | exact Rd.blk 2 rfl rfl | exact Rd.blk 3 rfl rfl | exact Rd.blk 4 rfl rfl | exact Rd.blk 5 rfl rfl | exact Rd.blk 6 rfl rfl | exact Rd.blk 7 rfl rfl | exact Rd.blk 8 rfl rfl | exact Rd.roc (by simp) (by assumption) | (apply Rd.rocN (by simp); assumption; rfl)) (by decide) ?_
    refine xk_field (off := 2) (by kernel_rfl) rfl (by decide) ?_
    refine xk_load (by kernel_rfl) rfl (by first | assumption | exact Rd.blk 0 rfl rfl | exact Rd.blk 1 rfl rfl | exact Rd.blk 2 rfl rfl | exact Rd.blk 3 rfl rfl | exact Rd.blk 4 rfl rfl | exact Rd.blk 5 rfl rfl | exact Rd.blk 6 rfl rfl | exact Rd.blk 7 rfl rfl | exact Rd.blk 8 rfl rfl | exact Rd.roc (by simp) (by assumption) | (apply Rd.rocN (by simp); assumption; rfl)) (by decide) ?_
    refine xk_field (off := 3) (by kernel_rfl) rfl (by decide) ?_
    refine xk_load (by kernel_rfl) rfl (by first | assumption | exact Rd.blk 0 rfl rfl | exact Rd.blk 1 rfl rfl | exact Rd.blk 2 rfl rfl | exact Rd.blk 3 rfl rfl | exact Rd.blk 4 rfl rfl | exact Rd.blk 5 rfl rfl | exact Rd.blk 6 rfl rfl | exact Rd.blk 7 rfl rfl | exact Rd.blk 8 rfl rfl | exact Rd.roc (by simp) (by assumption) | (apply Rd.rocN (by simp); assumption; rfl)) (by decide) ?_
    refine xk_buildS (zs := [.int .i64 0, .int .i64 0, .int .u32 0, .int .u32 0]) (L := [(0, 1), (1, 1), (2, 1), (3, 1)]) (zeroB_of (by kernel_rfl)) (by kernel_rfl) rfl (by simp [fillL, setN, Value.cells]; rfl) (by decide) ?_
    refine xk_alloc (cs := [.int .i64 0, .int .i64 0, .int .u32 0, .int .u32 0]) (zeroB_of (by kernel_rfl)) (by decide) fun g5 => ?_
    (first | (refine xk_storeN 0 rfl rfl rfl (by kernel_rfl) (by simp [Value.cells, Value.oneCell']) (by simp [Value.cells]) ?_) | (refine xk_storeN 1 rfl rfl rfl (by kernel_rfl) (by simp [Value.cells, Value.oneCell']) (by simp [Value.cells]) ?_) | (refine xk_storeN 2 rfl rfl rfl (by kernel_rfl) (by simp [Value.cells, Value.oneCell']) (by simp [Value.cells]) ?_) | (refine xk_storeN 3 rfl rfl rfl (by kernel_rfl) (by simp [Value.cells, Value.oneCell']) (by simp [Value.cells]) ?_) | (refine xk_storeN 4 rfl rfl rfl (by kernel_rfl) (by simp [Value.cells, Value.oneCell']) (by simp [Value.cells]) ?_) | (refine xk_storeN 5 rfl rfl rfl (by kernel_rfl) (by simp [Value.cells, Value.oneCell']) (by simp [Value.cells]) ?_) | (refine xk_storeN 6 rfl rfl rfl (by kernel_rfl) (by simp [Value.cells, Value.oneCell']) (by simp [Value.cells]) ?_) | (refine xk_storeN 7 rfl rfl rfl (by kernel_rfl) (by simp [Value.cells, Value.oneCell']) (by simp [Value.cells]) ?_) | (refine xk_storeN 8 rfl rfl rfl (by kernel_rfl) (by simp [Value.cells, Value.oneCell']) (by simp [Value.cells]) ?_)); simp only [putN, Value.cells, List.set, List.take, List.drop, List.nil_append, List.append_nil, List.length_cons, List.length_nil, List.cons_append, Nat.reduceAdd]
    refine XK.nil ?_
    (repeat (first | refine XK.thenN ?_ | refine XK.thenE ?_ | refine XK.thenR ?_ | refine XK.inN ?_ | refine XK.inE ?_ | refine XK.inR ?_ | refine XK.inF rfl ?_))
    refine XK.seq ?_

    refine XK.region ?_
    refine xk_loadN 3 (by kernel_rfl) rfl (by first | assumption | exact RdN.whole 0 rfl | exact RdN.whole 1 rfl | exact RdN.whole 2 rfl | exact RdN.whole 3 rfl | exact RdN.whole 4 rfl | exact RdN.whole 5 rfl | exact RdN.whole 6 rfl | exact RdN.whole 7 rfl | exact RdN.whole 8 rfl | exact RdN.roc (by simp) (by assumption)) rfl (by decide) ?_
    refine xk_loadN 4 (by kernel_rfl) rfl (by first | assumption | exact RdN.whole 0 rfl | exact RdN.whole 1 rfl | exact RdN.whole 2 rfl | exact RdN.whole 3 rfl | exact RdN.whole 4 rfl | exact RdN.whole 5 rfl | exact RdN.whole 6 rfl | exact RdN.whole 7 rfl | exact RdN.whole 8 rfl | exact RdN.roc (by simp) (by assumption)) rfl (by decide) ?_
    refine xk_call [] (f := 22) (fi := []) (ca := []) (by kernel_rfl) rfl rfl (by decide) (by simp) (WishOk (applyW x p)) (fun w1 st => apply_any _ x p w1 (hx.le (st.le (by simp))) hsmx hp) ?_
    rintro _ w1 q4 hu hf _ _
    have hu := WshR.le hu hf
    have hsmu := applyW_sm hsmx p
    generalize hgu : applyW x p = u at *
    obtain ⟨D1, d1, D2, d2, D3, d3, rfl, e1, e2, e3⟩ := hu
    have hu : WshR q4 u _ := ⟨D1, d1, D2, d2, D3, d3, rfl, e1, e2, e3⟩
    clear hf e1 e2 e3
    refine xk_alloc (cs := [.slice none 0 0, .slice none 0 0, .slice none 0 0]) (zeroB_of (by kernel_rfl)) (by decide) fun g6 => ?_
    (first | (refine xk_storeN 0 rfl rfl rfl (by kernel_rfl) (by simp [Value.cells, Value.oneCell']) (by simp [Value.cells]) ?_) | (refine xk_storeN 1 rfl rfl rfl (by kernel_rfl) (by simp [Value.cells, Value.oneCell']) (by simp [Value.cells]) ?_) | (refine xk_storeN 2 rfl rfl rfl (by kernel_rfl) (by simp [Value.cells, Value.oneCell']) (by simp [Value.cells]) ?_) | (refine xk_storeN 3 rfl rfl rfl (by kernel_rfl) (by simp [Value.cells, Value.oneCell']) (by simp [Value.cells]) ?_) | (refine xk_storeN 4 rfl rfl rfl (by kernel_rfl) (by simp [Value.cells, Value.oneCell']) (by simp [Value.cells]) ?_) | (refine xk_storeN 5 rfl rfl rfl (by kernel_rfl) (by simp [Value.cells, Value.oneCell']) (by simp [Value.cells]) ?_) | (refine xk_storeN 6 rfl rfl rfl (by kernel_rfl) (by simp [Value.cells, Value.oneCell']) (by simp [Value.cells]) ?_) | (refine xk_storeN 7 rfl rfl rfl (by kernel_rfl) (by simp [Value.cells, Value.oneCell']) (by simp [Value.cells]) ?_) | (refine xk_storeN 8 rfl rfl rfl (by kernel_rfl) (by simp [Value.cells, Value.oneCell']) (by simp [Value.cells]) ?_)); simp only [putN, Value.cells, List.set, List.take, List.drop, List.nil_append, List.append_nil, List.length_cons, List.length_nil, List.cons_append, Nat.reduceAdd]
    refine XK.nil ?_
    (repeat (first | refine XK.thenN ?_ | refine XK.thenE ?_ | refine XK.thenR ?_ | refine XK.inN ?_ | refine XK.inE ?_ | refine XK.inR ?_ | refine XK.inF rfl ?_))
    refine XK.seq ?_

    refine XK.draw 10 (by kernel_rfl) (by kernel_rfl) ?_
    refine XA.do_ 0 rfl rfl rfl (by decide) (does_loadN 3 (by kernel_rfl) rfl (by first | assumption | exact RdN.whole 0 rfl | exact RdN.whole 1 rfl | exact RdN.whole 2 rfl | exact RdN.whole 3 rfl | exact RdN.whole 4 rfl | exact RdN.whole 5 rfl | exact RdN.whole 6 rfl | exact RdN.whole 7 rfl | exact RdN.whole 8 rfl | exact RdN.roc (by simp) (by assumption)) rfl) (by kernel_rfl) (fun _ _ _ h => h) (by first | exact fun _ h => h | exact fun _ h => h.tail | exact fun _ h => h.tailR | exact fun _ h => h.tail.tail | exact fun _ h => h.tailR.tail | exact fun _ h => h.tailR.tailR) ?_
    refine XA.do_ 1 rfl rfl rfl (by decide) (does_loadN 3 (by kernel_rfl) rfl (by first | assumption | exact RdN.whole 0 rfl | exact RdN.whole 1 rfl | exact RdN.whole 2 rfl | exact RdN.whole 3 rfl | exact RdN.whole 4 rfl | exact RdN.whole 5 rfl | exact RdN.whole 6 rfl | exact RdN.whole 7 rfl | exact RdN.whole 8 rfl | exact RdN.roc (by simp) (by assumption)) rfl) (by kernel_rfl) (fun _ _ _ h => h) (by first | exact fun _ h => h | exact fun _ h => h.tail | exact fun _ h => h.tailR | exact fun _ h => h.tail.tail | exact fun _ h => h.tailR.tail | exact fun _ h => h.tailR.tailR) ?_
    refine XA.do_ 3 rfl rfl rfl (by decide) (does_loadN 4 (by kernel_rfl) rfl (by first | assumption | exact RdN.whole 0 rfl | exact RdN.whole 1 rfl | exact RdN.whole 2 rfl | exact RdN.whole 3 rfl | exact RdN.whole 4 rfl | exact RdN.whole 5 rfl | exact RdN.whole 6 rfl | exact RdN.whole 7 rfl | exact RdN.whole 8 rfl | exact RdN.roc (by simp) (by assumption)) rfl) (by kernel_rfl) (fun _ _ _ h => h) (by first | exact fun _ h => h | exact fun _ h => h.tail | exact fun _ h => h.tailR | exact fun _ h => h.tail.tail | exact fun _ h => h.tailR.tail | exact fun _ h => h.tailR.tailR) ?_
    refine XA.next 2 rfl (by kernel_rfl) ?_
    refine xk_callR (f := 26) (fi := []) (ca := []) (by kernel_rfl) rfl rfl (by decide) (fun w1 st => as17_any B1 B2 B3 _ mB1 _ mB2 _ mB3 w1) ?_
    refine XK.nil ?_; refine XK.thenN ?_; refine XA.back (by first | exact fun _ h => h | exact fun _ h => h.tail | exact fun _ h => h.tailR | exact fun _ h => h.tail.tail | exact fun _ h => h.tailR.tail | exact fun _ h => h.tailR.tailR) ?_
    refine XA.next 4 rfl (by kernel_rfl) ?_
    refine xk_call [q2] (f := 25) (fi := []) (ca := []) (by kernel_rfl) rfl rfl (by decide) (by simp) (WishOkP q2 u) (fun w1 st => hgu ▸ refApply_any q2 _ x p w1 (st.le (by simp)) hx hsmx hp) ?_
    rintro _ w1 q5 hv hf L5 _
    have hv := hv q5 (L5 q2 (by simp)) hf
    obtain ⟨E1, f1, E2, f2, E3, f3, rfl, e1, e2, e3⟩ := hv
    have hv : WshR q5 u _ := ⟨E1, f1, E2, f2, E3, f3, rfl, e1, e2, e3⟩
    clear hf e1 e2 e3 L5
    refine XK.nil ?_; refine XK.thenN ?_; refine XA.back (by first | exact fun _ h => h | exact fun _ h => h.tail | exact fun _ h => h.tailR | exact fun _ h => h.tail.tail | exact fun _ h => h.tailR.tail | exact fun _ h => h.tailR.tailR) ?_
    refine XA.next 5 rfl (by kernel_rfl) ?_
    refine xk_callR (f := 24) (fi := []) (ca := []) (by kernel_rfl) rfl rfl (by decide) (fun w1 st => of17_any E1 E2 E3 _ f1 _ f2 _ f3 w1) ?_
    refine XK.nil ?_; refine XK.thenN ?_; refine XA.back (by first | exact fun _ h => h | exact fun _ h => h.tail | exact fun _ h => h.tailR | exact fun _ h => h.tail.tail | exact fun _ h => h.tailR.tail | exact fun _ h => h.tailR.tailR) ?_
    refine XA.next 6 rfl (by kernel_rfl) ?_
    refine xk_callR (f := 23) (fi := []) (ca := []) (by kernel_rfl) rfl rfl (by decide) (fun w1 st => alike17_any _ _ u u w1 (hu.le (st.le (by simp))) (hv.le (st.le (by simp))) hsmu hsmu) ?_
    rw [Wsh.same_self]
    refine XK.nil ?_; refine XK.thenN ?_; refine XA.back (by first | exact fun _ h => h | exact fun _ h => h.tail | exact fun _ h => h.tailR | exact fun _ h => h.tail.tail | exact fun _ h => h.tailR.tail | exact fun _ h => h.tailR.tailR) ?_
    refine XA.do_ 7 rfl rfl rfl (by decide) (does_move rfl) (by kernel_rfl) (fun _ _ _ h => h) (by first | exact fun _ h => h | exact fun _ h => h.tail | exact fun _ h => h.tailR | exact fun _ h => h.tail.tail | exact fun _ h => h.tailR.tail | exact fun _ h => h.tailR.tailR) ?_
    refine XA.either 8 9 rfl rfl (by kernel_rfl) ?_ ?_
    · refine xk_guardT rfl rfl ?_; refine xk_loadN 3 (by kernel_rfl) rfl (by first | assumption | exact RdN.whole 0 rfl | exact RdN.whole 1 rfl | exact RdN.whole 2 rfl | exact RdN.whole 3 rfl | exact RdN.whole 4 rfl | exact RdN.whole 5 rfl | exact RdN.whole 6 rfl | exact RdN.whole 7 rfl | exact RdN.whole 8 rfl | exact RdN.roc (by simp) (by assumption)) rfl (by decide) ?_
      refine XK.nil ?_; refine XK.thenN ?_; refine XA.back (by first | exact fun _ h => h | exact fun _ h => h.tail | exact fun _ h => h.tailR | exact fun _ h => h.tail.tail | exact fun _ h => h.tailR.tail | exact fun _ h => h.tailR.tailR) ?_
      refine XA.next 9 rfl (by kernel_rfl) ?_
      refine xk_guardT rfl rfl ?_; refine xk_loadN 3 (by kernel_rfl) rfl (by first | assumption | exact RdN.whole 0 rfl | exact RdN.whole 1 rfl | exact RdN.whole 2 rfl | exact RdN.whole 3 rfl | exact RdN.whole 4 rfl | exact RdN.whole 5 rfl | exact RdN.whole 6 rfl | exact RdN.whole 7 rfl | exact RdN.whole 8 rfl | exact RdN.roc (by simp) (by assumption)) rfl (by decide) ?_
      refine XK.nil ?_; refine XK.thenN ?_; refine XA.back (by first | exact fun _ h => h | exact fun _ h => h.tail | exact fun _ h => h.tailR | exact fun _ h => h.tail.tail | exact fun _ h => h.tailR.tail | exact fun _ h => h.tailR.tailR) ?_
      refine XA.next 10 rfl (by kernel_rfl) ?_
      refine xk_guardT rfl rfl ?_; refine xk_callR (f := 23) (fi := []) (ca := []) (by kernel_rfl) rfl rfl (by decide) (fun w1 st => alike17_any _ _ x x w1 (hx.le (st.le (by simp))) (hy.le (st.le (by simp))) hsmx hsmx) ?_
      rw [Wsh.same_self]
      refine XK.nil ?_; refine XK.thenN ?_; refine XA.backT rfl ?_
      refine XA.next 11 rfl (by kernel_rfl) ?_
      (first | refine xk_pickT rfl rfl (by decide) ?_ | refine xk_pickF rfl rfl (by decide) ?_)
      refine XK.nil ?_; refine XK.thenN ?_; refine XA.backT rfl ?_
      refine XA.next 12 rfl (by kernel_rfl) ?_
      refine xk_assign rfl (by decide) ?_
      refine XK.nil ?_; refine XK.thenN ?_; refine XA.backT rfl ?_
      refine XA.done (by kernel_rfl) ?_
      (repeat (first | refine XK.thenN ?_ | refine XK.thenE ?_ | refine XK.thenR ?_ | refine XK.inN ?_ | refine XK.inE ?_ | refine XK.inR ?_ | refine XK.inF rfl ?_))
      refine XK.ret ?_
      (repeat (first | refine XK.thenN ?_ | refine XK.thenE ?_ | refine XK.thenR ?_ | refine XK.inN ?_ | refine XK.inE ?_ | refine XK.inR ?_ | refine XK.inF rfl ?_))
      exact XK.ret1 rfl rfl fun w1 st => ⟨rfl, st.below (by simp)⟩
    · refine xk_guardT rfl rfl ?_; refine xk_loadN 3 (by kernel_rfl) rfl (by first | assumption | exact RdN.whole 0 rfl | exact RdN.whole 1 rfl | exact RdN.whole 2 rfl | exact RdN.whole 3 rfl | exact RdN.whole 4 rfl | exact RdN.whole 5 rfl | exact RdN.whole 6 rfl | exact RdN.whole 7 rfl | exact RdN.whole 8 rfl | exact RdN.roc (by simp) (by assumption)) rfl (by decide) ?_
      refine XK.nil ?_; refine XK.thenN ?_; refine XA.back (by first | exact fun _ h => h | exact fun _ h => h.tail | exact fun _ h => h.tailR | exact fun _ h => h.tail.tail | exact fun _ h => h.tailR.tail | exact fun _ h => h.tailR.tailR) ?_
      refine XA.next 8 rfl (by kernel_rfl) ?_
      refine xk_guardT rfl rfl ?_; refine xk_loadN 3 (by kernel_rfl) rfl (by first | assumption | exact RdN.whole 0 rfl | exact RdN.whole 1 rfl | exact RdN.whole 2 rfl | exact RdN.whole 3 rfl | exact RdN.whole 4 rfl | exact RdN.whole 5 rfl | exact RdN.whole 6 rfl | exact RdN.whole 7 rfl | exact RdN.whole 8 rfl | exact RdN.roc (by simp) (by assumption)) rfl (by decide) ?_
      refine XK.nil ?_; refine XK.thenN ?_; refine XA.back (by first | exact fun _ h => h | exact fun _ h => h.tail | exact fun _ h => h.tailR | exact fun _ h => h.tail.tail | exact fun _ h => h.tailR.tail | exact fun _ h => h.tailR.tailR) ?_
      refine XA.next 10 rfl (by kernel_rfl) ?_
      refine xk_guardT rfl rfl ?_; refine xk_callR (f := 23) (fi := []) (ca := []) (by kernel_rfl) rfl rfl (by decide) (fun w1 st => alike17_any _ _ x x w1 (hx.le (st.le (by simp))) (hy.le (st.le (by simp))) hsmx hsmx) ?_
      rw [Wsh.same_self]
      refine XK.nil ?_; refine XK.thenN ?_; refine XA.backT rfl ?_
      refine XA.next 11 rfl (by kernel_rfl) ?_
      (first | refine xk_pickT rfl rfl (by decide) ?_ | refine xk_pickF rfl rfl (by decide) ?_)
      refine XK.nil ?_; refine XK.thenN ?_; refine XA.backT rfl ?_
      refine XA.next 12 rfl (by kernel_rfl) ?_
      refine xk_assign rfl (by decide) ?_
      refine XK.nil ?_; refine XK.thenN ?_; refine XA.backT rfl ?_
      refine XA.done (by kernel_rfl) ?_
      (repeat (first | refine XK.thenN ?_ | refine XK.thenE ?_ | refine XK.thenR ?_ | refine XK.inN ?_ | refine XK.inE ?_ | refine XK.inR ?_ | refine XK.inF rfl ?_))
      refine XK.ret ?_
      (repeat (first | refine XK.thenN ?_ | refine XK.thenE ?_ | refine XK.thenR ?_ | refine XK.inN ?_ | refine XK.inE ?_ | refine XK.inR ?_ | refine XK.inF rfl ?_))
      exact XK.ret1 rfl rfl fun w1 st => ⟨rfl, st.below (by simp)⟩

end Go.Proofs.Ytbgibbbggajgaaa
