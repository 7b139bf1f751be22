/- PlanGoes: a plan's steps, sent one by one, have success, and lead there. -/
import Derived.Test.YtbgibbbggajgaaaPlanGoesK6
namespace Go.Proofs.Ytbgibbbggajgaaa
set_option linter.all false
open Go.RowKit
theorem wantsG (q : Piece) (s : Soc) (A1 A2 A3 A4 : Option Addr) (n1 k1 n2 k2 n3 k3 n4 k4 : Nat) (Aa : Option Addr) (na ca : Nat) (act : List Bool) (w : World) (hSP : SocP q s A1 n1 A2 n2 A3 n3 A4 n4) (hm : s.made) (hq : q.Le (all w)) (hact : SlS (all w) 1 Aa na (boolCells act)) (hna : na = act.length) :
    Calls Try.prog 28 #[.agg #[.slice A1 n1 k1, .slice A2 n2 k2, .slice A3 n3 k3, .slice A4 n4 k4], .slice Aa na ca] w (RtW (WishOk (wants s act)) w) := by
  subst hna
  exact wants_any q s A1 A2 A3 A4 n1 k1 n2 k2 n3 k3 n4 k4 Aa ca act w hSP hm hq hact

set_option maxHeartbeats 2000000 in
theorem goes_any (A : Option Addr) (n c : Nat) (zs : List Int) (ra rb : Int) (w : World) (h0 : SlS (all w) 1 A n (intCells zs)) (hz : I64s zs) (hn : n = zs.length) (hn2 : n ≤ 9223372036854775807) (hra : -9223372036854775808 ≤ ra ∧ ra ≤ 9223372036854775807) (hrb : -9223372036854775808 ≤ rb ∧ rb ≤ 9223372036854775807) :
    Calls Try.prog 11 #[.slice A n c, .int .i64 ra, .int .i64 rb] w (Rt (.bool true) w) := by
  refine XK.enter (vs := [.slice A n c, .int .i64 ra, .int .i64 rb]) Try.func11 rfl Try.ntmps11 (by simp) ?_
  refine XK.seq ?_

  refine XK.region ?_
  refine xk_assign rfl (by decide) ?_
  refine XK.nilN ?_
  refine XK.seq ?_

  refine XK.region ?_
  refine xk_callR (f := 17) (fi := []) (ca := []) (by kernel_rfl) rfl rfl (by decide) (fun w1 st => shown17_any w1) ?_
  refine xk_assign rfl (by decide) ?_
  refine XK.nilN ?_
  refine XK.seq ?_

  refine XK.region ?_
  refine xk_move rfl (by decide) ?_
  refine xk_call [] (f := 18) (fi := []) (ca := []) (by kernel_rfl) rfl rfl (by decide) (by simp) (fun v w w' => ∃ cs s, v = .agg cs ∧ SocR (slq (fresh w w')) s cs ∧ s.made) (fun w1 st => chip17_any A n c zs w1 (h0.le (st.le (by simp))) hz hn hn2) ?_
  rintro _ w1 q1 ⟨cs, s, rfl, hS, hm⟩ hf _ _
  obtain ⟨A1, n1, k1, A2, n2, k2, A3, n3, k3, A4, n4, k4, rfl, hSP⟩ := (hS.mono (slq_le hf)).P
  obtain ⟨rfl, rfl, rfl, rfl⟩ := hSP.len
  clear hf hS
  refine xk_alloc (cs := [.slice none 0 0, .slice none 0 0, .slice none 0 0, .slice none 0 0]) (zeroB_of (by kernel_rfl)) (by decide) fun g1 => ?_
  (first | (refine xk_storeN 0 rfl rfl rfl (by kernel_rfl) (by simp [Value.cells, Value.oneCell']) (by simp [Value.cells]) ?_) | (refine xk_storeN 1 rfl rfl rfl (by kernel_rfl) (by simp [Value.cells, Value.oneCell']) (by simp [Value.cells]) ?_) | (refine xk_storeN 2 rfl rfl rfl (by kernel_rfl) (by simp [Value.cells, Value.oneCell']) (by simp [Value.cells]) ?_) | (refine xk_storeN 3 rfl rfl rfl (by kernel_rfl) (by simp [Value.cells, Value.oneCell']) (by simp [Value.cells]) ?_) | (refine xk_storeN 4 rfl rfl rfl (by kernel_rfl) (by simp [Value.cells, Value.oneCell']) (by simp [Value.cells]) ?_) | (refine xk_storeN 5 rfl rfl rfl (by kernel_rfl) (by simp [Value.cells, Value.oneCell']) (by simp [Value.cells]) ?_) | (refine xk_storeN 6 rfl rfl rfl (by kernel_rfl) (by simp [Value.cells, Value.oneCell']) (by simp [Value.cells]) ?_) | (refine xk_storeN 7 rfl rfl rfl (by kernel_rfl) (by simp [Value.cells, Value.oneCell']) (by simp [Value.cells]) ?_) | (refine xk_storeN 8 rfl rfl rfl (by kernel_rfl) (by simp [Value.cells, Value.oneCell']) (by simp [Value.cells]) ?_)); simp only [putN, Value.cells, List.set, List.take, List.drop, List.nil_append, List.append_nil, List.length_cons, List.length_nil, List.cons_append, Nat.reduceAdd]
  refine XK.nilN ?_
  refine XK.seq ?_
  refine XK.seq ?_

  refine XK.region ?_
  refine xk_move rfl (by decide) ?_
  (first | refine xk_notD rfl (by decide) ?_ | refine xk_not rfl (by decide) ?_)
  refine XK.nilN ?_
  refine XK.cond rfl (fun h => by cases h) (fun h => ?_)

  ·
    refine XK.skip ?_
    refine XK.norm ?_
    refine XK.cut (fun e R H => ∃ (gx : Nat) (q : Piece) (X : Wsh) (B1 B2 B3 : Option Addr) (mB1 mB2 mB3 : Nat), X.cl s ∧ X.sm ∧ WshR q X (.agg #[.slice B1 X.d.length mB1, .slice B2 X.c.length mB2, .slice B3 X.l.length mB3]) ∧ e = [(9, .pointer (some ⟨gx, 0, none⟩)), (8, .pointer (some ⟨g1, 0, none⟩)), (2, .int .i64 rb)] ∧ R = [q, q1, all w] ∧ H = [HP.blk gx 56 [.slice B1 X.d.length mB1, .slice B2 X.c.length mB2, .slice B3 X.l.length mB3], HP.blk g1 50 [.slice A1 s.clocks.length k1, .slice A2 s.domains.length k2, .slice A3 s.resets.length k3, .slice A4 s.devs.length k4]]) ?_ ?_
    ·

      refine XK.draw 8 (by kernel_rfl) (by kernel_rfl) ?_
      refine XA.dA 0 rfl rfl rfl (does_ldN 4 rfl) ?_
      refine XA.dA 1 rfl rfl rfl (does_field (off := 3) (by kernel_rfl) rfl) ?_
      refine XA.dA 2 rfl rfl rfl (does_ld rfl) ?_
      refine XA.dA 3 rfl rfl rfl (does_len (el := 83) (by kernel_rfl) rfl) ?_
      refine XA.dA 4 rfl rfl rfl (does_move rfl) ?_
      refine XA.maybe0 (j := 7) 9 56 [.slice none 0 0, .slice none 0 0, .slice none 0 0] fun M => ?_
      refine XA.maybe 5 7 rfl rfl (zeroB_of (by kernel_rfl)) (by decide) (by kernel_rfl) (by kernel_rfl) (fun _ h => h) (fun M => ?_)
      refine xk_call [] (f := 27) (fi := []) (ca := []) (by kernel_rfl) (ev_M M rfl rfl) (evs_M M rfl rfl) (by decide) (by simp) (BitsOk s.devs.length ra) (fun w1 st => bits17_any s.devs.length ra w1 (by have := hm.nv; omega)) ?_
      rintro _ w1 qb ⟨Ab, cb, rfl, hb⟩ hf _ _
      have hb := hb.le hf
      clear hf
      refine XK.nil ?_; refine XK.thenN ?_; refine XA.backM (by decide) rfl (fun _ h => h.tailR) ?_
      refine XA.maybe 6 7 rfl rfl (zeroB_of (by kernel_rfl)) (by decide) (by kernel_rfl) (by kernel_rfl) (fun _ h => h.tailR) (fun M => ?_)
      refine xk_call [] (f := 28) (fi := []) (ca := []) (by kernel_rfl) (ev_M M rfl rfl) (evs_M M rfl rfl) (by decide) (by simp) (WishOk (wants s (bitsL s.devs.length ra))) (fun w1 st => wantsG q1 s A1 A2 A3 A4 _ k1 _ k2 _ k3 _ k4 Ab _ _ (bitsL s.devs.length ra) w1 hSP hm (st.le (by simp)) (hb.le (st.le (by simp))) (bitsL_len _ _).symm) ?_
      rintro _ w1 qw hX hf _ _
      have hX := WshR.le hX hf
      have hcl : (wants s (bitsL s.devs.length ra)).cl s := wants_cl hm _ _
      generalize wants s (bitsL s.devs.length ra) = X at *
      have hsm : X.sm := hcl.of.sm hm
      obtain ⟨B1, mB1, B2, mB2, B3, mB3, rfl, e1, e2, e3⟩ := hX
      have hX : WshR qw X _ := ⟨B1, mB1, B2, mB2, B3, mB3, rfl, e1, e2, e3⟩
      clear hf e1 e2 e3
      refine XK.nil ?_; refine XK.thenN ?_; refine XA.backM (by decide) rfl (fun _ h => h.tailR.tailR) ?_
      cases M
      · dsimp only [emM, hmM, lmM, fmM]
        refine XA.next 7 rfl (by kernel_rfl) ?_
        refine xk_alloc (cs := [.slice none 0 0, .slice none 0 0, .slice none 0 0]) (zeroB_of (by kernel_rfl)) (by decide) fun g2 => ?_
        refine XK.nil ?_; refine XK.thenN ?_; refine XA.back (fun _ h => h.tailR.tailR.tail) ?_
        refine XA.next 8 rfl (by kernel_rfl) ?_
        (first | (refine xk_storeN 0 rfl rfl rfl (by kernel_rfl) (by simp [Value.cells, Value.oneCell']) (by simp [Value.cells]) ?_) | (refine xk_storeN 1 rfl rfl rfl (by kernel_rfl) (by simp [Value.cells, Value.oneCell']) (by simp [Value.cells]) ?_) | (refine xk_storeN 2 rfl rfl rfl (by kernel_rfl) (by simp [Value.cells, Value.oneCell']) (by simp [Value.cells]) ?_) | (refine xk_storeN 3 rfl rfl rfl (by kernel_rfl) (by simp [Value.cells, Value.oneCell']) (by simp [Value.cells]) ?_) | (refine xk_storeN 4 rfl rfl rfl (by kernel_rfl) (by simp [Value.cells, Value.oneCell']) (by simp [Value.cells]) ?_) | (refine xk_storeN 5 rfl rfl rfl (by kernel_rfl) (by simp [Value.cells, Value.oneCell']) (by simp [Value.cells]) ?_) | (refine xk_storeN 6 rfl rfl rfl (by kernel_rfl) (by simp [Value.cells, Value.oneCell']) (by simp [Value.cells]) ?_) | (refine xk_storeN 7 rfl rfl rfl (by kernel_rfl) (by simp [Value.cells, Value.oneCell']) (by simp [Value.cells]) ?_) | (refine xk_storeN 8 rfl rfl rfl (by kernel_rfl) (by simp [Value.cells, Value.oneCell']) (by simp [Value.cells]) ?_)); simp only [putN, Value.cells, List.set, List.take, List.drop, List.nil_append, List.append_nil, List.length_cons, List.length_nil, List.cons_append, Nat.reduceAdd]
        refine XA.bt ?_
        refine XA.done (by kernel_rfl) ?_
        refine XK.norm ?_
        exact XK.weakR (R' := [qw, q1, all w]) (by simp) (XK.envS [(9, .pointer (some ⟨g2, 0, none⟩)), (8, .pointer (some ⟨g1, 0, none⟩)), (2, .int .i64 rb)] (XK.meet ⟨_, qw, X, B1, B2, B3, mB1, mB2, mB3, hcl, hsm, hX, rfl, rfl, rfl⟩))
      · rename_i g2
        dsimp only [emM, hmM, lmM, fmM]
        refine XA.next 8 rfl (by kernel_rfl) ?_
        (first | (refine xk_storeN 0 rfl rfl rfl (by kernel_rfl) (by simp [Value.cells, Value.oneCell']) (by simp [Value.cells]) ?_) | (refine xk_storeN 1 rfl rfl rfl (by kernel_rfl) (by simp [Value.cells, Value.oneCell']) (by simp [Value.cells]) ?_) | (refine xk_storeN 2 rfl rfl rfl (by kernel_rfl) (by simp [Value.cells, Value.oneCell']) (by simp [Value.cells]) ?_) | (refine xk_storeN 3 rfl rfl rfl (by kernel_rfl) (by simp [Value.cells, Value.oneCell']) (by simp [Value.cells]) ?_) | (refine xk_storeN 4 rfl rfl rfl (by kernel_rfl) (by simp [Value.cells, Value.oneCell']) (by simp [Value.cells]) ?_) | (refine xk_storeN 5 rfl rfl rfl (by kernel_rfl) (by simp [Value.cells, Value.oneCell']) (by simp [Value.cells]) ?_) | (refine xk_storeN 6 rfl rfl rfl (by kernel_rfl) (by simp [Value.cells, Value.oneCell']) (by simp [Value.cells]) ?_) | (refine xk_storeN 7 rfl rfl rfl (by kernel_rfl) (by simp [Value.cells, Value.oneCell']) (by simp [Value.cells]) ?_) | (refine xk_storeN 8 rfl rfl rfl (by kernel_rfl) (by simp [Value.cells, Value.oneCell']) (by simp [Value.cells]) ?_)); simp only [putN, Value.cells, List.set, List.take, List.drop, List.nil_append, List.append_nil, List.length_cons, List.length_nil, List.cons_append, Nat.reduceAdd]
        refine XA.bt ?_
        refine XA.done (by kernel_rfl) ?_
        refine XK.norm ?_
        exact XK.weakR (R' := [qw, q1, all w]) (by simp) (XK.envS [(9, .pointer (some ⟨g2, 0, none⟩)), (8, .pointer (some ⟨g1, 0, none⟩)), (2, .int .i64 rb)] (XK.meet ⟨_, qw, X, B1, B2, B3, mB1, mB2, mB3, hcl, hsm, hX, rfl, rfl, rfl⟩))
    rintro _ _ _ ⟨g2, q2, x, B1, B2, B3, mB1, mB2, mB3, hclx, hsmx, hx, rfl, rfl, rfl⟩
    refine XK.cut (fun e R H => ∃ (gx : Nat) (q : Piece) (X : Wsh) (C1 C2 C3 : Option Addr) (mC1 mC2 mC3 : Nat), X.cl s ∧ X.sm ∧ WshR q X (.agg #[.slice C1 X.d.length mC1, .slice C2 X.c.length mC2, .slice C3 X.l.length mC3]) ∧ e = [(10, .pointer (some ⟨gx, 0, none⟩)), (9, .pointer (some ⟨g2, 0, none⟩)), (8, .pointer (some ⟨g1, 0, none⟩))] ∧ R = [q, q2, q1, all w] ∧ H = [HP.blk gx 56 [.slice C1 X.d.length mC1, .slice C2 X.c.length mC2, .slice C3 X.l.length mC3], HP.blk g2 56 [.slice B1 x.d.length mB1, .slice B2 x.c.length mB2, .slice B3 x.l.length mB3], HP.blk g1 50 [.slice A1 s.clocks.length k1, .slice A2 s.domains.length k2, .slice A3 s.resets.length k3, .slice A4 s.devs.length k4]]) ?_ ?_
    ·

      refine XK.draw 8 (by kernel_rfl) (by kernel_rfl) ?_
      refine XA.dA 0 rfl rfl rfl (does_ldN 4 rfl) ?_
      refine XA.dA 1 rfl rfl rfl (does_field (off := 3) (by kernel_rfl) rfl) ?_
      refine XA.dA 2 rfl rfl rfl (does_ld rfl) ?_
      refine XA.dA 3 rfl rfl rfl (does_len (el := 83) (by kernel_rfl) rfl) ?_
      refine XA.dA 4 rfl rfl rfl (does_move rfl) ?_
      refine XA.maybe0 (j := 7) 10 56 [.slice none 0 0, .slice none 0 0, .slice none 0 0] fun M => ?_
      refine XA.maybe 5 7 rfl rfl (zeroB_of (by kernel_rfl)) (by decide) (by kernel_rfl) (by kernel_rfl) (fun _ h => h) (fun M => ?_)
      refine xk_call [] (f := 27) (fi := []) (ca := []) (by kernel_rfl) (ev_M M rfl rfl) (evs_M M rfl rfl) (by decide) (by simp) (BitsOk s.devs.length rb) (fun w1 st => bits17_any s.devs.length rb w1 (by have := hm.nv; omega)) ?_
      rintro _ w1 qb ⟨Ab, cb, rfl, hb⟩ hf _ _
      have hb := hb.le hf
      clear hf
      refine XK.nil ?_; refine XK.thenN ?_; refine XA.backM (by decide) rfl (fun _ h => h.tailR) ?_
      refine XA.maybe 6 7 rfl rfl (zeroB_of (by kernel_rfl)) (by decide) (by kernel_rfl) (by kernel_rfl) (fun _ h => h.tailR) (fun M => ?_)
      refine xk_call [] (f := 28) (fi := []) (ca := []) (by kernel_rfl) (ev_M M rfl rfl) (evs_M M rfl rfl) (by decide) (by simp) (WishOk (wants s (bitsL s.devs.length rb))) (fun w1 st => wantsG q1 s A1 A2 A3 A4 _ k1 _ k2 _ k3 _ k4 Ab _ _ (bitsL s.devs.length rb) w1 hSP hm (st.le (by simp)) (hb.le (st.le (by simp))) (bitsL_len _ _).symm) ?_
      rintro _ w1 qw hX hf _ _
      have hX := WshR.le hX hf
      have hcl : (wants s (bitsL s.devs.length rb)).cl s := wants_cl hm _ _
      generalize wants s (bitsL s.devs.length rb) = X at *
      have hsm : X.sm := hcl.of.sm hm
      obtain ⟨C1, mC1, C2, mC2, C3, mC3, rfl, e1, e2, e3⟩ := hX
      have hX : WshR qw X _ := ⟨C1, mC1, C2, mC2, C3, mC3, rfl, e1, e2, e3⟩
      clear hf e1 e2 e3
      refine XK.nil ?_; refine XK.thenN ?_; refine XA.backM (by decide) rfl (fun _ h => h.tailR.tailR) ?_
      cases M
      · dsimp only [emM, hmM, lmM, fmM]
        refine XA.next 7 rfl (by kernel_rfl) ?_
        refine xk_alloc (cs := [.slice none 0 0, .slice none 0 0, .slice none 0 0]) (zeroB_of (by kernel_rfl)) (by decide) fun g3 => ?_
        refine XK.nil ?_; refine XK.thenN ?_; refine XA.back (fun _ h => h.tailR.tailR.tail) ?_
        refine XA.next 8 rfl (by kernel_rfl) ?_
        (first | (refine xk_storeN 0 rfl rfl rfl (by kernel_rfl) (by simp [Value.cells, Value.oneCell']) (by simp [Value.cells]) ?_) | (refine xk_storeN 1 rfl rfl rfl (by kernel_rfl) (by simp [Value.cells, Value.oneCell']) (by simp [Value.cells]) ?_) | (refine xk_storeN 2 rfl rfl rfl (by kernel_rfl) (by simp [Value.cells, Value.oneCell']) (by simp [Value.cells]) ?_) | (refine xk_storeN 3 rfl rfl rfl (by kernel_rfl) (by simp [Value.cells, Value.oneCell']) (by simp [Value.cells]) ?_) | (refine xk_storeN 4 rfl rfl rfl (by kernel_rfl) (by simp [Value.cells, Value.oneCell']) (by simp [Value.cells]) ?_) | (refine xk_storeN 5 rfl rfl rfl (by kernel_rfl) (by simp [Value.cells, Value.oneCell']) (by simp [Value.cells]) ?_) | (refine xk_storeN 6 rfl rfl rfl (by kernel_rfl) (by simp [Value.cells, Value.oneCell']) (by simp [Value.cells]) ?_) | (refine xk_storeN 7 rfl rfl rfl (by kernel_rfl) (by simp [Value.cells, Value.oneCell']) (by simp [Value.cells]) ?_) | (refine xk_storeN 8 rfl rfl rfl (by kernel_rfl) (by simp [Value.cells, Value.oneCell']) (by simp [Value.cells]) ?_)); simp only [putN, Value.cells, List.set, List.take, List.drop, List.nil_append, List.append_nil, List.length_cons, List.length_nil, List.cons_append, Nat.reduceAdd]
        refine XA.bt ?_
        refine XA.done (by kernel_rfl) ?_
        refine XK.norm ?_
        exact XK.weakR (R' := [qw, q2, q1, all w]) (by simp) (XK.envS [(10, .pointer (some ⟨g3, 0, none⟩)), (9, .pointer (some ⟨g2, 0, none⟩)), (8, .pointer (some ⟨g1, 0, none⟩))] (XK.meet ⟨_, qw, X, C1, C2, C3, mC1, mC2, mC3, hcl, hsm, hX, rfl, rfl, rfl⟩))
      · rename_i g3
        dsimp only [emM, hmM, lmM, fmM]
        refine XA.next 8 rfl (by kernel_rfl) ?_
        (first | (refine xk_storeN 0 rfl rfl rfl (by kernel_rfl) (by simp [Value.cells, Value.oneCell']) (by simp [Value.cells]) ?_) | (refine xk_storeN 1 rfl rfl rfl (by kernel_rfl) (by simp [Value.cells, Value.oneCell']) (by simp [Value.cells]) ?_) | (refine xk_storeN 2 rfl rfl rfl (by kernel_rfl) (by simp [Value.cells, Value.oneCell']) (by simp [Value.cells]) ?_) | (refine xk_storeN 3 rfl rfl rfl (by kernel_rfl) (by simp [Value.cells, Value.oneCell']) (by simp [Value.cells]) ?_) | (refine xk_storeN 4 rfl rfl rfl (by kernel_rfl) (by simp [Value.cells, Value.oneCell']) (by simp [Value.cells]) ?_) | (refine xk_storeN 5 rfl rfl rfl (by kernel_rfl) (by simp [Value.cells, Value.oneCell']) (by simp [Value.cells]) ?_) | (refine xk_storeN 6 rfl rfl rfl (by kernel_rfl) (by simp [Value.cells, Value.oneCell']) (by simp [Value.cells]) ?_) | (refine xk_storeN 7 rfl rfl rfl (by kernel_rfl) (by simp [Value.cells, Value.oneCell']) (by simp [Value.cells]) ?_) | (refine xk_storeN 8 rfl rfl rfl (by kernel_rfl) (by simp [Value.cells, Value.oneCell']) (by simp [Value.cells]) ?_)); simp only [putN, Value.cells, List.set, List.take, List.drop, List.nil_append, List.append_nil, List.length_cons, List.length_nil, List.cons_append, Nat.reduceAdd]
        refine XA.bt ?_
        refine XA.done (by kernel_rfl) ?_
        refine XK.norm ?_
        exact XK.weakR (R' := [qw, q2, q1, all w]) (by simp) (XK.envS [(10, .pointer (some ⟨g3, 0, none⟩)), (9, .pointer (some ⟨g2, 0, none⟩)), (8, .pointer (some ⟨g1, 0, none⟩))] (XK.meet ⟨_, qw, X, C1, C2, C3, mC1, mC2, mC3, hcl, hsm, hX, rfl, rfl, rfl⟩))
    rintro _ _ _ ⟨g3, q3, y, C1, C2, C3, mC1, mC2, mC3, hcly, hsmy, hy, rfl, rfl, rfl⟩
    refine XK.seq ?_

    refine XK.region ?_
    refine xk_ldN 4 rfl ?_
    refine xk_ldN 3 rfl ?_
    refine xk_ldN 3 rfl ?_
    refine xk_call [] (f := 19) (fi := []) (ca := []) (by kernel_rfl) rfl rfl (by decide) (by simp) (StepsR (allM s x y)) (fun w1 st => stepsM_any hSP hm (st.le (by simp)) hx (st.le (by simp)) hy (st.le (by simp))) ?_
    rintro _ w1 qp ⟨AT, cAT, rfl, hT⟩ hf _ _
    have hT := hT.le hf
    have hokT := allM_ok hm x y
    have hlenT := allM_len hm x y
    have hgoes := fun k p (h : (allM s x y)[k]? = some p) => allM_goes hm hclx hcly h (by have := (List.getElem?_eq_some_iff.1 h).1; omega)
    have hapart := allM_apart s x y
    have hfold := fold_all hclx.of hcly.of
    generalize allM s x y = T at *
    clear hf
    refine xk_assign rfl (by decide) ?_
    refine XK.nilN ?_
    refine XK.seq ?_

    refine XK.region ?_
    refine xk_ldN 4 rfl ?_
    refine xk_call [] (f := 29) (fi := []) (ca := []) (by kernel_rfl) rfl rfl (by decide) (by simp) (fun v w w' => StR (fresh w w') (zeroW s) (zeroW s) v) (fun w1 st => start_any s A1 A2 A3 A4 k1 k2 k3 k4 w1 hm.okT) ?_
    rintro _ w1 qs hS0 hf _ _
    have hS0 := StR.le hS0 hf
    clear hf
    have hz0 := zeroW_sm hm.okT
    generalize hgz : zeroW s = z at *
    obtain ⟨Y1, mY1, Y2, mY2, Y3, mY3, Z1, mZ1, Z2, mZ2, Z3, mZ3, rfl, e1, e2, e3, e4, e5, e6⟩ := hS0
    have hZ : WshR qs z (.agg #[.slice Z1 z.d.length mZ1, .slice Z2 z.c.length mZ2, .slice Z3 z.l.length mZ3]) := ⟨Z1, mZ1, Z2, mZ2, Z3, mZ3, rfl, e4, e5, e6⟩
    clear e1 e2 e3 e4 e5 e6
    refine xk_alloc (cs := [.slice none 0 0, .slice none 0 0, .slice none 0 0, .slice none 0 0, .slice none 0 0, .slice none 0 0]) (zeroB_of (by kernel_rfl)) (by decide) fun g4 => ?_
    (first | (refine xk_storeN 0 rfl rfl rfl (by kernel_rfl) (by simp [Value.cells, Value.oneCell']) (by simp [Value.cells]) ?_) | (refine xk_storeN 1 rfl rfl rfl (by kernel_rfl) (by simp [Value.cells, Value.oneCell']) (by simp [Value.cells]) ?_) | (refine xk_storeN 2 rfl rfl rfl (by kernel_rfl) (by simp [Value.cells, Value.oneCell']) (by simp [Value.cells]) ?_) | (refine xk_storeN 3 rfl rfl rfl (by kernel_rfl) (by simp [Value.cells, Value.oneCell']) (by simp [Value.cells]) ?_) | (refine xk_storeN 4 rfl rfl rfl (by kernel_rfl) (by simp [Value.cells, Value.oneCell']) (by simp [Value.cells]) ?_) | (refine xk_storeN 5 rfl rfl rfl (by kernel_rfl) (by simp [Value.cells, Value.oneCell']) (by simp [Value.cells]) ?_) | (refine xk_storeN 6 rfl rfl rfl (by kernel_rfl) (by simp [Value.cells, Value.oneCell']) (by simp [Value.cells]) ?_) | (refine xk_storeN 7 rfl rfl rfl (by kernel_rfl) (by simp [Value.cells, Value.oneCell']) (by simp [Value.cells]) ?_) | (refine xk_storeN 8 rfl rfl rfl (by kernel_rfl) (by simp [Value.cells, Value.oneCell']) (by simp [Value.cells]) ?_)); simp only [putN, Value.cells, List.set, List.take, List.drop, List.nil_append, List.append_nil, List.length_cons, List.length_nil, List.cons_append, Nat.reduceAdd]
    refine XK.nilN ?_
    refine XK.seq ?_

    refine XK.region ?_
    refine xk_ldN 3 rfl ?_
    refine xk_field (off := 0) (by kernel_rfl) rfl (by decide) ?_
    refine xk_atA 0 0 (n := 2) (el := 56) (sz := 3) (by kernel_rfl) (by kernel_rfl) rfl rfl (by rfl) (by omega) (by omega) (by decide) ?_
    (first | (refine xk_storeN 0 rfl rfl rfl (by kernel_rfl) (by simp [Value.cells, Value.oneCell']) (by simp [Value.cells]) ?_) | (refine xk_storeN 1 rfl rfl rfl (by kernel_rfl) (by simp [Value.cells, Value.oneCell']) (by simp [Value.cells]) ?_) | (refine xk_storeN 2 rfl rfl rfl (by kernel_rfl) (by simp [Value.cells, Value.oneCell']) (by simp [Value.cells]) ?_) | (refine xk_storeN 3 rfl rfl rfl (by kernel_rfl) (by simp [Value.cells, Value.oneCell']) (by simp [Value.cells]) ?_) | (refine xk_storeN 4 rfl rfl rfl (by kernel_rfl) (by simp [Value.cells, Value.oneCell']) (by simp [Value.cells]) ?_) | (refine xk_storeN 5 rfl rfl rfl (by kernel_rfl) (by simp [Value.cells, Value.oneCell']) (by simp [Value.cells]) ?_) | (refine xk_storeN 6 rfl rfl rfl (by kernel_rfl) (by simp [Value.cells, Value.oneCell']) (by simp [Value.cells]) ?_) | (refine xk_storeN 7 rfl rfl rfl (by kernel_rfl) (by simp [Value.cells, Value.oneCell']) (by simp [Value.cells]) ?_) | (refine xk_storeN 8 rfl rfl rfl (by kernel_rfl) (by simp [Value.cells, Value.oneCell']) (by simp [Value.cells]) ?_)); simp only [putN, Value.cells, List.set, List.take, List.drop, List.nil_append, List.append_nil, List.length_cons, List.length_nil, List.cons_append, Nat.reduceAdd]
    refine XK.nilN ?_
    refine XK.seq ?_

    refine XK.region ?_
    refine xk_ldN 3 rfl ?_
    refine xk_alloc (cs := [.slice none 0 0, .slice none 0 0, .slice none 0 0]) (zeroB_of (by kernel_rfl)) (by decide) fun g5 => ?_
    (first | (refine xk_storeN 0 rfl rfl rfl (by kernel_rfl) (by simp [Value.cells, Value.oneCell']) (by simp [Value.cells]) ?_) | (refine xk_storeN 1 rfl rfl rfl (by kernel_rfl) (by simp [Value.cells, Value.oneCell']) (by simp [Value.cells]) ?_) | (refine xk_storeN 2 rfl rfl rfl (by kernel_rfl) (by simp [Value.cells, Value.oneCell']) (by simp [Value.cells]) ?_) | (refine xk_storeN 3 rfl rfl rfl (by kernel_rfl) (by simp [Value.cells, Value.oneCell']) (by simp [Value.cells]) ?_) | (refine xk_storeN 4 rfl rfl rfl (by kernel_rfl) (by simp [Value.cells, Value.oneCell']) (by simp [Value.cells]) ?_) | (refine xk_storeN 5 rfl rfl rfl (by kernel_rfl) (by simp [Value.cells, Value.oneCell']) (by simp [Value.cells]) ?_) | (refine xk_storeN 6 rfl rfl rfl (by kernel_rfl) (by simp [Value.cells, Value.oneCell']) (by simp [Value.cells]) ?_) | (refine xk_storeN 7 rfl rfl rfl (by kernel_rfl) (by simp [Value.cells, Value.oneCell']) (by simp [Value.cells]) ?_) | (refine xk_storeN 8 rfl rfl rfl (by kernel_rfl) (by simp [Value.cells, Value.oneCell']) (by simp [Value.cells]) ?_)); simp only [putN, Value.cells, List.set, List.take, List.drop, List.nil_append, List.append_nil, List.length_cons, List.length_nil, List.cons_append, Nat.reduceAdd]
    refine XK.nilN ?_
    refine XK.seq ?_
    refine XK.seq ?_

    refine XK.region ?_
    refine xk_assign rfl (by decide) ?_
    refine XK.nilN ?_
    refine XK.envS [(14, .int .i64 0), (13, .pointer (some ⟨g5, 0, none⟩)), (12, .pointer (some ⟨g4, 0, none⟩)), (11, .slice AT T.length cAT), (10, .pointer (some ⟨g3, 0, none⟩)), (8, .pointer (some ⟨g1, 0, none⟩))] ?_
    refine XK.block ?_
    refine XK.weakR (R' := [q2, q2, qs, qp, q3, q1, all w]) (by simp) ?_
    refine XK.loop (fun m e R H => ∃ (i : Nat) (xi : Wsh) (qx qz qn : Piece) (D1 D2 D3 : Option Addr) (mD1 mD2 mD3 : Nat) (Z1 Z2 Z3 : Option Addr) (mZ1 mZ2 mZ3 : Nat) (N1 N2 N3 : Option Addr) (mN1 mN2 mN3 : Nat), i ≤ T.length ∧ m = T.length - i ∧ xi = (T.take i).foldl applyW x ∧ xi.sm ∧ WshR qx xi (.agg #[.slice D1 xi.d.length mD1, .slice D2 xi.c.length mD2, .slice D3 xi.l.length mD3]) ∧ WshR qz z (.agg #[.slice Z1 z.d.length mZ1, .slice Z2 z.c.length mZ2, .slice Z3 z.l.length mZ3]) ∧ WshR qn xi (.agg #[.slice N1 xi.d.length mN1, .slice N2 xi.c.length mN2, .slice N3 xi.l.length mN3]) ∧ e = [(14, .int .i64 i), (13, .pointer (some ⟨g5, 0, none⟩)), (12, .pointer (some ⟨g4, 0, none⟩)), (11, .slice AT T.length cAT), (10, .pointer (some ⟨g3, 0, none⟩)), (8, .pointer (some ⟨g1, 0, none⟩))] ∧ R = [qn, qx, qz, qp, q3, q1, all w] ∧ H = [HP.blk g5 56 [.slice N1 xi.d.length mN1, .slice N2 xi.c.length mN2, .slice N3 xi.l.length mN3], HP.blk g4 79 [.slice D1 xi.d.length mD1, .slice D2 xi.c.length mD2, .slice D3 xi.l.length mD3, .slice Z1 z.d.length mZ1, .slice Z2 z.c.length mZ2, .slice Z3 z.l.length mZ3], HP.blk g3 56 [.slice C1 y.d.length mC1, .slice C2 y.c.length mC2, .slice C3 y.l.length mC3], HP.blk g2 56 [.slice B1 x.d.length mB1, .slice B2 x.c.length mB2, .slice B3 x.l.length mB3], HP.blk g1 50 [.slice A1 s.clocks.length k1, .slice A2 s.domains.length k2, .slice A3 s.resets.length k3, .slice A4 s.devs.length k4]]) T.length ⟨0, x, q2, qs, q2, B1, B2, B3, mB1, mB2, mB3, Z1, Z2, Z3, mZ1, mZ2, mZ3, B1, B2, B3, mB1, mB2, mB3, by omega, rfl, rfl, hsmx, hx, hZ, hx, rfl, rfl, rfl⟩ fun m e R H hI => ?_
    obtain ⟨i, xi, qx, qz, qn, D1, D2, D3, mD1, mD2, mD3, Z1, Z2, Z3, mZ1, mZ2, mZ3, N1, N2, N3, mN1, mN2, mN3, hi, rfl, hxi, hsi, hxw, hzw, hnw, rfl, rfl, rfl⟩ := hI
    refine XK.seq ?_
    refine XK.seq ?_

    refine XK.region ?_
    refine xk_move rfl (by decide) ?_
    refine xk_move rfl (by decide) ?_
    refine xk_len (el := 59) (by kernel_rfl) rfl (by decide) ?_
    refine xk_lss rfl rfl (by decide) ?_
    refine XK.nilN ?_
    refine XK.if_ rfl (fun h => ?_) (fun h => ?_)
    ·
      refine XK.skip ?_
      refine XK.norm ?_
      refine XK.seq ?_
      refine XK.block ?_
      refine XK.seq ?_
      have hil : i < T.length := by have h' : (i : Int) < (T.length : Int) := h; omega
      obtain ⟨pi, hpi⟩ : ∃ pi, T[i]? = some pi := ⟨_, List.getElem?_eq_getElem hil⟩
      obtain ⟨bL, oL, rfl, hzL, hci⟩ := hT.step hpi
      have hoki := hokT pi (List.mem_of_getElem? hpi)
      have hG := hgoes i pi hpi
      rw [← hxi] at hG
      have hG2 := hG.dec
      rw [hgz] at hG2

      refine XK.region ?_
      refine xk_move rfl (by decide) ?_
      refine xk_move rfl (by decide) ?_
      refine xk_at (i) (oL + i * 4) (el := 59) (sz := 4) (by kernel_rfl) (by kernel_rfl) rfl rfl (by omega) (by omega) (by omega) (by decide) ?_
      refine xk_loadN 4 (by kernel_rfl) rfl (RdN.of (vs := [.int .i64 pi.pr, .int .i64 pi.msg, .int .u32 pi.id, .int .u32 pi.v]) fun f v hf => Rd.ro (p := qp) (by simp) hzL (hci f v hf)) rfl (by decide) ?_
      refine xk_move rfl (by decide) ?_
      refine xk_call [] (f := 36) (fi := []) (ca := []) (by kernel_rfl) rfl rfl (by decide) (by simp) (CmdOk [(packZ pi.msg 0 pi.pr i).1, pi.id, pi.v]) (fun w1 st => words_any pi.pr pi.msg pi.id pi.v i w1 hG.pack) ?_
      rintro _ w1 qm ⟨Am, cm, rfl, hmw⟩ hf _ _
      have hmw := hmw.le hf
      clear hf
      refine xk_move rfl (by decide) ?_
      refine xk_extract rfl rfl (by decide) ?_
      refine xk_extract rfl rfl (by decide) ?_
      refine xk_assign rfl (by decide) ?_
      refine xk_assign rfl (by decide) ?_
      refine XK.nilN ?_
      refine XK.seq ?_

      refine XK.region ?_
      refine xk_ldN 4 rfl ?_
      refine xk_ldN 6 rfl ?_
      refine xk_move rfl (by decide) ?_
      refine xk_callR (f := 37) (fi := []) (ca := []) (by kernel_rfl) rfl rfl (by decide) (v0 := actV (decF s xi z [] 0 [(packZ pi.msg 0 pi.pr i).1, pi.id, pi.v])) (fun w1 st => decide_any q1 (all w1) s A1 A2 A3 A4 _ k1 _ k2 _ k3 _ k4 D1 D2 D3 Z1 Z2 Z3 _ mD1 _ mD2 _ mD3 _ mZ1 _ mZ2 _ mZ3 xi z none 0 0 [] 0 Am 3 cm _ w1 hSP hm.okT (st.le (by simp)) (WshR.join (hxw.le (st.le (by simp))) (hzw.le (st.le (by simp)))) (Piece.Le.refl _) (SlS.nil _ _) rfl (by omega) (hmw.le (st.le (by simp))) rfl (by omega) (by
        intro v hv
        simp at hv
        rcases hv with rfl | rfl | rfl
        · exact pack_bd _ _ _ _
        · exact hG.id
        · exact hG.v)) ?_
      rw [hG2]
      simp only [actV]
      have hkind := hG.kind
      have hdone := hG.done
      generalize kindP pi = kd at *
      refine xk_move rfl (by decide) ?_
      refine xk_extract rfl rfl (by decide) ?_
      refine xk_extract rfl rfl (by decide) ?_
      refine xk_alloc (cs := [.int .u8 0, .int .i64 0]) (zeroB_of (by kernel_rfl)) (by decide) fun g6 => ?_
      refine xk_assign rfl (by decide) ?_
      (first | (refine xk_storeN 0 rfl rfl rfl (by kernel_rfl) (by simp [Value.cells, Value.oneCell']) (by simp [Value.cells]) ?_) | (refine xk_storeN 1 rfl rfl rfl (by kernel_rfl) (by simp [Value.cells, Value.oneCell']) (by simp [Value.cells]) ?_) | (refine xk_storeN 2 rfl rfl rfl (by kernel_rfl) (by simp [Value.cells, Value.oneCell']) (by simp [Value.cells]) ?_) | (refine xk_storeN 3 rfl rfl rfl (by kernel_rfl) (by simp [Value.cells, Value.oneCell']) (by simp [Value.cells]) ?_) | (refine xk_storeN 4 rfl rfl rfl (by kernel_rfl) (by simp [Value.cells, Value.oneCell']) (by simp [Value.cells]) ?_) | (refine xk_storeN 5 rfl rfl rfl (by kernel_rfl) (by simp [Value.cells, Value.oneCell']) (by simp [Value.cells]) ?_) | (refine xk_storeN 6 rfl rfl rfl (by kernel_rfl) (by simp [Value.cells, Value.oneCell']) (by simp [Value.cells]) ?_) | (refine xk_storeN 7 rfl rfl rfl (by kernel_rfl) (by simp [Value.cells, Value.oneCell']) (by simp [Value.cells]) ?_) | (refine xk_storeN 8 rfl rfl rfl (by kernel_rfl) (by simp [Value.cells, Value.oneCell']) (by simp [Value.cells]) ?_)); simp only [putN, Value.cells, List.set, List.take, List.drop, List.nil_append, List.append_nil, List.length_cons, List.length_nil, List.cons_append, Nat.reduceAdd]
      refine XK.nilN ?_
      refine XK.seq ?_
      refine XK.cutB 81 (False) ?_ ?_
      · skip

        refine XK.region ?_
        refine xk_move rfl (by decide) ?_
        refine xk_neq rfl rfl (by decide) ?_
        refine xk_move rfl (by decide) ?_
        (first | refine xk_split (t := 73) rfl (fun hg => ?_) (fun hg => ?_) | refine xk_splitB (t := 73) rfl (fun hg => ?_) (fun hg => ?_))
        ·
          refine xk_guardF rfl rfl rfl (by decide) ?_
          refine xk_guardF rfl rfl rfl (by decide) ?_
          (first | refine xk_pickT rfl rfl (by decide) ?_ | refine xk_pickF rfl rfl (by decide) ?_)
          refine xk_move rfl (by decide) ?_
          refine xk_guardF rfl rfl rfl (by decide) ?_
          refine xk_guardF rfl rfl rfl (by decide) ?_
          refine xk_guardF rfl rfl rfl (by decide) ?_
          (first | refine xk_pickT rfl rfl (by decide) ?_ | refine xk_pickF rfl rfl (by decide) ?_)
          refine XK.nilN ?_
          (first | exact XK.meetB (by repeat (first | exact trivial | refine ⟨rfl, ?_⟩)) (by first | (refine get_iff rfl ?_; omega) | (refine get_iff rfl ?_; simp_all; done) | (refine get_false rfl ?_; first | omega | (simp_all; done)) | (refine get_true rfl ?_; first | omega | (simp_all; done)) | (refine get_bool rfl ?_; simp_all; done) | (refine get_iff rfl ⟨fun hh => ?_, fun hh => ?_⟩ <;> first | omega | (simp_all; done) | (simp_all; omega)) | (exfalso; omega)) | exact XK.weakR (by simp) (XK.meetB (by repeat (first | exact trivial | refine ⟨rfl, ?_⟩)) (by first | (refine get_iff rfl ?_; omega) | (refine get_iff rfl ?_; simp_all; done) | (refine get_false rfl ?_; first | omega | (simp_all; done)) | (refine get_true rfl ?_; first | omega | (simp_all; done)) | (refine get_bool rfl ?_; simp_all; done) | (refine get_iff rfl ⟨fun hh => ?_, fun hh => ?_⟩ <;> first | omega | (simp_all; done) | (simp_all; omega)) | (exfalso; omega))))
        ·
          refine xk_guardT rfl rfl ?_; refine xk_move rfl (by decide) ?_
          refine xk_guardT rfl rfl ?_; refine xk_neq rfl rfl (by decide) ?_
          (first | refine xk_pickT rfl rfl (by decide) ?_ | refine xk_pickF rfl rfl (by decide) ?_)
          refine xk_move rfl (by decide) ?_
          (first | refine xk_split (t := 77) rfl (fun hg => ?_) (fun hg => ?_) | refine xk_splitB (t := 77) rfl (fun hg => ?_) (fun hg => ?_))
          ·
            refine xk_guardF rfl rfl rfl (by decide) ?_
            refine xk_guardF rfl rfl rfl (by decide) ?_
            refine xk_guardF rfl rfl rfl (by decide) ?_
            (first | refine xk_pickT rfl rfl (by decide) ?_ | refine xk_pickF rfl rfl (by decide) ?_)
            refine XK.nilN ?_
            (first | exact XK.meetB (by repeat (first | exact trivial | refine ⟨rfl, ?_⟩)) (by first | (refine get_iff rfl ?_; omega) | (refine get_iff rfl ?_; simp_all; done) | (refine get_false rfl ?_; first | omega | (simp_all; done)) | (refine get_true rfl ?_; first | omega | (simp_all; done)) | (refine get_bool rfl ?_; simp_all; done) | (refine get_iff rfl ⟨fun hh => ?_, fun hh => ?_⟩ <;> first | omega | (simp_all; done) | (simp_all; omega)) | (exfalso; omega)) | exact XK.weakR (by simp) (XK.meetB (by repeat (first | exact trivial | refine ⟨rfl, ?_⟩)) (by first | (refine get_iff rfl ?_; omega) | (refine get_iff rfl ?_; simp_all; done) | (refine get_false rfl ?_; first | omega | (simp_all; done)) | (refine get_true rfl ?_; first | omega | (simp_all; done)) | (refine get_bool rfl ?_; simp_all; done) | (refine get_iff rfl ⟨fun hh => ?_, fun hh => ?_⟩ <;> first | omega | (simp_all; done) | (simp_all; omega)) | (exfalso; omega))))
          ·
            refine xk_guardT rfl rfl ?_; refine xk_field (off := 0) (by kernel_rfl) rfl (by decide) ?_
            refine xk_guardT rfl rfl ?_; refine xk_ld rfl ?_
            refine xk_guardT rfl rfl ?_; refine xk_eql rfl rfl (by decide) ?_
            (first | refine xk_pickT rfl rfl (by decide) ?_ | refine xk_pickF rfl rfl (by decide) ?_)
            refine XK.nilN ?_
            (first | exact XK.meetB (by repeat (first | exact trivial | refine ⟨rfl, ?_⟩)) (by first | (refine get_iff rfl ?_; omega) | (refine get_iff rfl ?_; simp_all; done) | (refine get_false rfl ?_; first | omega | (simp_all; done)) | (refine get_true rfl ?_; first | omega | (simp_all; done)) | (refine get_bool rfl ?_; simp_all; done) | (refine get_iff rfl ⟨fun hh => ?_, fun hh => ?_⟩ <;> first | omega | (simp_all; done) | (simp_all; omega)) | (exfalso; omega)) | exact XK.weakR (by simp) (XK.meetB (by repeat (first | exact trivial | refine ⟨rfl, ?_⟩)) (by first | (refine get_iff rfl ?_; omega) | (refine get_iff rfl ?_; simp_all; done) | (refine get_false rfl ?_; first | omega | (simp_all; done)) | (refine get_true rfl ?_; first | omega | (simp_all; done)) | (refine get_bool rfl ?_; simp_all; done) | (refine get_iff rfl ⟨fun hh => ?_, fun hh => ?_⟩ <;> first | omega | (simp_all; done) | (simp_all; omega)) | (exfalso; omega))))
      refine XK.cond rfl (fun h => by simp at h) (fun _ => ?_)

      ·
        refine XK.skip ?_
        refine XK.norm ?_
        refine XK.seq ?_

        refine XK.region ?_
        refine xk_ldN 6 rfl ?_
        refine xk_ldN 2 rfl ?_
        refine xk_call [] (f := 38) (fi := []) (ca := []) (by kernel_rfl) rfl rfl (by decide) (by simp) (fun v w w' => StR (fresh w w') (doneX xi 0 kd pi.id) (doneY z 0 kd pi.id) v) (fun w1 st => done_any (all w1) D1 D2 D3 Z1 Z2 Z3 mD1 mD2 mD3 mZ1 mZ2 mZ3 xi z 0 kd pi.id w1 (Piece.Le.refl _) (by omega) hsi hz0 (WshR.join (hxw.le (st.le (by simp))) (hzw.le (st.le (by simp)))).six.1 (WshR.join (hxw.le (st.le (by simp))) (hzw.le (st.le (by simp)))).six.2.1 (WshR.join (hxw.le (st.le (by simp))) (hzw.le (st.le (by simp)))).six.2.2.1 (WshR.join (hxw.le (st.le (by simp))) (hzw.le (st.le (by simp)))).six.2.2.2.1 (WshR.join (hxw.le (st.le (by simp))) (hzw.le (st.le (by simp)))).six.2.2.2.2.1 (WshR.join (hxw.le (st.le (by simp))) (hzw.le (st.le (by simp)))).six.2.2.2.2.2) ?_
        rintro _ w1 qd hD hf _ _
        have hD := StR.le hD hf
        clear hf
        rw [hdone, show doneY z 0 kd pi.id = z from rfl] at hD
        have hsu := applyW_sm hsi pi
        have hfn : applyW xi pi = (T.take (i + 1)).foldl applyW x := by rw [hxi]; exact (fold_next hpi).symm
        have hap := fun (w1 : World) (st : WshR (all w1) xi (.agg #[.slice N1 xi.d.length mN1, .slice N2 xi.c.length mN2, .slice N3 xi.l.length mN3])) => apply_any _ xi pi w1 st hsi hoki
        generalize applyW xi pi = u at *
        obtain ⟨G1, mG1, G2, mG2, G3, mG3, V1, mV1, V2, mV2, V3, mV3, rfl, e1, e2, e3, e4, e5, e6⟩ := hD
        have hGw : WshR qd u (.agg #[.slice G1 u.d.length mG1, .slice G2 u.c.length mG2, .slice G3 u.l.length mG3]) := ⟨G1, mG1, G2, mG2, G3, mG3, rfl, e1, e2, e3⟩
        have hVw : WshR qd z (.agg #[.slice V1 z.d.length mV1, .slice V2 z.c.length mV2, .slice V3 z.l.length mV3]) := ⟨V1, mV1, V2, mV2, V3, mV3, rfl, e4, e5, e6⟩
        clear e1 e2 e3 e4 e5 e6
        (first | (refine xk_storeN 0 rfl rfl rfl (by kernel_rfl) (by simp [Value.cells, Value.oneCell']) (by simp [Value.cells]) ?_) | (refine xk_storeN 1 rfl rfl rfl (by kernel_rfl) (by simp [Value.cells, Value.oneCell']) (by simp [Value.cells]) ?_) | (refine xk_storeN 2 rfl rfl rfl (by kernel_rfl) (by simp [Value.cells, Value.oneCell']) (by simp [Value.cells]) ?_) | (refine xk_storeN 3 rfl rfl rfl (by kernel_rfl) (by simp [Value.cells, Value.oneCell']) (by simp [Value.cells]) ?_) | (refine xk_storeN 4 rfl rfl rfl (by kernel_rfl) (by simp [Value.cells, Value.oneCell']) (by simp [Value.cells]) ?_) | (refine xk_storeN 5 rfl rfl rfl (by kernel_rfl) (by simp [Value.cells, Value.oneCell']) (by simp [Value.cells]) ?_) | (refine xk_storeN 6 rfl rfl rfl (by kernel_rfl) (by simp [Value.cells, Value.oneCell']) (by simp [Value.cells]) ?_) | (refine xk_storeN 7 rfl rfl rfl (by kernel_rfl) (by simp [Value.cells, Value.oneCell']) (by simp [Value.cells]) ?_) | (refine xk_storeN 8 rfl rfl rfl (by kernel_rfl) (by simp [Value.cells, Value.oneCell']) (by simp [Value.cells]) ?_)); simp only [putN, Value.cells, List.set, List.take, List.drop, List.nil_append, List.append_nil, List.length_cons, List.length_nil, List.cons_append, Nat.reduceAdd]
        refine XK.nilN ?_
        refine XK.seq ?_

        refine XK.draw 5 (by kernel_rfl) (by kernel_rfl) ?_
        refine XA.dA 0 rfl rfl rfl (does_ldN 3 rfl) ?_
        refine XA.dA 1 rfl rfl rfl (does_move rfl) ?_
        refine XA.dA 2 rfl rfl rfl (does_move rfl) ?_
        refine XA.dA 3 rfl rfl rfl (does_at i (oL + i * 4) (el := 59) (sz := 4) (by kernel_rfl) (by kernel_rfl) rfl rfl (by omega) (by omega) (by omega)) ?_
        refine XA.dA 4 rfl rfl rfl (does_loadN 4 (by kernel_rfl) rfl (RdN.of (vs := [.int .i64 pi.pr, .int .i64 pi.msg, .int .u32 pi.id, .int .u32 pi.v]) fun f v hf => Rd.ro (p := qp) (by simp) hzL (hci f v hf)) rfl) ?_
        refine XA.next 5 rfl (by kernel_rfl) ?_
        refine xk_call [] (f := 22) (fi := []) (ca := []) (by kernel_rfl) rfl rfl (by decide) (by simp) (WishOk u) (fun w1 st => hap w1 (hnw.le (st.le (by simp)))) ?_
        rintro _ w1 qu hu hf _ _
        have hu := WshR.le hu hf
        obtain ⟨U1, mU1, U2, mU2, U3, mU3, rfl, e1, e2, e3⟩ := hu
        have hu : WshR qu u (.agg #[.slice U1 u.d.length mU1, .slice U2 u.c.length mU2, .slice U3 u.l.length mU3]) := ⟨U1, mU1, U2, mU2, U3, mU3, rfl, e1, e2, e3⟩
        clear hf e1 e2 e3
        refine XA.bt ?_
        refine XA.next 6 rfl (by kernel_rfl) ?_
        (first | (refine xk_storeN 0 rfl rfl rfl (by kernel_rfl) (by simp [Value.cells, Value.oneCell']) (by simp [Value.cells]) ?_) | (refine xk_storeN 1 rfl rfl rfl (by kernel_rfl) (by simp [Value.cells, Value.oneCell']) (by simp [Value.cells]) ?_) | (refine xk_storeN 2 rfl rfl rfl (by kernel_rfl) (by simp [Value.cells, Value.oneCell']) (by simp [Value.cells]) ?_) | (refine xk_storeN 3 rfl rfl rfl (by kernel_rfl) (by simp [Value.cells, Value.oneCell']) (by simp [Value.cells]) ?_) | (refine xk_storeN 4 rfl rfl rfl (by kernel_rfl) (by simp [Value.cells, Value.oneCell']) (by simp [Value.cells]) ?_) | (refine xk_storeN 5 rfl rfl rfl (by kernel_rfl) (by simp [Value.cells, Value.oneCell']) (by simp [Value.cells]) ?_) | (refine xk_storeN 6 rfl rfl rfl (by kernel_rfl) (by simp [Value.cells, Value.oneCell']) (by simp [Value.cells]) ?_) | (refine xk_storeN 7 rfl rfl rfl (by kernel_rfl) (by simp [Value.cells, Value.oneCell']) (by simp [Value.cells]) ?_) | (refine xk_storeN 8 rfl rfl rfl (by kernel_rfl) (by simp [Value.cells, Value.oneCell']) (by simp [Value.cells]) ?_)); simp only [putN, Value.cells, List.set, List.take, List.drop, List.nil_append, List.append_nil, List.length_cons, List.length_nil, List.cons_append, Nat.reduceAdd]
        refine XA.bt ?_
        refine XA.done (by kernel_rfl) ?_
        refine XK.norm ?_
        refine XK.seq ?_
        refine XK.seq ?_

        refine XK.region ?_
        refine xk_field (off := 0) (by kernel_rfl) rfl (by decide) ?_
        refine xk_atA 0 0 (n := 2) (el := 56) (sz := 3) (by kernel_rfl) (by kernel_rfl) rfl rfl (by rfl) (by omega) (by omega) (by decide) ?_
        refine xk_loadN 3 (by kernel_rfl) rfl (by first | exact RdN.three 0 rfl | exact RdN.three 1 rfl | exact RdN.three 2 rfl | exact RdN.three 3 rfl) rfl (by decide) ?_
        refine xk_ldN 3 rfl ?_
        refine xk_callR (f := 23) (fi := []) (ca := []) (by kernel_rfl) rfl rfl (by decide) (fun w1 st => alike17_any _ _ u u w1 (hGw.le (st.le (by simp))) (hu.le (st.le (by simp))) hsu hsu) ?_
        rw [Wsh.same_self]
        (first | refine xk_notD rfl (by decide) ?_ | refine xk_not rfl (by decide) ?_)
        refine XK.nilN ?_
        refine XK.cond rfl (fun h => by simp at h) (fun _ => ?_)

        ·
          refine XK.skip ?_
          refine XK.norm ?_
          refine XK.seq ?_

          refine XK.region ?_
          refine xk_assign rfl (by decide) ?_
          refine XK.nilN ?_
          refine XK.envS [(19, .int .i64 0), (14, .int .i64 i), (13, .pointer (some ⟨g5, 0, none⟩)), (12, .pointer (some ⟨g4, 0, none⟩)), (11, .slice (some ⟨bL, oL, none⟩) T.length cAT), (10, .pointer (some ⟨g3, 0, none⟩)), (8, .pointer (some ⟨g1, 0, none⟩))] ?_
          refine XK.block ?_
          refine XK.weakR (R' := [qu, qd, qd, qp, q3, q1, all w]) (by simp) ?_
          refine XK.weak [1, 2, 3, 4, 5] rfl (by decide) (fun _ h => h) ?_
          refine XK.loop (fun m e R H => ∃ (j : Nat), j ≤ i ∧ m = i - j ∧ e = [(19, .int .i64 j), (14, .int .i64 i), (13, .pointer (some ⟨g5, 0, none⟩)), (12, .pointer (some ⟨g4, 0, none⟩)), (11, .slice (some ⟨bL, oL, none⟩) T.length cAT), (10, .pointer (some ⟨g3, 0, none⟩)), (8, .pointer (some ⟨g1, 0, none⟩))] ∧ R = [qu, qd, qd, qp, q3, q1, all w] ∧ H = [HP.blk g5 56 [.slice U1 u.d.length mU1, .slice U2 u.c.length mU2, .slice U3 u.l.length mU3], HP.blk g4 79 [.slice G1 u.d.length mG1, .slice G2 u.c.length mG2, .slice G3 u.l.length mG3, .slice V1 z.d.length mV1, .slice V2 z.c.length mV2, .slice V3 z.l.length mV3], HP.blk g3 56 [.slice C1 y.d.length mC1, .slice C2 y.c.length mC2, .slice C3 y.l.length mC3], HP.blk g2 56 [.slice B1 x.d.length mB1, .slice B2 x.c.length mB2, .slice B3 x.l.length mB3], HP.blk g1 50 [.slice A1 s.clocks.length k1, .slice A2 s.domains.length k2, .slice A3 s.resets.length k3, .slice A4 s.devs.length k4]]) i ⟨0, by omega, rfl, rfl, rfl, rfl⟩ fun m e R H hI => ?_
          obtain ⟨j, hj, rfl, rfl, rfl, rfl⟩ := hI
          refine XK.seq ?_
          refine XK.seq ?_

          refine XK.region ?_
          refine xk_move rfl (by decide) ?_
          refine xk_move rfl (by decide) ?_
          refine xk_lss rfl rfl (by decide) ?_
          refine XK.nilN ?_
          refine XK.if_ rfl (fun h => ?_) (fun h => ?_)
          ·
            refine XK.skip ?_
            refine XK.norm ?_
            refine XK.seq ?_
            refine XK.block ?_
            refine XK.cutB 125 (False) ?_ ?_
            · skip
              have hji : j < i := by have h' : (j : Int) < (i : Int) := h; omega
              obtain ⟨pj, hpj⟩ : ∃ pj, T[j]? = some pj := ⟨_, List.getElem?_eq_getElem (by omega)⟩
              obtain ⟨bJ, oJ, hJA, hzJ, hcj⟩ := hT.step hpj
              obtain ⟨rfl, rfl⟩ : bJ = bL ∧ oJ = oL := by simp at hJA; exact ⟨hJA.1.symm, hJA.2.symm⟩
              have hap2 : ¬ (pj.pr = pi.pr ∧ pj.id = pi.id) := apart_at hapart hpj hpi hji
              have j0 := hcj 0 _ rfl
              have j2 := hcj 2 _ rfl
              have i0 := hci 0 _ rfl
              have i2 := hci 2 _ rfl

              refine XK.draw 22 (by kernel_rfl) (by kernel_rfl) ?_
              refine XA.dA 0 rfl rfl rfl (does_move rfl) ?_
              refine XA.dA 1 rfl rfl rfl (does_move rfl) ?_
              refine XA.dA 2 rfl rfl rfl (does_at j (oJ + j * 4) (el := 59) (sz := 4) (by kernel_rfl) (by kernel_rfl) rfl rfl (by omega) (by omega) (by omega)) ?_
              refine XA.dA 3 rfl rfl rfl (does_field (off := 0) (by kernel_rfl) rfl) ?_
              refine XA.dA 4 rfl rfl rfl (does_load (by kernel_rfl) rfl (Rd.ro (p := qp) (by simp) hzJ j0)) ?_
              refine XA.dA 5 rfl rfl rfl (does_move rfl) ?_
              refine XA.dA 6 rfl rfl rfl (does_move rfl) ?_
              refine XA.dA 7 rfl rfl rfl (does_at i (oJ + i * 4) (el := 59) (sz := 4) (by kernel_rfl) (by kernel_rfl) rfl rfl (by omega) (by omega) (by omega)) ?_
              refine XA.dA 8 rfl rfl rfl (does_field (off := 0) (by kernel_rfl) rfl) ?_
              refine XA.dA 9 rfl rfl rfl (does_load (by kernel_rfl) rfl (Rd.ro (p := qp) (by simp) hzL i0)) ?_
              refine XA.dA 10 rfl rfl rfl (does_eql rfl rfl) ?_
              refine XA.dA 11 rfl rfl rfl (does_move rfl) ?_
              (first | refine XA.split (t := 113) rfl (fun hg => ?_) (fun hg => ?_) | refine XA.splitB (t := 113) rfl (fun hg => ?_) (fun hg => ?_))
              ·
                refine XA.dT 12 rfl rfl rfl (does_move rfl) ?_
                refine XA.dT 13 rfl rfl rfl (does_move rfl) ?_
                refine XA.dT 14 rfl rfl rfl (does_at j (oJ + j * 4) (el := 59) (sz := 4) (by kernel_rfl) (by kernel_rfl) rfl rfl (by omega) (by omega) (by omega)) ?_
                refine XA.dT 15 rfl rfl rfl (does_field (off := 2) (by kernel_rfl) rfl) ?_
                refine XA.dT 16 rfl rfl rfl (does_load (by kernel_rfl) rfl (Rd.ro (p := qp) (by simp) hzJ j2)) ?_
                refine XA.dT 17 rfl rfl rfl (does_move rfl) ?_
                refine XA.dT 18 rfl rfl rfl (does_move rfl) ?_
                refine XA.dT 19 rfl rfl rfl (does_at i (oJ + i * 4) (el := 59) (sz := 4) (by kernel_rfl) (by kernel_rfl) rfl rfl (by omega) (by omega) (by omega)) ?_
                refine XA.dT 20 rfl rfl rfl (does_field (off := 2) (by kernel_rfl) rfl) ?_
                refine XA.dT 21 rfl rfl rfl (does_load (by kernel_rfl) rfl (Rd.ro (p := qp) (by simp) hzL i2)) ?_
                refine XA.next 22 rfl (by kernel_rfl) ?_
                refine xk_guardT rfl rfl ?_; refine xk_eql rfl rfl (by decide) ?_
                refine XA.bt ?_
                refine XA.next 23 rfl (by kernel_rfl) ?_
                (first | refine xk_pickT rfl rfl (by decide) ?_ | refine xk_pickF rfl rfl (by decide) ?_)
                refine XA.bt ?_
                refine XA.done (by kernel_rfl) ?_
                refine XK.norm ?_
                (first | exact XK.meetB (by repeat (first | exact trivial | refine ⟨rfl, ?_⟩)) (by first | (refine get_iff rfl ?_; omega) | (refine get_iff rfl ?_; simp_all; done) | (refine get_false rfl ?_; first | omega | (simp_all; done)) | (refine get_true rfl ?_; first | omega | (simp_all; done)) | (refine get_bool rfl ?_; simp_all; done) | (refine get_iff rfl ⟨fun hh => ?_, fun hh => ?_⟩ <;> first | omega | (simp_all; done) | (simp_all; omega)) | (exfalso; omega)) | exact XK.weakR (by simp) (XK.meetB (by repeat (first | exact trivial | refine ⟨rfl, ?_⟩)) (by first | (refine get_iff rfl ?_; omega) | (refine get_iff rfl ?_; simp_all; done) | (refine get_false rfl ?_; first | omega | (simp_all; done)) | (refine get_true rfl ?_; first | omega | (simp_all; done)) | (refine get_bool rfl ?_; simp_all; done) | (refine get_iff rfl ⟨fun hh => ?_, fun hh => ?_⟩ <;> first | omega | (simp_all; done) | (simp_all; omega)) | (exfalso; omega))))
              ·
                refine XA.dF 12 rfl rfl rfl rfl ?_
                refine XA.dF 13 rfl rfl rfl rfl ?_
                refine XA.dF 14 rfl rfl rfl rfl ?_
                refine XA.dF 15 rfl rfl rfl rfl ?_
                refine XA.dF 16 rfl rfl rfl rfl ?_
                refine XA.dF 17 rfl rfl rfl rfl ?_
                refine XA.dF 18 rfl rfl rfl rfl ?_
                refine XA.dF 19 rfl rfl rfl rfl ?_
                refine XA.dF 20 rfl rfl rfl rfl ?_
                refine XA.dF 21 rfl rfl rfl rfl ?_
                refine XA.next 22 rfl (by kernel_rfl) ?_
                refine xk_guardF rfl rfl rfl (by decide) ?_
                refine XA.bt ?_
                refine XA.next 23 rfl (by kernel_rfl) ?_
                (first | refine xk_pickT rfl rfl (by decide) ?_ | refine xk_pickF rfl rfl (by decide) ?_)
                refine XA.bt ?_
                refine XA.done (by kernel_rfl) ?_
                refine XK.norm ?_
                (first | exact XK.meetB (by repeat (first | exact trivial | refine ⟨rfl, ?_⟩)) (by first | (refine get_iff rfl ?_; omega) | (refine get_iff rfl ?_; simp_all; done) | (refine get_false rfl ?_; first | omega | (simp_all; done)) | (refine get_true rfl ?_; first | omega | (simp_all; done)) | (refine get_bool rfl ?_; simp_all; done) | (refine get_iff rfl ⟨fun hh => ?_, fun hh => ?_⟩ <;> first | omega | (simp_all; done) | (simp_all; omega)) | (exfalso; omega)) | exact XK.weakR (by simp) (XK.meetB (by repeat (first | exact trivial | refine ⟨rfl, ?_⟩)) (by first | (refine get_iff rfl ?_; omega) | (refine get_iff rfl ?_; simp_all; done) | (refine get_false rfl ?_; first | omega | (simp_all; done)) | (refine get_true rfl ?_; first | omega | (simp_all; done)) | (refine get_bool rfl ?_; simp_all; done) | (refine get_iff rfl ⟨fun hh => ?_, fun hh => ?_⟩ <;> first | omega | (simp_all; done) | (simp_all; omega)) | (exfalso; omega))))
            refine XK.cond rfl (fun h => by simp at h) (fun _ => ?_)

            ·
              refine XK.skip ?_
              refine XK.norm ?_

              refine XK.region ?_
              refine xk_move rfl (by decide) ?_
              refine xk_add rfl rfl (wrap_in (by omega)) (by decide) ?_
              refine xk_assign rfl (by decide) ?_
              refine XK.nilN ?_
              exact XK.envS [(19, .int .i64 ((j : Int) + 1)), (14, .int .i64 i), (13, .pointer (some ⟨g5, 0, none⟩)), (12, .pointer (some ⟨g4, 0, none⟩)), (11, .slice (some ⟨bL, oL, none⟩) T.length cAT), (10, .pointer (some ⟨g3, 0, none⟩)), (8, .pointer (some ⟨g1, 0, none⟩))] (XK.round (i - (j + 1)) (by omega) ⟨j + 1, by omega, rfl, rfl, rfl, rfl⟩)
          ·
            refine XK.exit ?_
            refine XK.norm ?_

            refine XK.region ?_
            refine xk_move rfl (by decide) ?_
            refine xk_add rfl rfl (wrap_in (by omega)) (by decide) ?_
            refine xk_assign rfl (by decide) ?_
            refine XK.nilN ?_
            exact XK.envS [(14, .int .i64 ((i : Int) + 1)), (13, .pointer (some ⟨g5, 0, none⟩)), (12, .pointer (some ⟨g4, 0, none⟩)), (11, .slice (some ⟨bL, oL, none⟩) T.length cAT), (10, .pointer (some ⟨g3, 0, none⟩)), (8, .pointer (some ⟨g1, 0, none⟩))] (XK.round (T.length - (i + 1)) (by omega) ⟨i + 1, u, qd, qd, qu, G1, G2, G3, mG1, mG2, mG3, V1, V2, V3, mV1, mV2, mV3, U1, U2, U3, mU1, mU2, mU3, by omega, rfl, hfn, hsu, hGw, hVw, hu, rfl, rfl, rfl⟩)
    ·
      refine XK.exit ?_
      refine XK.norm ?_
      have hiT : i = T.length := by have h' : ¬ (i : Int) < (T.length : Int) := h; omega
      subst hiT
      rw [List.take_length, hfold] at hxi
      subst hxi
      refine XK.cutB 6 (True) ?_ ?_
      · skip

        refine XK.region ?_
        refine xk_ldN 3 rfl ?_
        refine xk_ldN 3 rfl ?_
        refine xk_callR (f := 23) (fi := []) (ca := []) (by kernel_rfl) rfl rfl (by decide) (fun w1 st => alike17_any _ _ xi xi w1 (hnw.le (st.le (by simp))) (hy.le (st.le (by simp))) hsi hsi) ?_
        rw [Wsh.same_self]
        refine xk_move rfl (by decide) ?_
        (first | refine xk_split (t := 129) rfl (fun hg => ?_) (fun hg => ?_) | refine xk_splitB (t := 129) rfl (fun hg => ?_) (fun hg => ?_))
        ·
          refine xk_guardT rfl rfl ?_; refine xk_ldN 4 rfl ?_
          refine xk_guardT rfl rfl ?_; refine xk_ldN 3 rfl ?_
          refine xk_guardT rfl rfl ?_; refine xk_ldN 3 rfl ?_
          refine xk_guardT rfl rfl ?_; refine xk_call [] (f := 19) (fi := []) (ca := []) (by kernel_rfl) rfl rfl (by decide) (by simp) (StepsR []) (fun w1 st => allM_same s xi ▸ stepsM_any hSP hm (st.le (by simp)) hy (st.le (by simp)) hy (st.le (by simp))) ?_
          rintro _ w1 q9 ⟨A9, c9, rfl, h9⟩ _ _ _
          refine xk_guardT rfl rfl ?_; refine xk_len (el := 59) (by kernel_rfl) rfl (by decide) ?_
          refine xk_guardT rfl rfl ?_; refine xk_eql rfl rfl (by decide) ?_
          (first | refine xk_pickT rfl rfl (by decide) ?_ | refine xk_pickF rfl rfl (by decide) ?_)
          refine xk_assign rfl (by decide) ?_
          refine XK.nilN ?_
          (first | exact XK.meetB (by repeat (first | exact trivial | refine ⟨rfl, ?_⟩)) (by first | (refine get_iff rfl ?_; omega) | (refine get_iff rfl ?_; simp_all; done) | (refine get_false rfl ?_; first | omega | (simp_all; done)) | (refine get_true rfl ?_; first | omega | (simp_all; done)) | (refine get_bool rfl ?_; simp_all; done) | (refine get_iff rfl ⟨fun hh => ?_, fun hh => ?_⟩ <;> first | omega | (simp_all; done) | (simp_all; omega)) | (exfalso; omega)) | exact XK.weakR (by simp) (XK.meetB (by repeat (first | exact trivial | refine ⟨rfl, ?_⟩)) (by first | (refine get_iff rfl ?_; omega) | (refine get_iff rfl ?_; simp_all; done) | (refine get_false rfl ?_; first | omega | (simp_all; done)) | (refine get_true rfl ?_; first | omega | (simp_all; done)) | (refine get_bool rfl ?_; simp_all; done) | (refine get_iff rfl ⟨fun hh => ?_, fun hh => ?_⟩ <;> first | omega | (simp_all; done) | (simp_all; omega)) | (exfalso; omega))))
        ·
          refine xk_guardF rfl rfl rfl (by decide) ?_
          refine xk_guardF rfl rfl rfl (by decide) ?_
          refine xk_guardF rfl rfl rfl (by decide) ?_
          refine xk_guardF rfl rfl rfl (by decide) ?_
          refine xk_guardF rfl rfl rfl (by decide) ?_
          refine xk_guardF rfl rfl rfl (by decide) ?_
          (first | refine xk_pickT rfl rfl (by decide) ?_ | refine xk_pickF rfl rfl (by decide) ?_)
          refine xk_assign rfl (by decide) ?_
          refine XK.nilN ?_
          (first | exact XK.meetB (by repeat (first | exact trivial | refine ⟨rfl, ?_⟩)) (by first | (refine get_iff rfl ?_; omega) | (refine get_iff rfl ?_; simp_all; done) | (refine get_false rfl ?_; first | omega | (simp_all; done)) | (refine get_true rfl ?_; first | omega | (simp_all; done)) | (refine get_bool rfl ?_; simp_all; done) | (refine get_iff rfl ⟨fun hh => ?_, fun hh => ?_⟩ <;> first | omega | (simp_all; done) | (simp_all; omega)) | (exfalso; omega)) | exact XK.weakR (by simp) (XK.meetB (by repeat (first | exact trivial | refine ⟨rfl, ?_⟩)) (by first | (refine get_iff rfl ?_; omega) | (refine get_iff rfl ?_; simp_all; done) | (refine get_false rfl ?_; first | omega | (simp_all; done)) | (refine get_true rfl ?_; first | omega | (simp_all; done)) | (refine get_bool rfl ?_; simp_all; done) | (refine get_iff rfl ⟨fun hh => ?_, fun hh => ?_⟩ <;> first | omega | (simp_all; done) | (simp_all; omega)) | (exfalso; omega))))
      refine XK.ret ?_
      refine XK.norm ?_
      exact XK.ret1 rfl rfl fun w1 st => ⟨by simp, st.below (by simp)⟩

end Go.Proofs.Ytbgibbbggajgaaa
