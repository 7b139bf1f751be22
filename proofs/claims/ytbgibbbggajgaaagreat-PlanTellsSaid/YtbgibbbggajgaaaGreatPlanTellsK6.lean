/- PlanTells: what is wanted, the steps, and their words, are as the chapter says. -/
import Derived.Test.YtbgibbbggajgaaaGreatPlanTellsK5
namespace Go.Proofs.YtbgibbbggajgaaaGreat
set_option linter.all false
open Go.RowKit
theorem does_neqS0 {P : Program} {N : Nat} {w0 : World} {e : Env} {R : List Piece} {H : List HP} {d : Nat} {ty : TypeId} {pos : String} {aft : Array Edge} {x y : Operand} {t u : TypeId} {xs ys : List Value} (hf : flatB P t xs ys = true) (he : eqVs xs ys = true) (hx : e.ev x = some (.agg xs.toArray)) (hy : e.ev y = some (.agg ys.toArray)) : Does P N w0 e R H ⟨some d, .binOp .neq t x y u, ty, pos, aft, none⟩ (.bool false) := does_of (fun a w hr => by
  obtain ⟨h1, h2⟩ := run_eqS (w := w) hf
  simp [execOp, hr.ev hx, hr.ev hy, binOp, h1, h2, he])
theorem wantsT (q : Piece) (s : Soc) (A1 A2 A3 A4 : Option Addr) (n1 k1 n2 k2 n3 k3 n4 k4 : Nat) (Aa : Option Addr) (na ca : Nat) (act : List Bool) (w : World) (hSP : SocP q s A1 n1 A2 n2 A3 n3 A4 n4) (hm : s.made) (hq : q.Le (all w)) (hact : SlS (all w) 1 Aa na (boolCells act)) (hna : na = act.length) :
    Calls Tryz.prog 22 #[.agg #[.slice A1 n1 k1, .slice A2 n2 k2, .slice A3 n3 k3, .slice A4 n4 k4], .slice Aa na ca] w (RtW (WishOk (wants s act)) w) := by
  subst hna
  exact wants_any q s A1 A2 A3 A4 n1 k1 n2 k2 n3 k3 n4 k4 Aa ca act w hSP hm hq hact
theorem refWantsT (q : Piece) (s : Soc) (A1 A2 A3 A4 : Option Addr) (n1 k1 n2 k2 n3 k3 n4 k4 : Nat) (Aa : Option Addr) (na ca : Nat) (act : List Bool) (w : World) (hSP : SocP q s A1 n1 A2 n2 A3 n3 A4 n4) (hm : s.made) (hq : q.Le (all w)) (hact : SlS (all w) 1 Aa na (boolCells act)) (hna : na = act.length) (hal : act.length = s.devs.length) :
    Calls Tryz.prog 25 #[.agg #[.slice A1 n1 k1, .slice A2 n2 k2, .slice A3 n3 k3, .slice A4 n4 k4], .slice Aa na ca] w (RtW (WishOk (wants s act)) w) := by
  subst hna
  exact refWants_any q s A1 A2 A3 A4 n1 k1 n2 k2 n3 k3 n4 k4 Aa ca act w hSP hm hq hact hal
theorem refStepsM_any {q qx qy : Piece} {s : Soc} {A1 A2 A3 A4 : Option Addr} {n1 k1 n2 k2 n3 k3 n4 k4 : Nat} {x y : Wsh} {v1 v2 : Value} {w : World} (hS : SocP q s A1 n1 A2 n2 A3 n3 A4 n4) (hm : s.made) (hq : q.Le (all w)) (hx : WshR qx x v1) (hqx : qx.Le (all w)) (hy : WshR qy y v2) (hqy : qy.Le (all w)) :
    Calls Tryz.prog 28 #[.agg #[.slice A1 n1 k1, .slice A2 n2 k2, .slice A3 n3 k3, .slice A4 n4 k4], v1, v2] w (RtW (StepsR (allM s x y)) w) := by
  obtain ⟨B1, b1, B2, b2, B3, b3, rfl, hx1, hx2, hx3⟩ := hx
  obtain ⟨C1, c1, C2, c2, C3, c3, rfl, hy1, hy2, hy3⟩ := hy
  exact refSteps_any q s A1 A2 A3 A4 n1 k1 n2 k2 n3 k3 n4 k4 B1 B2 B3 C1 C2 C3 b1 b2 b3 c1 c2 c3 x y w hS hm hq (hx1.le hqx) (hx2.le hqx) (hx3.le hqx) (hy1.le hqy) (hy2.le hqy) (hy3.le hqy)
theorem stepL_kind {pr msg : Int} {val : Nat → Int} {ids : List Nat} {p : Stp} (h : p ∈ stepL pr msg val ids) : p.msg = msg ∧ p.pr = pr := by
  unfold stepL at h
  obtain ⟨i, _, rfl⟩ := List.mem_map.1 h
  exact ⟨rfl, rfl⟩
theorem allM_kind {s : Soc} {x y : Wsh} : ∀ p ∈ allM s x y, (p.msg = 4 ∧ p.pr = 17) ∨ (p.msg = 7 ∧ p.pr = 20) ∨ (p.msg = 4 ∧ p.pr = 22) := by
  intro p hp
  simp only [allM, allL, List.mem_append] at hp
  rcases hp with hp | hp | hp | hp | hp | hp
  · exact .inl (stepL_kind hp)
  · exact .inr (.inl (stepL_kind hp))
  · exact .inr (.inr (stepL_kind hp))
  · exact .inr (.inr (stepL_kind hp))
  · exact .inr (.inl (stepL_kind hp))
  · exact .inl (stepL_kind hp)
theorem someW_len (s : Soc) (raw : Int) : (someW s.clocks.length s.domains.length s.resets.length raw).d.length = s.domains.length := by simp [someW, bitsL_len]
theorem cmdL_len (x : Int × Int) (a b : Int) : (cmdL x [a, b]).length ≤ 3 := by
  unfold cmdL
  split <;> simp

set_option maxHeartbeats 4000000 in
set_option maxRecDepth 10000 in
theorem planTells_any (A : Option Addr) (n c : Nat) (zs : List Int) (use ra rb tok : Int) (w : World) (h0 : SlS (all w) 1 A n (intCells zs)) (hz : I64s zs) (hn : n = zs.length) (hn2 : n ≤ 9223372036854775807) (huse : -9223372036854775808 ≤ use ∧ use ≤ 9223372036854775807) (hra : -9223372036854775808 ≤ ra ∧ ra ≤ 9223372036854775807) (hrb : -9223372036854775808 ≤ rb ∧ rb ≤ 9223372036854775807) (htok : -9223372036854775808 ≤ tok ∧ tok ≤ 9223372036854775807) :
    Calls Tryz.prog 4 #[.slice A n c, .int .i64 use, .int .i64 ra, .int .i64 rb, .int .i64 tok] w (Rt (.bool true) w) := by
  refine XK.enter (vs := [.slice A n c, .int .i64 use, .int .i64 ra, .int .i64 rb, .int .i64 tok]) Tryz.func4 rfl Tryz.ntmps4 (by simp) ?_
  refine XK.seq ?_

  refine XK.region ?_
  refine xk_assign rfl (by decide) ?_
  refine XK.nilN ?_
  refine XK.seq ?_

  refine XK.region ?_
  refine xk_callR (f := 19) (fi := []) (ca := []) (by kernel_rfl) rfl rfl (by decide) (fun w1 st => shown17_any w1) ?_
  refine xk_assign rfl (by decide) ?_
  refine XK.nilN ?_
  refine XK.seq ?_

  refine XK.region ?_
  refine xk_move rfl (by decide) ?_
  refine xk_call [] (f := 20) (fi := []) (ca := []) (by kernel_rfl) rfl rfl (by decide) (by simp) (fun v w w' => ∃ cs s, v = .agg cs ∧ SocR (slq (fresh w w')) s cs ∧ s.made) (fun w1 st => chip17_any A n c zs w1 (h0.le (st.le (by simp))) hz hn hn2) ?_
  rintro _ w1 q1 ⟨cs, s, rfl, hS, hm⟩ hf _ _
  obtain ⟨A1, n1, k1, A2, n2, k2, A3, n3, k3, A4, n4, k4, rfl, hSP⟩ := (hS.mono (slq_le hf)).P
  obtain ⟨rfl, rfl, rfl, rfl⟩ := hSP.len
  clear hf hS
  refine xk_alloc (cs := [.slice none 0 0, .slice none 0 0, .slice none 0 0, .slice none 0 0]) (zeroB_of (by kernel_rfl)) (by decide) fun g1 => ?_
  (first | (refine xk_storeN 0 rfl rfl rfl (by kernel_rfl) (by simp [Value.cells, Value.oneCell']) (by simp [Value.cells]) ?_) | (refine xk_storeN 1 rfl rfl rfl (by kernel_rfl) (by simp [Value.cells, Value.oneCell']) (by simp [Value.cells]) ?_) | (refine xk_storeN 2 rfl rfl rfl (by kernel_rfl) (by simp [Value.cells, Value.oneCell']) (by simp [Value.cells]) ?_) | (refine xk_storeN 3 rfl rfl rfl (by kernel_rfl) (by simp [Value.cells, Value.oneCell']) (by simp [Value.cells]) ?_) | (refine xk_storeN 4 rfl rfl rfl (by kernel_rfl) (by simp [Value.cells, Value.oneCell']) (by simp [Value.cells]) ?_) | (refine xk_storeN 5 rfl rfl rfl (by kernel_rfl) (by simp [Value.cells, Value.oneCell']) (by simp [Value.cells]) ?_) | (refine xk_storeN 6 rfl rfl rfl (by kernel_rfl) (by simp [Value.cells, Value.oneCell']) (by simp [Value.cells]) ?_) | (refine xk_storeN 7 rfl rfl rfl (by kernel_rfl) (by simp [Value.cells, Value.oneCell']) (by simp [Value.cells]) ?_) | (refine xk_storeN 8 rfl rfl rfl (by kernel_rfl) (by simp [Value.cells, Value.oneCell']) (by simp [Value.cells]) ?_)); simp only [putN, Value.cells, List.set, List.take, List.drop, List.nil_append, List.append_nil, List.length_cons, List.length_nil, List.cons_append, Nat.reduceAdd]
  refine XK.nilN ?_
  refine XK.seq ?_
  refine XK.seq ?_

  refine XK.region ?_
  refine xk_move rfl (by decide) ?_
  (first | refine xk_notD rfl (by decide) ?_ | refine xk_not rfl (by decide) ?_)
  refine XK.nilN ?_
  refine XK.cond rfl (fun h => by cases h) (fun h => ?_)

  ·
    refine XK.skip ?_
    refine XK.norm ?_
    refine XK.seq ?_

    refine XK.region ?_
    refine xk_field (off := 3) (by kernel_rfl) rfl (by decide) ?_
    refine xk_ld rfl ?_
    refine xk_len (el := 94) (by kernel_rfl) rfl (by decide) ?_
    refine xk_move rfl (by decide) ?_
    have hbl := bitsL_len s.devs.length use
    refine xk_call [] (f := 21) (fi := []) (ca := []) (by kernel_rfl) rfl rfl (by decide) (by simp) (BitsOk s.devs.length use) (fun w1 st => bits17_any s.devs.length use w1 (by have := hm.nv; omega)) ?_
    rintro _ w1 qb ⟨Ab, cb, rfl, hb⟩ hf _ _
    have hb := hb.le hf
    clear hf
    generalize hact : bitsL s.devs.length use = act at *
    refine xk_assign rfl (by decide) ?_
    refine XK.nilN ?_
    refine XK.seq ?_

    refine XK.region ?_
    refine xk_ldN 4 rfl ?_
    refine xk_move rfl (by decide) ?_
    have hsmX : (wants s act).sm := (wantN_of s act _).sm hm
    obtain ⟨X, hX0⟩ : ∃ X, X = wants s act := ⟨_, rfl⟩
    rw [← hX0] at hsmX
    refine xk_call [] (f := 22) (fi := []) (ca := []) (by kernel_rfl) rfl rfl (by decide) (by simp) (WishOk X) (fun w1 st => hX0 ▸ wantsT q1 s A1 A2 A3 A4 _ k1 _ k2 _ k3 _ k4 Ab _ _ act w1 hSP hm (st.le (by simp)) (hb.le (st.le (by simp))) hbl.symm) ?_
    rintro _ w1 qX hX hf _ _
    have hX := WshR.le hX hf
    obtain ⟨X1, mX1, X2, mX2, X3, mX3, rfl, e1, e2, e3⟩ := hX
    have hX : WshR qX X _ := ⟨X1, mX1, X2, mX2, X3, mX3, rfl, e1, e2, e3⟩
    clear hf e1 e2 e3
    refine xk_alloc (cs := [.slice none 0 0, .slice none 0 0, .slice none 0 0]) (zeroB_of (by kernel_rfl)) (by decide) fun g2 => ?_
    (first | (refine xk_storeN 0 rfl rfl rfl (by kernel_rfl) (by simp [Value.cells, Value.oneCell']) (by simp [Value.cells]) ?_) | (refine xk_storeN 1 rfl rfl rfl (by kernel_rfl) (by simp [Value.cells, Value.oneCell']) (by simp [Value.cells]) ?_) | (refine xk_storeN 2 rfl rfl rfl (by kernel_rfl) (by simp [Value.cells, Value.oneCell']) (by simp [Value.cells]) ?_) | (refine xk_storeN 3 rfl rfl rfl (by kernel_rfl) (by simp [Value.cells, Value.oneCell']) (by simp [Value.cells]) ?_) | (refine xk_storeN 4 rfl rfl rfl (by kernel_rfl) (by simp [Value.cells, Value.oneCell']) (by simp [Value.cells]) ?_) | (refine xk_storeN 5 rfl rfl rfl (by kernel_rfl) (by simp [Value.cells, Value.oneCell']) (by simp [Value.cells]) ?_) | (refine xk_storeN 6 rfl rfl rfl (by kernel_rfl) (by simp [Value.cells, Value.oneCell']) (by simp [Value.cells]) ?_) | (refine xk_storeN 7 rfl rfl rfl (by kernel_rfl) (by simp [Value.cells, Value.oneCell']) (by simp [Value.cells]) ?_) | (refine xk_storeN 8 rfl rfl rfl (by kernel_rfl) (by simp [Value.cells, Value.oneCell']) (by simp [Value.cells]) ?_)); simp only [putN, Value.cells, List.set, List.take, List.drop, List.nil_append, List.append_nil, List.length_cons, List.length_nil, List.cons_append, Nat.reduceAdd]
    refine XK.nilN ?_
    refine XK.seq ?_
    refine XK.seq ?_

    refine XK.draw 5 (by kernel_rfl) (by kernel_rfl) ?_
    refine XA.dA 0 rfl rfl rfl (does_ldN 3 rfl) ?_
    refine XA.dA 1 rfl rfl rfl (does_ldN 4 rfl) ?_
    refine XA.dA 2 rfl rfl rfl (does_move rfl) ?_
    refine XA.next 3 rfl (by kernel_rfl) ?_
    refine xk_call [] (f := 25) (fi := []) (ca := []) (by kernel_rfl) rfl rfl (by decide) (by simp) (WishOk X) (fun w1 st => hX0 ▸ refWantsT q1 s A1 A2 A3 A4 _ k1 _ k2 _ k3 _ k4 Ab _ _ act w1 hSP hm (st.le (by simp)) (hb.le (st.le (by simp))) hbl.symm hbl) ?_
    rintro _ w1 qY hY hf _ _
    have hY := WshR.le hY hf
    obtain ⟨Y1, mY1, Y2, mY2, Y3, mY3, rfl, e1, e2, e3⟩ := hY
    have hY : WshR qY X _ := ⟨Y1, mY1, Y2, mY2, Y3, mY3, rfl, e1, e2, e3⟩
    clear hf e1 e2 e3
    refine XA.bk ?_
    refine XA.next 4 rfl (by kernel_rfl) ?_
    refine xk_callR (f := 24) (fi := []) (ca := []) (by kernel_rfl) rfl rfl (by decide) (fun w1 st => of17_any Y1 Y2 Y3 _ mY1 _ mY2 _ mY3 w1) ?_
    refine XA.bk ?_
    refine XA.next 5 rfl (by kernel_rfl) ?_
    refine xk_callR (f := 23) (fi := []) (ca := []) (by kernel_rfl) rfl rfl (by decide) (fun w1 st => alike17_any _ _ X X w1 (hX.le (st.le (by simp))) (hY.le (st.le (by simp))) hsmX hsmX) ?_
    rw [Wsh.same_self]
    refine XA.bt ?_
    refine XA.next 6 rfl (by kernel_rfl) ?_
    (first | refine xk_notD rfl (by decide) ?_ | refine xk_not rfl (by decide) ?_)
    refine XA.bt ?_
    refine XA.done (by kernel_rfl) ?_
    refine XK.norm ?_
    refine XK.cond rfl (fun h => by cases h) (fun h => ?_)

    ·
      refine XK.skip ?_
      refine XK.norm ?_
      refine XK.seq ?_

      refine XK.region ?_
      refine xk_ldN 4 rfl ?_
      refine xk_move rfl (by decide) ?_
      refine xk_call [] (f := 26) (fi := []) (ca := []) (by kernel_rfl) rfl rfl (by decide) (by simp) (WishOk (someW s.clocks.length s.domains.length s.resets.length ra)) (fun w1 st => some17_any A1 A2 A3 A4 s.clocks.length k1 s.domains.length k2 s.resets.length k3 s.devs.length k4 ra w1 hra (by have := hm.nc; omega) (by have := hm.nd; omega) (by have := hm.nr; omega)) ?_
      rintro _ w1 q2 hx hf _ _
      have hx := WshR.le hx hf
      have hsmx := someW_sm hm ra
      have hlx := someW_len s ra
      generalize hgx : someW s.clocks.length s.domains.length s.resets.length ra = x at *
      obtain ⟨B1, mB1, B2, mB2, B3, mB3, rfl, e1, e2, e3⟩ := hx
      have hx : WshR q2 x _ := ⟨B1, mB1, B2, mB2, B3, mB3, rfl, e1, e2, e3⟩
      clear hf e1 e2 e3
      refine xk_alloc (cs := [.slice none 0 0, .slice none 0 0, .slice none 0 0]) (zeroB_of (by kernel_rfl)) (by decide) fun g3 => ?_
      (first | (refine xk_storeN 0 rfl rfl rfl (by kernel_rfl) (by simp [Value.cells, Value.oneCell']) (by simp [Value.cells]) ?_) | (refine xk_storeN 1 rfl rfl rfl (by kernel_rfl) (by simp [Value.cells, Value.oneCell']) (by simp [Value.cells]) ?_) | (refine xk_storeN 2 rfl rfl rfl (by kernel_rfl) (by simp [Value.cells, Value.oneCell']) (by simp [Value.cells]) ?_) | (refine xk_storeN 3 rfl rfl rfl (by kernel_rfl) (by simp [Value.cells, Value.oneCell']) (by simp [Value.cells]) ?_) | (refine xk_storeN 4 rfl rfl rfl (by kernel_rfl) (by simp [Value.cells, Value.oneCell']) (by simp [Value.cells]) ?_) | (refine xk_storeN 5 rfl rfl rfl (by kernel_rfl) (by simp [Value.cells, Value.oneCell']) (by simp [Value.cells]) ?_) | (refine xk_storeN 6 rfl rfl rfl (by kernel_rfl) (by simp [Value.cells, Value.oneCell']) (by simp [Value.cells]) ?_) | (refine xk_storeN 7 rfl rfl rfl (by kernel_rfl) (by simp [Value.cells, Value.oneCell']) (by simp [Value.cells]) ?_) | (refine xk_storeN 8 rfl rfl rfl (by kernel_rfl) (by simp [Value.cells, Value.oneCell']) (by simp [Value.cells]) ?_)); simp only [putN, Value.cells, List.set, List.take, List.drop, List.nil_append, List.append_nil, List.length_cons, List.length_nil, List.cons_append, Nat.reduceAdd]
      refine XK.nilN ?_
      refine XK.seq ?_

      refine XK.region ?_
      refine xk_ldN 4 rfl ?_
      refine xk_move rfl (by decide) ?_
      refine xk_call [] (f := 26) (fi := []) (ca := []) (by kernel_rfl) rfl rfl (by decide) (by simp) (WishOk (someW s.clocks.length s.domains.length s.resets.length rb)) (fun w1 st => some17_any A1 A2 A3 A4 s.clocks.length k1 s.domains.length k2 s.resets.length k3 s.devs.length k4 rb w1 hrb (by have := hm.nc; omega) (by have := hm.nd; omega) (by have := hm.nr; omega)) ?_
      rintro _ w1 q3 hy hf _ _
      have hy := WshR.le hy hf
      have hsmy := someW_sm hm rb
      have hly := someW_len s rb
      generalize hgy : someW s.clocks.length s.domains.length s.resets.length rb = y at *
      obtain ⟨C1, mC1, C2, mC2, C3, mC3, rfl, e1, e2, e3⟩ := hy
      have hy : WshR q3 y _ := ⟨C1, mC1, C2, mC2, C3, mC3, rfl, e1, e2, e3⟩
      clear hf e1 e2 e3
      refine xk_alloc (cs := [.slice none 0 0, .slice none 0 0, .slice none 0 0]) (zeroB_of (by kernel_rfl)) (by decide) fun g4 => ?_
      (first | (refine xk_storeN 0 rfl rfl rfl (by kernel_rfl) (by simp [Value.cells, Value.oneCell']) (by simp [Value.cells]) ?_) | (refine xk_storeN 1 rfl rfl rfl (by kernel_rfl) (by simp [Value.cells, Value.oneCell']) (by simp [Value.cells]) ?_) | (refine xk_storeN 2 rfl rfl rfl (by kernel_rfl) (by simp [Value.cells, Value.oneCell']) (by simp [Value.cells]) ?_) | (refine xk_storeN 3 rfl rfl rfl (by kernel_rfl) (by simp [Value.cells, Value.oneCell']) (by simp [Value.cells]) ?_) | (refine xk_storeN 4 rfl rfl rfl (by kernel_rfl) (by simp [Value.cells, Value.oneCell']) (by simp [Value.cells]) ?_) | (refine xk_storeN 5 rfl rfl rfl (by kernel_rfl) (by simp [Value.cells, Value.oneCell']) (by simp [Value.cells]) ?_) | (refine xk_storeN 6 rfl rfl rfl (by kernel_rfl) (by simp [Value.cells, Value.oneCell']) (by simp [Value.cells]) ?_) | (refine xk_storeN 7 rfl rfl rfl (by kernel_rfl) (by simp [Value.cells, Value.oneCell']) (by simp [Value.cells]) ?_) | (refine xk_storeN 8 rfl rfl rfl (by kernel_rfl) (by simp [Value.cells, Value.oneCell']) (by simp [Value.cells]) ?_)); simp only [putN, Value.cells, List.set, List.take, List.drop, List.nil_append, List.append_nil, List.length_cons, List.length_nil, List.cons_append, Nat.reduceAdd]
      refine XK.nilN ?_
      refine XK.seq ?_

      refine XK.region ?_
      refine xk_ldN 4 rfl ?_
      refine xk_ldN 3 rfl ?_
      refine xk_ldN 3 rfl ?_
      have hokT := allM_ok hm x y
      have hlenT := allM_len hm x y
      have hknT := allM_kind (s := s) (x := x) (y := y)
      obtain ⟨T, hT0⟩ : ∃ T, T = allM s x y := ⟨_, rfl⟩
      rw [← hT0] at hokT hlenT hknT
      refine xk_call [] (f := 27) (fi := []) (ca := []) (by kernel_rfl) rfl rfl (by decide) (by simp) (StepsR T) (fun w1 st => hT0 ▸ stepsM_any hSP hm (st.le (by simp)) hx (st.le (by simp)) hy (st.le (by simp))) ?_
      rintro _ w1 qT ⟨AT, cAT, rfl, hT⟩ hf _ _
      have hT := hT.le hf
      clear hf
      refine xk_assign rfl (by decide) ?_
      refine XK.nilN ?_
      refine XK.seq ?_

      refine XK.draw 5 (by kernel_rfl) (by kernel_rfl) ?_
      refine XA.dA 0 rfl rfl rfl (does_ldN 4 rfl) ?_
      refine XA.dA 1 rfl rfl rfl (does_ldN 3 rfl) ?_
      refine XA.dA 3 rfl rfl rfl (does_ldN 3 rfl) ?_
      refine XA.next 2 rfl (by kernel_rfl) ?_
      refine xk_callR (f := 29) (fi := []) (ca := []) (by kernel_rfl) rfl rfl (by decide) (fun w1 st => as17_any B1 B2 B3 _ mB1 _ mB2 _ mB3 w1) ?_
      refine XA.bk ?_
      refine XA.next 4 rfl (by kernel_rfl) ?_
      refine xk_callR (f := 29) (fi := []) (ca := []) (by kernel_rfl) rfl rfl (by decide) (fun w1 st => as17_any C1 C2 C3 _ mC1 _ mC2 _ mC3 w1) ?_
      refine XA.bk ?_
      refine XA.next 5 rfl (by kernel_rfl) ?_
      refine xk_call [] (f := 28) (fi := []) (ca := []) (by kernel_rfl) rfl rfl (by decide) (by simp) (StepsR T) (fun w1 st => hT0 ▸ refStepsM_any hSP hm (st.le (by simp)) hx (st.le (by simp)) hy (st.le (by simp))) ?_
      rintro _ w1 qU ⟨AU, cAU, rfl, hU⟩ hf _ _
      have hU := hU.le hf
      clear hf
      refine XA.bt ?_
      refine XA.next 6 rfl (by kernel_rfl) ?_
      refine xk_assign rfl (by decide) ?_
      refine XA.bt ?_
      refine XA.done (by kernel_rfl) ?_
      refine XK.norm ?_
      refine XK.seq ?_
      refine XK.seq ?_

      refine XK.region ?_
      refine xk_move rfl (by decide) ?_
      refine xk_len (el := 75) (by kernel_rfl) rfl (by decide) ?_
      refine xk_move rfl (by decide) ?_
      refine xk_len (el := 76) (by kernel_rfl) rfl (by decide) ?_
      refine xk_neq rfl rfl (by decide) ?_
      refine XK.nilN ?_
      refine XK.if_ rfl (fun h => absurd rfl h) (fun h => ?_)

      ·
        refine XK.skip ?_
        refine XK.norm ?_
        refine XK.seq ?_
        refine XK.seq ?_

        refine XK.region ?_
        refine xk_assign rfl (by decide) ?_
        refine XK.nilN ?_
        refine XK.weak [1] rfl (by decide) (R' := [qU, qT, q2, all w]) (by simp) ?_
        refine XK.envS [(19, .int .i64 0), (18, .slice AU T.length cAU), (17, .slice AT T.length cAT), (15, .pointer (some ⟨g3, 0, none⟩)), (4, .int .i64 tok)] ?_
        refine XK.block ?_
        refine XK.loop (fun m e R H => ∃ (k : Nat), k ≤ T.length ∧ m = T.length - k ∧ e = [(19, .int .i64 k), (18, .slice AU T.length cAU), (17, .slice AT T.length cAT), (15, .pointer (some ⟨g3, 0, none⟩)), (4, .int .i64 tok)] ∧ R = [qU, qT, q2, all w] ∧ H = [HP.blk g3 62 [.slice B1 x.d.length mB1, .slice B2 x.c.length mB2, .slice B3 x.l.length mB3]]) T.length ⟨0, by omega, rfl, rfl, rfl, rfl⟩ fun m e R H hI => ?_
        obtain ⟨k, hk, rfl, rfl, rfl, rfl⟩ := hI
        refine XK.seq ?_
        refine XK.seq ?_

        refine XK.region ?_
        refine xk_move rfl (by decide) ?_
        refine xk_move rfl (by decide) ?_
        refine xk_len (el := 75) (by kernel_rfl) rfl (by decide) ?_
        refine xk_lss rfl rfl (by decide) ?_
        refine XK.nilN ?_
        refine XK.if_ rfl (fun hin => ?_) (fun hin => ?_)
        ·
          refine XK.skip ?_
          refine XK.norm ?_
          refine XK.seq ?_
          refine XK.block ?_
          refine XK.seq ?_
          have hkT : k < T.length := by have h' : (k : Int) < (T.length : Int) := hin; omega
          obtain ⟨p, hp⟩ : ∃ p, T[k]? = some p := ⟨_, List.getElem?_eq_getElem hkT⟩
          have hpok := hokT p (List.mem_of_getElem? hp)
          have hpid := hpok.id
          have hpv := hpok.v
          have hppr := hpok.pr
          have hpmsg := hpok.msg
          have hpk := packZR (hknT p (List.mem_of_getElem? hp)) tok
          obtain ⟨bT, oT, rfl, hzT, hcT⟩ := hT.step hp
          obtain ⟨bU, oU, rfl, hzU, hcU⟩ := hU.step hp

          refine XK.draw 22 (by kernel_rfl) (by kernel_rfl) ?_
          refine XA.dA 0 rfl rfl rfl (does_move rfl) ?_
          refine XA.dA 1 rfl rfl rfl (does_move rfl) ?_
          refine XA.dA 2 rfl rfl rfl (does_at k (oT + k * 4) (el := 75) (sz := 4) (by kernel_rfl) (by kernel_rfl) rfl rfl (by omega) (by omega) (by omega)) ?_
          refine XA.dA 3 rfl rfl rfl (does_field (off := 0) (by kernel_rfl) rfl) ?_
          refine XA.dA 4 rfl rfl rfl (does_load (by kernel_rfl) rfl (Rd.ro (p := qT) (by simp) hzT (hcT 0 _ rfl))) ?_
          refine XA.dA 5 rfl rfl rfl (does_move rfl) ?_
          refine XA.dA 6 rfl rfl rfl (does_move rfl) ?_
          refine XA.dA 7 rfl rfl rfl (does_at k (oT + k * 4) (el := 75) (sz := 4) (by kernel_rfl) (by kernel_rfl) rfl rfl (by omega) (by omega) (by omega)) ?_
          refine XA.dA 8 rfl rfl rfl (does_field (off := 1) (by kernel_rfl) rfl) ?_
          refine XA.dA 9 rfl rfl rfl (does_load (by kernel_rfl) rfl (Rd.ro (p := qT) (by simp) hzT (hcT 1 _ rfl))) ?_
          refine XA.dA 10 rfl rfl rfl (does_move rfl) ?_
          refine XA.dA 11 rfl rfl rfl (does_move rfl) ?_
          refine XA.dA 12 rfl rfl rfl (does_at k (oT + k * 4) (el := 75) (sz := 4) (by kernel_rfl) (by kernel_rfl) rfl rfl (by omega) (by omega) (by omega)) ?_
          refine XA.dA 13 rfl rfl rfl (does_field (off := 2) (by kernel_rfl) rfl) ?_
          refine XA.dA 14 rfl rfl rfl (does_load (by kernel_rfl) rfl (Rd.ro (p := qT) (by simp) hzT (hcT 2 _ rfl))) ?_
          refine XA.dA 15 rfl rfl rfl (does_move rfl) ?_
          refine XA.dA 16 rfl rfl rfl (does_move rfl) ?_
          refine XA.dA 17 rfl rfl rfl (does_at k (oT + k * 4) (el := 75) (sz := 4) (by kernel_rfl) (by kernel_rfl) rfl rfl (by omega) (by omega) (by omega)) ?_
          refine XA.dA 18 rfl rfl rfl (does_field (off := 3) (by kernel_rfl) rfl) ?_
          refine XA.dA 19 rfl rfl rfl (does_load (by kernel_rfl) rfl (Rd.ro (p := qT) (by simp) hzT (hcT 3 _ rfl))) ?_
          refine XA.dA 20 rfl rfl rfl (does_buildS (zs := [.int .i64 0, .int .i64 0, .int .u32 0, .int .u32 0]) (L := [(0, 1), (1, 1), (2, 1), (3, 1)]) (zeroB_of (by kernel_rfl)) (by kernel_rfl) rfl (by simp [fillL, setN, Value.cells]; rfl)) ?_
          refine XA.next 21 rfl (by kernel_rfl) ?_
          refine xk_alloc (cs := [.int .i64 0, .int .i64 0, .int .u32 0, .int .u32 0]) (zeroB_of (by kernel_rfl)) (by decide) fun g5 => ?_
          refine XA.bk ?_
          refine XA.next 22 rfl (by kernel_rfl) ?_
          (first | (refine xk_storeN 0 rfl rfl rfl (by kernel_rfl) (by simp [Value.cells, Value.oneCell']) (by simp [Value.cells]) ?_) | (refine xk_storeN 1 rfl rfl rfl (by kernel_rfl) (by simp [Value.cells, Value.oneCell']) (by simp [Value.cells]) ?_) | (refine xk_storeN 2 rfl rfl rfl (by kernel_rfl) (by simp [Value.cells, Value.oneCell']) (by simp [Value.cells]) ?_) | (refine xk_storeN 3 rfl rfl rfl (by kernel_rfl) (by simp [Value.cells, Value.oneCell']) (by simp [Value.cells]) ?_) | (refine xk_storeN 4 rfl rfl rfl (by kernel_rfl) (by simp [Value.cells, Value.oneCell']) (by simp [Value.cells]) ?_) | (refine xk_storeN 5 rfl rfl rfl (by kernel_rfl) (by simp [Value.cells, Value.oneCell']) (by simp [Value.cells]) ?_) | (refine xk_storeN 6 rfl rfl rfl (by kernel_rfl) (by simp [Value.cells, Value.oneCell']) (by simp [Value.cells]) ?_) | (refine xk_storeN 7 rfl rfl rfl (by kernel_rfl) (by simp [Value.cells, Value.oneCell']) (by simp [Value.cells]) ?_) | (refine xk_storeN 8 rfl rfl rfl (by kernel_rfl) (by simp [Value.cells, Value.oneCell']) (by simp [Value.cells]) ?_)); simp only [putN, Value.cells, List.set, List.take, List.drop, List.nil_append, List.append_nil, List.length_cons, List.length_nil, List.cons_append, Nat.reduceAdd]
          refine XA.bt ?_
          refine XA.done (by kernel_rfl) ?_
          refine XK.norm ?_
          refine XK.seq ?_

          refine XK.region ?_
          refine xk_move rfl (by decide) ?_
          refine xk_move rfl (by decide) ?_
          refine xk_at k (oT + k * 4) (el := 75) (sz := 4) (by kernel_rfl) (by kernel_rfl) rfl rfl (by omega) (by omega) (by omega) (by decide) ?_
          refine xk_loadN 4 (by kernel_rfl) rfl (RdN.of (vs := [.int .i64 p.pr, .int .i64 p.msg, .int .u32 p.id, .int .u32 p.v]) fun j v hj => Rd.ro (p := qT) (by simp) hzT (hcT j v hj)) rfl (by decide) ?_
          refine xk_move rfl (by decide) ?_
          refine xk_call [] (f := 30) (fi := []) (ca := []) (by kernel_rfl) rfl rfl (by decide) (by simp) (CmdG (cmdL (packR p.msg 0 p.pr tok) [p.id, p.v]) (packR p.msg 0 p.pr tok).2) (fun w1 st => hpk ▸ wordsG_any p.pr p.msg p.id p.v tok w1) ?_
          rintro _ w1 qm ⟨Am, cm, rfl, hmm⟩ hf _ _
          have hmm := hmm.le hf
          clear hf
          refine xk_move rfl (by decide) ?_
          refine xk_extract rfl rfl (by decide) ?_
          refine xk_extract rfl rfl (by decide) ?_
          refine xk_assign rfl (by decide) ?_
          refine xk_assign rfl (by decide) ?_
          refine XK.nilN ?_
          refine XK.seq ?_

          refine XK.region ?_
          refine xk_ldN 4 rfl ?_
          refine xk_move rfl (by decide) ?_
          refine xk_call [] (f := 31) (fi := []) (ca := []) (by kernel_rfl) rfl rfl (by decide) (by simp) (CmdG (cmdL (packR p.msg 0 p.pr tok) [p.id, p.v]) (packR p.msg 0 p.pr tok).2) (fun w1 st => refWords_any p.pr p.msg p.id p.v tok w1) ?_
          rintro _ w1 qn ⟨An, cn, rfl, hnn⟩ hf _ _
          have hnn := hnn.le hf
          clear hf
          have hll := cmdL_len (packR p.msg 0 p.pr tok) p.id p.v
          generalize cmdL (packR p.msg 0 p.pr tok) [p.id, p.v] = ml at *
          generalize (packR p.msg 0 p.pr tok).2 = me at *
          refine xk_move rfl (by decide) ?_
          refine xk_extract rfl rfl (by decide) ?_
          refine xk_extract rfl rfl (by decide) ?_
          refine xk_assign rfl (by decide) ?_
          refine xk_assign rfl (by decide) ?_
          refine XK.nilN ?_
          refine XK.seq ?_

          refine XK.draw 27 (by kernel_rfl) (by kernel_rfl) ?_
          refine XA.dA 0 rfl rfl rfl (does_ldN 4 rfl) ?_
          refine XA.dA 1 rfl rfl rfl (does_move rfl) ?_
          refine XA.dA 2 rfl rfl rfl (does_move rfl) ?_
          refine XA.dA 3 rfl rfl rfl (does_at k (oU + k * 4) (el := 76) (sz := 4) (by kernel_rfl) (by kernel_rfl) rfl rfl (by omega) (by omega) (by omega)) ?_
          refine XA.dA 4 rfl rfl rfl (does_loadN 4 (by kernel_rfl) rfl (RdN.of (vs := [.int .i64 p.pr, .int .i64 p.msg, .int .u32 p.id, .int .u32 p.v]) fun j v hj => Rd.ro (p := qU) (by simp) hzU (hcU j v hj)) rfl) ?_
          refine XA.dA 5 rfl rfl rfl (does_neqS0 (xs := [.int .i64 p.pr, .int .i64 p.msg, .int .u32 p.id, .int .u32 p.v]) (ys := [.int .i64 p.pr, .int .i64 p.msg, .int .u32 p.id, .int .u32 p.v]) (by kernel_rfl) (by simp [eqVs, eqV]) rfl rfl) ?_
          refine XA.dA 6 rfl rfl rfl (does_move rfl) ?_
          refine XA.splitB (t := 114) rfl (fun h => by cases h) (fun _ => ?_)

          ·
            refine XA.dT 7 rfl rfl rfl (does_move rfl) ?_
            refine XA.dT 8 rfl rfl rfl (does_move rfl) ?_
            refine XA.dT 9 rfl rfl rfl (does_neq rfl rfl) ?_
            refine XA.dA 10 rfl rfl rfl (by first | exact does_pickT rfl rfl | exact does_pickF rfl rfl) ?_
            refine XA.dA 11 rfl rfl rfl (does_move rfl) ?_
            refine XA.split (t := 119) rfl (fun h => absurd rfl h) (fun _ => ?_)

            ·
              refine XA.dT 12 rfl rfl rfl (does_move rfl) ?_
              refine XA.dT 13 rfl rfl rfl (does_move rfl) ?_
              refine XA.next 14 rfl (by kernel_rfl) ?_
              refine xk_guardT rfl rfl ?_; refine xk_callR (f := 32) (fi := []) (ca := []) (by kernel_rfl) rfl rfl (by decide) (fun w1 st => refSame_any Am An ml.length cm ml.length cn ml ml w1 (hmm.le (st.le (by simp))) (hnn.le (st.le (by simp))) rfl rfl (by omega)) ?_
              refine XA.bk ?_
              refine XA.dT 15 rfl rfl rfl (does_notD rfl) ?_
              refine XA.dA 16 rfl rfl rfl (by first | exact does_pickT rfl rfl | exact does_pickF rfl rfl) ?_
              refine XA.dA 17 rfl rfl rfl (does_move rfl) ?_
              refine XA.split (t := 125) rfl (fun h => absurd rfl h) (fun _ => ?_)

              ·
                refine XA.dT 18 rfl rfl rfl (does_ldN 3 rfl) ?_
                refine XA.dT 19 rfl rfl rfl (does_move rfl) ?_
                refine XA.dT 20 rfl rfl rfl (does_move rfl) ?_
                refine XA.dT 21 rfl rfl rfl (does_at k (oT + k * 4) (el := 75) (sz := 4) (by kernel_rfl) (by kernel_rfl) rfl rfl (by omega) (by omega) (by omega)) ?_
                refine XA.dT 22 rfl rfl rfl (does_loadN 4 (by kernel_rfl) rfl (RdN.of (vs := [.int .i64 p.pr, .int .i64 p.msg, .int .u32 p.id, .int .u32 p.v]) fun j v hj => Rd.ro (p := qT) (by simp) hzT (hcT j v hj)) rfl) ?_
                refine XA.dT 24 rfl rfl rfl (does_ldN 3 rfl) ?_
                refine XA.dT 26 rfl rfl rfl (does_ldN 4 rfl) ?_
                refine XA.next 23 rfl (by kernel_rfl) ?_
                have hsmu := applyW_sm hsmx p
                obtain ⟨u, hu0⟩ : ∃ u, u = applyW x p := ⟨_, rfl⟩
                rw [← hu0] at hsmu
                refine xk_guardT rfl rfl ?_; refine xk_call [] (f := 33) (fi := []) (ca := []) (by kernel_rfl) rfl rfl (by decide) (by simp) (WishOk u) (fun w1 st => hu0 ▸ apply_any _ x p w1 (hx.le (st.le (by simp))) hsmx hpok) ?_
                rintro _ w1 q4 hu hf _ _
                have hu := WshR.le hu hf
                obtain ⟨D1, mD1, D2, mD2, D3, mD3, rfl, e1, e2, e3⟩ := hu
                have hu : WshR q4 u _ := ⟨D1, mD1, D2, mD2, D3, mD3, rfl, e1, e2, e3⟩
                clear hf e1 e2 e3
                refine XA.bk ?_
                refine XA.next 25 rfl (by kernel_rfl) ?_
                refine xk_guardT rfl rfl ?_; refine xk_callR (f := 29) (fi := []) (ca := []) (by kernel_rfl) rfl rfl (by decide) (fun w1 st => as17_any B1 B2 B3 _ mB1 _ mB2 _ mB3 w1) ?_
                refine XA.bk ?_
                refine XA.next 27 rfl (by kernel_rfl) ?_
                refine xk_guardT rfl rfl ?_; refine xk_call [q2] (f := 34) (fi := []) (ca := []) (by kernel_rfl) rfl rfl (by decide) (by simp) (WishOkP q2 u) (fun w1 st => hu0 ▸ refApply_any q2 _ x p w1 (st.le (by simp)) hx hsmx hpok) ?_
                rintro _ w1 q5 hv hf L5 _
                have hv := hv q5 (L5 q2 (by simp)) hf
                obtain ⟨E1, f1, E2, f2, E3, f3, rfl, e1, e2, e3⟩ := hv
                have hv : WshR q5 u _ := ⟨E1, f1, E2, f2, E3, f3, rfl, e1, e2, e3⟩
                clear hf e1 e2 e3 L5
                refine XA.bt ?_
                refine XA.next 28 rfl (by kernel_rfl) ?_
                refine xk_guardT rfl rfl ?_; refine xk_callR (f := 24) (fi := []) (ca := []) (by kernel_rfl) rfl rfl (by decide) (fun w1 st => of17_any E1 E2 E3 _ f1 _ f2 _ f3 w1) ?_
                refine XA.bt ?_
                refine XA.next 29 rfl (by kernel_rfl) ?_
                refine xk_guardT rfl rfl ?_; refine xk_callR (f := 23) (fi := []) (ca := []) (by kernel_rfl) rfl rfl (by decide) (fun w1 st => alike17_any _ _ u u w1 (hu.le (st.le (by simp))) (hv.le (st.le (by simp))) hsmu hsmu) ?_
                rw [Wsh.same_self]
                refine XA.bt ?_
                refine XA.next 30 rfl (by kernel_rfl) ?_
                refine xk_guardT rfl rfl ?_; (first | refine xk_notD rfl (by decide) ?_ | refine xk_not rfl (by decide) ?_)
                refine XA.bt ?_
                refine XA.next 31 rfl (by kernel_rfl) ?_
                (first | refine xk_pickT rfl rfl (by decide) ?_ | refine xk_pickF rfl rfl (by decide) ?_)
                refine XA.bt ?_
                refine XA.done (by kernel_rfl) ?_
                refine XK.norm ?_
                refine XK.cond rfl (fun h => by cases h) (fun h => ?_)

                ·
                  refine XK.skip ?_
                  refine XK.norm ?_

                  refine XK.region ?_
                  refine xk_move rfl (by decide) ?_
                  refine xk_add rfl rfl (wrap_in (by omega)) (by decide) ?_
                  refine xk_assign rfl (by decide) ?_
                  refine XK.nilN ?_
                  exact XK.weak [1] rfl (by decide) (R' := [qU, qT, q2, all w]) (by simp) (XK.envS [(19, .int .i64 ((k : Int) + 1)), (18, .slice (some ⟨bU, oU, none⟩) T.length cAU), (17, .slice (some ⟨bT, oT, none⟩) T.length cAT), (15, .pointer (some ⟨g3, 0, none⟩)), (4, .int .i64 tok)] (XK.round (T.length - (k + 1)) (by omega) ⟨k + 1, by omega, rfl, rfl, rfl, rfl⟩))
        ·
          refine XK.exit ?_
          refine XK.norm ?_
          refine XK.seq ?_

          refine XK.region ?_
          refine xk_assign rfl (by decide) ?_
          refine XK.nilN ?_
          refine XK.ret ?_
          refine XK.norm ?_
          exact XK.ret1 rfl rfl fun w1 st => ⟨rfl, st.below (by simp)⟩

end Go.Proofs.YtbgibbbggajgaaaGreat
