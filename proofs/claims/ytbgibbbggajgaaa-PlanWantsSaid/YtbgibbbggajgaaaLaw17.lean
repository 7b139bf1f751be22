/- chapter 17's laws: their head; the steps of a chip that is made. -/
import Derived.Test.YtbgibbbggajgaaaPlan5
import Derived.Test.YtbgibbbggajgaaaRefApply
import Derived.Test.YtbgibbbggajgaaaChip17
namespace Go.Proofs.Ytbgibbbggajgaaa
set_option linter.all false
open Go.RowKit
/-- a chip that a piece shows -/
structure SocP (p : Piece) (s : Soc) (A1 : Option Addr) (n1 : Nat) (A2 : Option Addr) (n2 : Nat) (A3 : Option Addr) (n3 : Nat) (A4 : Option Addr) (n4 : Nat) : Prop where
  clk : RsR (slq p) (ClkR (slq p)) 65 6 A1 n1 s.clocks
  dom : RsR (slq p) DomR 61 3 A2 n2 s.domains
  rst : RsR (slq p) RstR 102 1 A3 n3 s.resets
  dev : RsR (slq p) (DevR (slq p)) 83 6 A4 n4 s.devs
section
variable {p q : Piece} {w : World} {s : Soc} {A1 A2 A3 A4 : Option Addr} {n1 n2 n3 n4 : Nat}
theorem SocP.le (h : SocP p s A1 n1 A2 n2 A3 n3 A4 n4) (hl : p.Le q) : SocP q s A1 n1 A2 n2 A3 n3 A4 n4 :=
  ⟨h.clk.mono (slq_le hl) (fun _ _ => ClkR.mono (slq_le hl)), h.dom.mono (slq_le hl) (fun _ _ h => h), h.rst.mono (slq_le hl) (fun _ _ h => h), h.dev.mono (slq_le hl) (fun _ _ => DevR.mono (slq_le hl))⟩
theorem SocP.W (h : SocP p s A1 n1 A2 n2 A3 n3 A4 n4) (hl : p.Le (all w)) (hs : s.small) : SocW w s A1 n1 A2 n2 A3 n3 A4 n4 := ⟨(h.le hl).clk, (h.le hl).dom, (h.le hl).rst, (h.le hl).dev, hs⟩
theorem SocP.len (h : SocP p s A1 n1 A2 n2 A3 n3 A4 n4) : n1 = s.clocks.length ∧ n2 = s.domains.length ∧ n3 = s.resets.length ∧ n4 = s.devs.length := by
  obtain ⟨⟨_, _, h1, _⟩, ⟨_, _, h2, _⟩, ⟨_, _, h3, _⟩, ⟨_, _, h4, _⟩⟩ := h
  exact ⟨h1, h2, h3, h4⟩
theorem SocR.P {cs : Array Value} (h : SocR (slq p) s cs) : ∃ A1 n1 k1 A2 n2 k2 A3 n3 k3 A4 n4 k4, cs = #[.slice A1 n1 k1, .slice A2 n2 k2, .slice A3 n3 k3, .slice A4 n4 k4] ∧ SocP p s A1 n1 A2 n2 A3 n3 A4 n4 := by
  obtain ⟨A1, n1, k1, A2, n2, k2, A3, n3, k3, A4, n4, k4, h0, h1, h2, h3, h4⟩ := h
  exact ⟨A1, n1, k1, A2, n2, k2, A3, n3, k3, A4, n4, k4, h0, h1, h2, h3, h4⟩
end
/-- the steps of a chip whose orders are 0, 1, .. -/
def allM (s : Soc) (x y : Wsh) : List Stp := allL s (List.range s.domains.length) (List.range s.clocks.length) (List.range s.resets.length) x.d x.c x.l y.d y.c y.l
def StepsR (l : List Stp) (v : Value) (w w' : World) : Prop := ∃ A c, v = .slice A l.length c ∧ SlS (fresh w w') 4 A l.length (l.flatMap Stp.cells)
theorem stepsM_any {q qx qy : Piece} {s : Soc} {A1 A2 A3 A4 : Option Addr} {n1 k1 n2 k2 n3 k3 n4 k4 : Nat} {x y : Wsh} {v1 v2 : Value} {w : World} (hS : SocP q s A1 n1 A2 n2 A3 n3 A4 n4) (hm : s.made) (hq : q.Le (all w)) (hx : WshR qx x v1) (hqx : qx.Le (all w)) (hy : WshR qy y v2) (hqy : qy.Le (all w)) :
    Calls Try.prog 19 #[.agg #[.slice A1 n1 k1, .slice A2 n2 k2, .slice A3 n3 k3, .slice A4 n4 k4], v1, v2] w (RtW (StepsR (allM s x y)) w) := by
  obtain ⟨o1, o2, o3⟩ := made_orders hm
  obtain ⟨rfl, rfl, rfl, rfl⟩ := hS.len
  obtain ⟨B1, b1, B2, b2, B3, b3, rfl, hx1, hx2, hx3⟩ := hx
  obtain ⟨C1, c1, C2, c2, C3, c3, rfl, hy1, hy2, hy3⟩ := hy
  have h1 := hm.nc
  have h2 := hm.nd
  have h := steps_S s A1 A2 A3 A4 B1 B2 B3 C1 C2 C3 _ k1 _ k2 _ k3 _ k4 _ b1 _ b2 _ b3 _ c1 _ c2 _ c3 x.d x.c x.l y.d y.c y.l w (hS.W hq (made_small hm)) (made_check hm) (by rw [o2]; simp; omega) (by rw [o1]; simp; omega)
    (fun i hi => by rw [o2] at hi; have := List.mem_range.1 hi; omega) (fun i hi => by rw [o1] at hi; have := List.mem_range.1 hi; omega)
    (hx1.le hqx) rfl (hy1.le hqy) rfl (hx2.le hqx) rfl (hy2.le hqy) rfl (hx3.le hqx) rfl (hy3.le hqy) rfl
  rw [o1, o2] at h
  have hL : allL s ((0 : Int), List.range s.domains.length).2 ((0 : Int), List.range s.clocks.length).2 (List.range s.resets.length) x.d x.c x.l y.d y.c y.l = allM s x y := rfl
  rw [hL] at h
  clear hL
  generalize allM s x y = L at h ⊢
  refine Calls.mono h ?_
  rintro z w' ⟨⟨A, c, hz, hs⟩, hb⟩
  exact ⟨⟨_, hz, ⟨A, c, rfl, hs⟩⟩, hb⟩
theorem Wsh.same_self (x : Wsh) : x.same x = true := by simp [Wsh.same, sameB]
theorem someW_sm {s : Soc} (hm : s.made) (raw : Int) : (someW s.clocks.length s.domains.length s.resets.length raw).sm := by
  have h1 := hm.nc
  have h2 := hm.nd
  have h3 := hm.nr
  exact ⟨by simp [someW, bitsL_len]; omega, by simp [someW, bitsL_len]; omega, by simp [someW, bitsL_len]; omega⟩
def soc1 : Soc := ⟨[], [⟨-1, 0, false⟩], [], []⟩
theorem soc1_steps : allL soc1 (orderE (domsG soc1)).2 (orderE (clocksG soc1)).2 (List.range 0) [false] [] [] [true] [] [] = [⟨17, 4, 0, 1⟩] := by rfl
theorem soc1_check : checkS soc1 = 0 := by rfl
theorem soc1_doms : orderE (domsG soc1) = (0, [0]) := by rfl
theorem soc1_clks : orderE (clocksG soc1) = (0, []) := by rfl
theorem soc1_W {w : World} {g : Nat} (h : SlS (all w) 3 (some ⟨g, 0, none⟩) 1 [.int .i64 (-1), .int .i64 0, .bool false]) : SocW w soc1 none 0 (some ⟨g, 0, none⟩) 1 none 0 none 0 :=
  ⟨⟨[], trivial, rfl, SlS.nil _ _⟩, ⟨[[.int .i64 (-1), .int .i64 0, .bool false]], ⟨rfl, rfl, trivial⟩, rfl, h⟩, ⟨[], trivial, rfl, SlS.nil _ _⟩, ⟨[], trivial, rfl, SlS.nil _ _⟩,
    ⟨by decide, by decide, by decide, by decide, (fun c hc => by cases hc), (fun c hc => by cases hc)⟩⟩

theorem shown17_any (w : World) :
    Calls Try.prog 17 #[] w (Rt (.bool true) w) := by
  refine XK.enter (vs := []) Try.func17 rfl Try.ntmps17 (by simp) ?_
  refine XK.seq ?_

  refine XK.region ?_
  refine xk_assign rfl (by decide) ?_
  refine XK.nil ?_
  (repeat (first | refine XK.thenN ?_ | refine XK.thenE ?_ | refine XK.thenR ?_ | refine XK.inN ?_ | refine XK.inE ?_ | refine XK.inR ?_ | refine XK.inF rfl ?_))
  refine XK.seq ?_

  refine XK.region ?_
  refine xk_buildS (zs := [.int .i64 0, .int .i64 0, .bool false]) (L := [(0, 1), (1, 1), (2, 1)]) (zeroB_of (by kernel_rfl)) (by kernel_rfl) rfl (by simp [fillL, setN, Value.cells]; rfl) (by decide) ?_
  refine xk_slice (el := 61) (sz := 3) (zs := [.int .i64 0, .int .i64 0, .bool false]) (by kernel_rfl) (zeroB_of (by kernel_rfl)) (by kernel_rfl) rfl (by decide) (by decide) rfl (by simp [fillL, setN, Value.cells, List.range_succ, List.set]; rfl) (by decide) fun g1 => ?_
  refine xk_buildS (zs := [.slice none 0 0, .slice none 0 0, .slice none 0 0, .slice none 0 0]) (L := [(0, 1), (1, 1), (2, 1), (3, 1)]) (zeroB_of (by kernel_rfl)) (by kernel_rfl) rfl (by simp [fillL, setN, Value.cells]; rfl) (by decide) ?_
  refine xk_alloc (cs := [.slice none 0 0, .slice none 0 0, .slice none 0 0, .slice none 0 0]) (zeroB_of (by kernel_rfl)) (by decide) fun g2 => ?_
  (first | (refine xk_storeN 0 rfl rfl rfl (by kernel_rfl) (by simp [Value.cells, Value.oneCell']) (by simp [Value.cells]) ?_) | (refine xk_storeN 1 rfl rfl rfl (by kernel_rfl) (by simp [Value.cells, Value.oneCell']) (by simp [Value.cells]) ?_) | (refine xk_storeN 2 rfl rfl rfl (by kernel_rfl) (by simp [Value.cells, Value.oneCell']) (by simp [Value.cells]) ?_) | (refine xk_storeN 3 rfl rfl rfl (by kernel_rfl) (by simp [Value.cells, Value.oneCell']) (by simp [Value.cells]) ?_) | (refine xk_storeN 4 rfl rfl rfl (by kernel_rfl) (by simp [Value.cells, Value.oneCell']) (by simp [Value.cells]) ?_) | (refine xk_storeN 5 rfl rfl rfl (by kernel_rfl) (by simp [Value.cells, Value.oneCell']) (by simp [Value.cells]) ?_) | (refine xk_storeN 6 rfl rfl rfl (by kernel_rfl) (by simp [Value.cells, Value.oneCell']) (by simp [Value.cells]) ?_) | (refine xk_storeN 7 rfl rfl rfl (by kernel_rfl) (by simp [Value.cells, Value.oneCell']) (by simp [Value.cells]) ?_) | (refine xk_storeN 8 rfl rfl rfl (by kernel_rfl) (by simp [Value.cells, Value.oneCell']) (by simp [Value.cells]) ?_)); simp only [putN, Value.cells, List.set, List.take, List.drop, List.nil_append, List.append_nil, List.length_cons, List.length_nil, List.cons_append, Nat.reduceAdd]
  refine XK.nil ?_
  (repeat (first | refine XK.thenN ?_ | refine XK.thenE ?_ | refine XK.thenR ?_ | refine XK.inN ?_ | refine XK.inE ?_ | refine XK.inR ?_ | refine XK.inF rfl ?_))
  refine XK.seq ?_

  refine XK.region ?_
  refine xk_loadN 4 (by kernel_rfl) rfl (by first | assumption | exact RdN.whole 0 rfl | exact RdN.whole 1 rfl | exact RdN.whole 2 rfl | exact RdN.whole 3 rfl | exact RdN.whole 4 rfl | exact RdN.whole 5 rfl | exact RdN.whole 6 rfl | exact RdN.whole 7 rfl | exact RdN.whole 8 rfl | exact RdN.roc (by simp) (by assumption)) rfl (by decide) ?_
  refine xk_slice (el := 4) (sz := 1) (zs := [.bool false]) (by kernel_rfl) (zeroB_of (by kernel_rfl)) (by kernel_rfl) rfl (by decide) (by decide) rfl (by simp [fillL, setN, Value.cells, List.range_succ, List.set]; rfl) (by decide) fun g3 => ?_
  refine xk_buildS (zs := [.slice none 0 0, .slice none 0 0, .slice none 0 0]) (L := [(0, 1), (1, 1), (2, 1)]) (zeroB_of (by kernel_rfl)) (by kernel_rfl) rfl (by simp [fillL, setN, Value.cells]; rfl) (by decide) ?_
  refine xk_slice (el := 4) (sz := 1) (zs := [.bool false]) (by kernel_rfl) (zeroB_of (by kernel_rfl)) (by kernel_rfl) rfl (by decide) (by decide) rfl (by simp [fillL, setN, Value.cells, List.range_succ, List.set]; rfl) (by decide) fun g4 => ?_
  refine xk_buildS (zs := [.slice none 0 0, .slice none 0 0, .slice none 0 0]) (L := [(0, 1), (1, 1), (2, 1)]) (zeroB_of (by kernel_rfl)) (by kernel_rfl) rfl (by simp [fillL, setN, Value.cells]; rfl) (by decide) ?_
  refine xk_call [] (f := 19) (fi := []) (ca := []) (by kernel_rfl) rfl rfl (by decide) (by simp) (StepsR [⟨17, 4, 0, 1⟩]) (fun w1 st => by
    have h := steps_S soc1 none (some ⟨g1, 0, none⟩) none none (some ⟨g3, 0, none⟩) none none (some ⟨g4, 0, none⟩) none none 0 0 1 1 0 0 0 0 1 1 0 0 0 0 1 1 0 0 0 0 [false] [] [] [true] [] [] w1 (soc1_W (st.slS (i := 3) rfl rfl)) soc1_check (by rw [soc1_doms]; decide) (by rw [soc1_clks]; decide) (by rw [soc1_doms]; decide) (by rw [soc1_clks]; decide)
      (st.slS (i := 1) rfl rfl) rfl (st.slS (i := 0) rfl rfl) rfl (SlS.nil _ _) rfl (SlS.nil _ _) rfl (SlS.nil _ _) rfl (SlS.nil _ _) rfl
    rw [soc1_steps] at h
    exact h.mono fun z w' ⟨⟨A, c, hz, hs⟩, hb⟩ => ⟨⟨_, hz, A, c, rfl, hs⟩, hb⟩) ?_
  rintro _ w1 q1 ⟨A, c, rfl, hs⟩ hf _ _
  have hs := hs.le hf
  obtain ⟨b, off, rfl, hz, hc⟩ := hs.2 (by decide)
  clear hf
  refine xk_assign rfl (by decide) ?_
  refine XK.nil ?_
  (repeat (first | refine XK.thenN ?_ | refine XK.thenE ?_ | refine XK.thenR ?_ | refine XK.inN ?_ | refine XK.inE ?_ | refine XK.inR ?_ | refine XK.inF rfl ?_))
  refine XK.seq ?_

  refine XK.region ?_
  refine xk_move rfl (by decide) ?_
  refine xk_len (el := 59) (by kernel_rfl) rfl (by decide) ?_
  refine xk_eql rfl rfl (by decide) ?_
  refine xk_move rfl (by decide) ?_
  refine xk_split (t := 15) rfl (fun hg => ?_) (fun hg => ?_)
  ·
    refine xk_guardT rfl rfl ?_; refine xk_move rfl (by decide) ?_
    refine xk_guardT rfl rfl ?_; refine xk_at 0 off (el := 59) (sz := 4) (by kernel_rfl) (by kernel_rfl) rfl rfl rfl (by decide) (by omega) (by decide) ?_
    refine xk_guardT rfl rfl ?_; refine xk_loadN 4 (by kernel_rfl) rfl (RdN.of (vs := [.int .i64 17, .int .i64 4, .int .u32 0, .int .u32 1]) fun j v hj => Rd.ro (p := q1) (by simp) hz (hc j v hj)) rfl (by decide) ?_
    refine xk_guardT rfl rfl ?_; refine xk_buildS (zs := [.int .i64 0, .int .i64 0, .int .u32 0, .int .u32 0]) (L := [(0, 1), (1, 1), (2, 1), (3, 1)]) (zeroB_of (by kernel_rfl)) (by kernel_rfl) rfl (by simp [fillL, setN, Value.cells]; rfl) (by decide) ?_
    refine xk_guardT rfl rfl ?_; refine xk_eqlS (xs := [.int .i64 17, .int .i64 4, .int .u32 0, .int .u32 1]) (ys := [.int .i64 17, .int .i64 4, .int .u32 0, .int .u32 1]) (by kernel_rfl) rfl rfl (by decide) ?_
    (first | refine xk_pickT rfl rfl (by decide) ?_ | refine xk_pickF rfl rfl (by decide) ?_)
    refine xk_assign rfl (by decide) ?_
    refine XK.nil ?_
    (repeat (first | refine XK.thenN ?_ | refine XK.thenE ?_ | refine XK.thenR ?_ | refine XK.inN ?_ | refine XK.inE ?_ | refine XK.inR ?_ | refine XK.inF rfl ?_))
    refine XK.ret ?_
    (repeat (first | refine XK.thenN ?_ | refine XK.thenE ?_ | refine XK.thenR ?_ | refine XK.inN ?_ | refine XK.inE ?_ | refine XK.inR ?_ | refine XK.inF rfl ?_))
    exact XK.ret1 rfl rfl fun w1 st => ⟨rfl, st.below (by simp)⟩
  ·
    exact absurd rfl hg

end Go.Proofs.Ytbgibbbggajgaaa
