/- The reference's graphs of a chip. -/
import Derived.Test.YtcoifdhdhglioaaGreatRpmErrsK3
namespace Go.Proofs.YtcoifdhdhglioaaGreat
set_option linter.all false
open Go.RowKit
section
theorem GrS.ofOwn {q q2 : Piece} {g : List (List Int)} {vs : List Value} {A : Option Addr} {n c : Nat} (h : Rows (LstR (slq q)) 1 g (vs.map fun v => [v])) (hl : q.Le q2) (h1 : ∃ F, (HP.own 22 1 (.slice A n c) n vs).sat F q2.w ∧ ∀ b, F b → q2.Z b) (hn : n = g.length) : GrS q2 A n g := by
 obtain ⟨F, hs, hz⟩ := h1
 refine ⟨_, h.mono (fun _ _ => LstR.mono (slq_le hl)), hn, ?_⟩
 rw [show (vs.map fun v => [v]).flatten = vs by clear h hs; induction vs <;> simp_all]
 obtain ⟨A', c', e, hS⟩ := SlS.of_own (Y := q2.Z) hs hz
 injection e with e1 e2 e3
 subst e1
 exact hS
theorem refClocks_any (s : Soc) (A1 A2 A3 A4 : Option Addr) (n1 k1 n2 k2 n3 k3 n4 k4 : Nat) (w : World) (hW : SocW w s A1 n1 A2 n2 A3 n3 A4 n4) :
  Calls Tryz.prog 120 #[.agg #[.slice A1 n1 k1, .slice A2 n2 k2, .slice A3 n3 k3, .slice A4 n4 k4]] w (fun y w' => (∃ v, y = .returned v ∧ GrOk (clocksG s) v w w') ∧ Below w.heap.size w w') := by
 have hn := hW.len1
 have hsm := hW.small
 unfold Soc.small at hsm
 obtain ⟨hs1, hs2, hs3, hs4, hs5, hs6⟩ := hsm
 refine XK.enter (vs := [.agg #[.slice A1 n1 k1, .slice A2 n2 k2, .slice A3 n3 k3, .slice A4 n4 k4]]) Tryz.func120 rfl Tryz.ntmps120 (by simp) ?_
 refine XK.seq ?_
 refine XK.region ?_
 refine xk_box rfl (by decide) fun g1 => ?_
 refine xk_assign rfl (by decide) ?_
 refine XK.nilN ?_
 refine XK.seq ?_
 refine XK.region ?_
 refine xk_assign rfl (by decide) ?_
 refine XK.nilN ?_
 refine XK.seq ?_
 refine XK.seq ?_
 refine XK.region ?_
 refine xk_assign rfl (by decide) ?_
 refine XK.nilN ?_
 refine XK.envS [(4, .int .i64 0), (3, .slice none 0 0), (1, .pointer (some ⟨g1, 0, none⟩))] ?_
 refine XK.nilrow 22 1 ?_
 refine XK.still [] [] [0, 1] (by simp) rfl (by decide) (by decide) fun q0 _ _ hfr0 => ?_
 refine XK.block ?_
 refine XK.loop (fun m e R H => ∃ (k : Nat) (vs : List Value) (q : Piece) (Ag : Option Addr) (cg : Nat), k ≤ n1 ∧ m = n1 - k ∧ Fresh w q ∧ Rows (LstR (slq q)) 1 ((clocksG s).take k) (vs.map fun v => [v]) ∧ e = [(4, .int .i64 k), (3, .slice Ag k cg), (1, .pointer (some ⟨g1, 0, none⟩))] ∧ R = [q, all w] ∧ H = [HP.own 22 1 (.slice Ag k cg) k vs, HP.blk g1 34 [.slice A1 n1 k1, .slice A2 n2 k2, .slice A3 n3 k3, .slice A4 n4 k4]]) n1 ⟨0, [], _, none, 0, by omega, rfl, hfr0 (by simp) (by simp), trivial, rfl, rfl, rfl⟩ fun m e R H hI => ?_
 obtain ⟨k, vs, q, Ag, cg, hk, rfl, hfq, hrows, rfl, rfl, rfl⟩ := hI
 refine XK.seq ?_
 refine XK.seq ?_
 refine XK.region ?_
 refine xk_move rfl (by decide) ?_
 refine xk_field (off := 0) (by kernel_rfl) rfl (by decide) ?_
 refine xk_ld rfl ?_
 refine xk_len (el := 64) (by kernel_rfl) rfl (by decide) ?_
 refine xk_lss rfl rfl (by decide) ?_
 refine XK.nilN ?_
 refine XK.if_ rfl (fun h => ?_) (fun h => ?_)
 ·
  refine XK.skip ?_
  refine XK.norm ?_
  refine XK.seq ?_
  refine XK.block ?_
  have hkn : k < s.clocks.length := by omega
  obtain ⟨e, he⟩ : ∃ e, s.clocks[k]? = some e := ⟨_, List.getElem?_eq_getElem hkn⟩
  obtain ⟨b, off, r, rfl, hrl, hR, hro⟩ := hW.clk.row he
  obtain ⟨Af, nf, kf, rfl, hnf, hsf⟩ := hR
  have hgk : (clocksG s)[k]? = some (e.src) := by simp [clocksG, he]
  refine XK.region ?_
  refine xk_move rfl (by decide) ?_
  refine xk_slice0 (el := 3) (sz := 1) (by kernel_rfl) (by kernel_rfl) (by decide) fun g4 => ?_
  refine XK.asOwn 0 1 0 rfl rfl (by omega) ?_
  dsimp only [List.set]
  refine xk_field (off := 0) (by kernel_rfl) rfl (by decide) ?_
  refine xk_ld rfl ?_
  refine xk_move rfl (by decide) ?_
  refine xk_at k (off + k * 6) (el := 64) (sz := 6) (by kernel_rfl) (by kernel_rfl) rfl rfl (by omega) (by omega) (by omega) (by decide) ?_
  refine xk_field (off := 1) (by kernel_rfl) rfl (by decide) ?_
  refine xk_load (by kernel_rfl) rfl (Rd.roc (by simp) (hro.at_ (j := 1) rfl)) (by decide) ?_
  refine xk_appendT 0 1 8 nf (n' := nf) (el := 3) (by kernel_rfl) (by kernel_rfl) (by decide) rfl rfl rfl (sl_ro (p := all w) (by simp) hsf) (by simp [intCells, Value.oneCell']) (by omega) (by have := hs5 e (List.mem_of_getElem? he); omega) (by have := hs5 e (List.mem_of_getElem? he); omega) (by decide) fun A5 c5 => ?_
  dsimp only [List.set, List.nil_append]
  refine xk_slice (el := 22) (sz := 1) (zs := [.slice none 0 0]) (by kernel_rfl) (zeroB_of (by kernel_rfl)) (by kernel_rfl) rfl (by decide) (by decide) rfl (by simp [fillL, setN, Value.cells, List.range_succ, List.set]; rfl) (by decide) fun g3 => ?_
  refine xk_appendT 2 1 24 1 (n' := k + 1) (el := 22) (by kernel_rfl) (by kernel_rfl) (by decide) rfl rfl rfl (sl_blk 0 rfl rfl) (by simp [Value.oneCell']) rfl (by omega) (by omega) (by decide) fun A6 c6 => ?_
  dsimp only [List.set]
  refine xk_assign rfl (by decide) ?_
  refine XK.nilN ?_
  refine XK.region ?_
  refine xk_move rfl (by decide) ?_
  refine xk_add rfl rfl (wrap_in (by omega)) (by decide) ?_
  refine xk_assign rfl (by decide) ?_
  refine XK.nilN ?_
  refine XK.still [q] [1] [2, 3] (by simp) rfl (by decide) (by decide) fun q' hq' hle hfr' => ?_
  obtain ⟨Fg, hsg, hzg⟩ := hq' 1 _ (by simp) rfl
  obtain ⟨A7, c7, e7, hso⟩ := SlS.of_own (Y := q'.Z) hsg hzg
  injection e7 with f1 f2 f3
  subst f1
  exact XK.weak [0, 1] rfl (by decide) (by simp) (XK.envS [(4, .int .i64 (k + 1)), (3, .slice A6 (k + 1) c6), (1, .pointer (some ⟨g1, 0, none⟩))] (XK.round (n1 - (k + 1)) (by omega) ⟨k + 1, vs ++ [_], q', A6, c6, by omega, rfl, hfr' (by simp) (by simpa using hfq), rows_next hrows (hle q (by simp)) hgk ⟨A5, nf, c5, rfl, hnf, hso⟩, rfl, rfl, rfl⟩))
 ·
  refine XK.exit ?_
  refine XK.norm ?_
  refine XK.seq ?_
  obtain rfl : k = n1 := by omega
  rw [List.take_of_length_le (by simp [clocksG]; omega)] at hrows
  refine XK.region ?_
  refine xk_move rfl (by decide) ?_
  refine xk_assign rfl (by decide) ?_
  refine XK.nilN ?_
  refine XK.ret ?_
  refine XK.norm ?_
  refine XK.still [q] [0] [] (by simp) rfl (by decide) (by decide) fun q2 hq hle hfr => ?_
  have hgl : k = (clocksG s).length := by simp [clocksG]; omega
  exact XK.ret1 rfl rfl fun w1 st => ⟨⟨_, rfl, Ag, cg, by rw [← hgl], by rw [← hgl]; exact (GrS.ofOwn hrows (hle q (by simp)) (hq 0 _ (by simp) rfl) hgl).le (st.fresh_le (by simp) (hfr (by simp) (by simpa using hfq)))⟩, st.below (by simp)⟩
theorem refDoms_any (s : Soc) (A1 A2 A3 A4 : Option Addr) (n1 k1 n2 k2 n3 k3 n4 k4 : Nat) (w : World) (hW : SocW w s A1 n1 A2 n2 A3 n3 A4 n4) :
  Calls Tryz.prog 122 #[.agg #[.slice A1 n1 k1, .slice A2 n2 k2, .slice A3 n3 k3, .slice A4 n4 k4]] w (fun y w' => (∃ v, y = .returned v ∧ GrOk (domsG s) v w w') ∧ Below w.heap.size w w') := by
 have hn := hW.len2
 have hsm := hW.small
 unfold Soc.small at hsm
 obtain ⟨hs1, hs2, hs3, hs4, hs5, hs6⟩ := hsm
 refine XK.enter (vs := [.agg #[.slice A1 n1 k1, .slice A2 n2 k2, .slice A3 n3 k3, .slice A4 n4 k4]]) Tryz.func122 rfl Tryz.ntmps122 (by simp) ?_
 refine XK.seq ?_
 refine XK.region ?_
 refine xk_box rfl (by decide) fun g1 => ?_
 refine xk_assign rfl (by decide) ?_
 refine XK.nilN ?_
 refine XK.seq ?_
 refine XK.region ?_
 refine xk_assign rfl (by decide) ?_
 refine XK.nilN ?_
 refine XK.seq ?_
 refine XK.seq ?_
 refine XK.region ?_
 refine xk_assign rfl (by decide) ?_
 refine XK.nilN ?_
 refine XK.envS [(4, .int .i64 0), (3, .slice none 0 0), (1, .pointer (some ⟨g1, 0, none⟩))] ?_
 refine XK.nilrow 22 1 ?_
 refine XK.still [] [] [0, 1] (by simp) rfl (by decide) (by decide) fun q0 _ _ hfr0 => ?_
 refine XK.block ?_
 refine XK.loop (fun m e R H => ∃ (k : Nat) (vs : List Value) (q : Piece) (Ag : Option Addr) (cg : Nat), k ≤ n2 ∧ m = n2 - k ∧ Fresh w q ∧ Rows (LstR (slq q)) 1 ((domsG s).take k) (vs.map fun v => [v]) ∧ e = [(4, .int .i64 k), (3, .slice Ag k cg), (1, .pointer (some ⟨g1, 0, none⟩))] ∧ R = [q, all w] ∧ H = [HP.own 22 1 (.slice Ag k cg) k vs, HP.blk g1 34 [.slice A1 n1 k1, .slice A2 n2 k2, .slice A3 n3 k3, .slice A4 n4 k4]]) n2 ⟨0, [], _, none, 0, by omega, rfl, hfr0 (by simp) (by simp), trivial, rfl, rfl, rfl⟩ fun m e R H hI => ?_
 obtain ⟨k, vs, q, Ag, cg, hk, rfl, hfq, hrows, rfl, rfl, rfl⟩ := hI
 refine XK.seq ?_
 refine XK.seq ?_
 refine XK.region ?_
 refine xk_move rfl (by decide) ?_
 refine xk_field (off := 1) (by kernel_rfl) rfl (by decide) ?_
 refine xk_ld rfl ?_
 refine xk_len (el := 49) (by kernel_rfl) rfl (by decide) ?_
 refine xk_lss rfl rfl (by decide) ?_
 refine XK.nilN ?_
 refine XK.if_ rfl (fun h => ?_) (fun h => ?_)
 ·
  refine XK.skip ?_
  refine XK.norm ?_
  refine XK.seq ?_
  refine XK.block ?_
  refine XK.seq ?_
  have hkn : k < s.domains.length := by omega
  obtain ⟨e, he⟩ : ∃ e, s.domains[k]? = some e := ⟨_, List.getElem?_eq_getElem hkn⟩
  obtain ⟨b, off, r, rfl, hrl, hR, hro⟩ := hW.dom.row he
  obtain rfl := hR
  have hgk : (domsG s)[k]? = some (if e.above = -1 then [] else [e.above]) := by simp [domsG, he]
  refine XK.region ?_
  refine xk_assign rfl (by decide) ?_
  refine XK.nilN ?_
  refine XK.seq ?_
  refine XK.seq ?_
  refine XK.region ?_
  refine xk_field (off := 1) (by kernel_rfl) rfl (by decide) ?_
  refine xk_ld rfl ?_
  refine xk_move rfl (by decide) ?_
  refine xk_at k (off + k * 3) (el := 49) (sz := 3) (by kernel_rfl) (by kernel_rfl) rfl rfl (by omega) (by omega) (by omega) (by decide) ?_
  refine xk_field (off := 0) (by kernel_rfl) rfl (by decide) ?_
  refine xk_load (by kernel_rfl) rfl (Rd.roc (by simp) (hro.at_ (j := 0) rfl)) (by decide) ?_
  refine xk_neq rfl rfl (by decide) ?_
  refine XK.nilN ?_
  refine XK.if_ rfl (fun hab => ?_) (fun hab => ?_)
  ·
   refine XK.nilrow 3 1 ?_
   refine XK.region ?_
   refine xk_move rfl (by decide) ?_
   refine xk_field (off := 1) (by kernel_rfl) rfl (by decide) ?_
   refine xk_ld rfl ?_
   refine xk_move rfl (by decide) ?_
   refine xk_at k (off + k * 3) (el := 49) (sz := 3) (by kernel_rfl) (by kernel_rfl) rfl rfl (by omega) (by omega) (by omega) (by decide) ?_
   refine xk_field (off := 0) (by kernel_rfl) rfl (by decide) ?_
   refine xk_load (by kernel_rfl) rfl (Rd.roc (by simp) (hro.at_ (j := 0) rfl)) (by decide) ?_
   refine xk_slice (el := 3) (sz := 1) (zs := [.int .i64 0]) (by kernel_rfl) (zeroB_of (by kernel_rfl)) (by kernel_rfl) rfl (by decide) (by decide) rfl (by simp [fillL, setN, Value.cells, List.range_succ, List.set]; rfl) (by decide) fun g2 => ?_
   refine xk_appendT 1 1 8 1 (n' := 1) (v := .slice none 0 0) (el := 3) (by kernel_rfl) (by kernel_rfl) (by decide) rfl rfl rfl (sl_blk 0 rfl rfl) (by simp [Value.oneCell']) rfl (by omega) (by omega) (by decide) fun A5 c5 => ?_
   dsimp only [List.set, List.nil_append]
   refine xk_assign rfl (by decide) ?_
   refine XK.nilN ?_
   refine XK.region ?_
   refine xk_move rfl (by decide) ?_
   refine xk_move rfl (by decide) ?_
   refine xk_slice (el := 22) (sz := 1) (zs := [.slice none 0 0]) (by kernel_rfl) (zeroB_of (by kernel_rfl)) (by kernel_rfl) rfl (by decide) (by decide) rfl (by simp [fillL, setN, Value.cells, List.range_succ, List.set]; rfl) (by decide) fun g3 => ?_
   refine xk_appendT 3 1 24 1 (n' := k + 1) (el := 22) (by kernel_rfl) (by kernel_rfl) (by decide) rfl rfl rfl (sl_blk 0 rfl rfl) (by simp [Value.oneCell']) rfl (by omega) (by omega) (by decide) fun A6 c6 => ?_
   dsimp only [List.set]
   refine xk_assign rfl (by decide) ?_
   refine XK.nilN ?_
   refine XK.region ?_
   refine xk_move rfl (by decide) ?_
   refine xk_add rfl rfl (wrap_in (by omega)) (by decide) ?_
   refine xk_assign rfl (by decide) ?_
   refine XK.nilN ?_
   refine XK.still [q] [2] [3, 4] (by simp) rfl (by decide) (by decide) fun q' hq' hle hfr' => ?_
   obtain ⟨Fg, hsg, hzg⟩ := hq' 2 _ (by simp) rfl
   obtain ⟨A7, c7, e7, hso⟩ := SlS.of_own (Y := q'.Z) hsg hzg
   injection e7 with f1 f2 f3
   subst f1
   exact XK.weak [0, 1] rfl (by decide) (by simp) (XK.envS [(4, .int .i64 (k + 1)), (3, .slice A6 (k + 1) c6), (1, .pointer (some ⟨g1, 0, none⟩))] (XK.round (n2 - (k + 1)) (by omega) ⟨k + 1, vs ++ [_], q', A6, c6, by omega, rfl, hfr' (by simp) (by simpa using hfq), rows_next hrows (hle q (by simp)) hgk (by rw [if_neg hab]; exact ⟨A5, 1, c5, rfl, rfl, hso⟩), rfl, rfl, rfl⟩))
  ·
   refine XK.skip ?_
   refine XK.norm ?_
   refine XK.region ?_
   refine xk_move rfl (by decide) ?_
   refine xk_move rfl (by decide) ?_
   refine xk_slice (el := 22) (sz := 1) (zs := [.slice none 0 0]) (by kernel_rfl) (zeroB_of (by kernel_rfl)) (by kernel_rfl) rfl (by decide) (by decide) rfl (by simp [fillL, setN, Value.cells, List.range_succ, List.set]; rfl) (by decide) fun g4 => ?_
   refine xk_appendT 1 1 24 1 (n' := k + 1) (el := 22) (by kernel_rfl) (by kernel_rfl) (by decide) rfl rfl rfl (sl_blk 0 rfl rfl) (by simp [Value.oneCell']) rfl (by omega) (by omega) (by decide) fun A6 c6 => ?_
   dsimp only [List.set]
   refine xk_assign rfl (by decide) ?_
   refine XK.nilN ?_
   refine XK.region ?_
   refine xk_move rfl (by decide) ?_
   refine xk_add rfl rfl (wrap_in (by omega)) (by decide) ?_
   refine xk_assign rfl (by decide) ?_
   refine XK.nilN ?_
   exact XK.weak [1, 2] rfl (by decide) (by simp) (XK.envS [(4, .int .i64 (k + 1)), (3, .slice A6 (k + 1) c6), (1, .pointer (some ⟨g1, 0, none⟩))] (XK.round (n2 - (k + 1)) (by omega) ⟨k + 1, vs ++ [_], q, A6, c6, by omega, rfl, hfq, rows_next hrows (fun b hb => ⟨hb, rfl⟩) hgk (by rw [if_pos (Classical.not_not.1 hab)]; exact ⟨_, 0, 0, rfl, rfl, SlS.nil _ 1⟩), rfl, rfl, rfl⟩))
 ·
  refine XK.exit ?_
  refine XK.norm ?_
  refine XK.seq ?_
  obtain rfl : k = n2 := by omega
  rw [List.take_of_length_le (by simp [domsG]; omega)] at hrows
  refine XK.region ?_
  refine xk_move rfl (by decide) ?_
  refine xk_assign rfl (by decide) ?_
  refine XK.nilN ?_
  refine XK.ret ?_
  refine XK.norm ?_
  refine XK.still [q] [0] [] (by simp) rfl (by decide) (by decide) fun q2 hq hle hfr => ?_
  have hgl : k = (domsG s).length := by simp [domsG]; omega
  exact XK.ret1 rfl rfl fun w1 st => ⟨⟨_, rfl, Ag, cg, by rw [← hgl], by rw [← hgl]; exact (GrS.ofOwn hrows (hle q (by simp)) (hq 0 _ (by simp) rfl) hgl).le (st.fresh_le (by simp) (hfr (by simp) (by simpa using hfq)))⟩, st.below (by simp)⟩
end
section
def doneC (n j : Nat) : List Value := (List.replicate j (Value.bool true)) ++ List.replicate (n - j) (.bool false)
theorem doneC_len {n j : Nat} (h : j ≤ n) : (doneC n j).length = n := by simp [doneC]; omega
theorem doneC_lt {n j v : Nat} (h : v < j) : (doneC n j)[v]? = some (.bool true) := by
 rw [doneC, List.getElem?_append_left (by simpa using h), List.getElem?_replicate, if_pos h]
theorem doneC_at {n j : Nat} (h : j < n) : (doneC n j)[j]? = some (.bool false) := by
 rw [doneC, List.getElem?_append_right (by simp)]
 simp [List.getElem?_replicate]; omega
theorem doneC_set {n j : Nat} (h : j < n) : (doneC n j).set j (.bool true) = doneC n (j + 1) := by
 unfold doneC
 rw [List.set_append_right _ _ (by simp), List.length_replicate, Nat.sub_self, show n - j = (n - (j + 1)) + 1 by omega, List.replicate_succ, List.set_cons_zero, List.replicate_succ' (n := j), List.append_assoc]
 rfl
theorem SlS.intR {w : World} {A : Option Addr} {n : Nat} {l : List Int} (h : SlS (all w) 1 A n (intCells l)) (hn : 0 < n) : ∃ b off, A = some ⟨b, off, none⟩ ∧ ∀ (i : Nat) (x : Int), l[i]? = some x → ROc w b (off + i) (.int .i64 x) := by
 obtain ⟨b, off, hA, hb, hc⟩ := h.2 hn
 refine ⟨b, off, hA, fun i x hx => ⟨hb, hc i _ ?_⟩⟩
 simp only [intCells, List.getElem?_map, hx, Option.map_some]
theorem rangeN_next (j : Nat) : intCells (natI (List.range j)) ++ [.int .i64 (j : Int)] = intCells (natI (List.range (j + 1))) := by
 rw [List.range_succ]; simp [intCells, natI]
def rangeV (n : Nat) (v : Value) (w w' : World) : Prop := ∃ A c, v = .slice A n c ∧ SlS (fresh w w') 1 A n (intCells (natI (List.range n)))
theorem refOrder_any (A : Option Addr) (n c : Nat) (g : List (List Int)) (w : World) (hg : GrS (all w) A n g) (hn : n = g.length) (hn2 : n ≤ 100) (hg2 : ∀ l ∈ g, l.length ≤ 1000000) (hless : ∀ (v : Nat) (l : List Int), g[v]? = some l → ∀ y ∈ l, 0 ≤ y ∧ y < (v : Int)) :
  Calls Tryz.prog 128 #[.slice A n c] w (fun y w' => (∃ v, y = .returned v ∧ rangeV n v w w') ∧ Below w.heap.size w w') := by
 refine XK.enter (vs := [.slice A n c]) Tryz.func128 rfl Tryz.ntmps128 (by simp) ?_
 refine XK.seq ?_
 refine XK.region ?_
 refine xk_assign rfl (by decide) ?_
 refine XK.nilN ?_
 refine XK.seq ?_
 refine XK.region ?_
 refine xk_assign rfl (by decide) ?_
 refine XK.nilN ?_
 refine XK.seq ?_
 refine XK.region ?_
 refine xk_move rfl (by decide) ?_
 refine xk_len (el := 22) (by kernel_rfl) rfl (by decide) ?_
 refine XK.nilrow 3 1 ?_
 refine xk_makeT 1 (n := n) (el := 4) (z := .bool false) (by kernel_rfl) (by kernel_rfl) rfl rfl rfl (by omega) (by omega) (by decide) fun g1 => ?_
 refine xk_assign rfl (by decide) ?_
 refine XK.nilN ?_
 refine XK.seq ?_
 refine XK.region ?_
 refine xk_assign rfl (by decide) ?_
 refine XK.nilN ?_
 refine XK.seq ?_
 refine XK.envS [(5, .bool true), (4, .slice (some ⟨g1, 0, none⟩) n n), (3, .slice none 0 0), (0, .slice A n c)] ?_
 refine XK.block ?_
 refine XK.loop (fun m e R H => ∃ (j : Nat) (mo : Bool) (Ao : Option Addr) (co : Nat), j ≤ n ∧ (mo = false → j = n) ∧ m = 2 * (n - j) + mo.toNat ∧ e = [(5, .bool mo), (4, .slice (some ⟨g1, 0, none⟩) n n), (3, .slice Ao j co), (0, .slice A n c)] ∧ R = [all w] ∧ H = [HP.blk g1 4 (doneC n j), HP.own 3 1 (.slice Ao j co) j (intCells (natI (List.range j)))]) (2 * n + 1) ⟨0, true, none, 0, by omega, (fun h => by cases h), by simp, rfl, rfl, by simp [doneC, intCells, natI]⟩ fun m e R H hI => ?_
 obtain ⟨j, mo, Ao, co, hj, hmo, rfl, rfl, rfl, rfl⟩ := hI
 refine XK.seq ?_
 refine XK.seq ?_
 refine XK.region ?_
 refine xk_move rfl (by decide) ?_
 refine XK.nilN ?_
 refine XK.cond rfl (fun h => ?_) (fun h => ?_)
 ·
  refine XK.skip ?_
  refine XK.norm ?_
  refine XK.block ?_
  refine XK.seq ?_
  subst h
  refine XK.region ?_
  refine xk_assign rfl (by decide) ?_
  refine XK.nilN ?_
  refine XK.seq ?_
  refine XK.region ?_
  refine xk_assign rfl (by decide) ?_
  refine XK.nilN ?_
  refine XK.envS [(6, .int .i64 0), (5, .bool false), (4, .slice (some ⟨g1, 0, none⟩) n n), (3, .slice Ao j co), (0, .slice A n c)] ?_
  refine XK.block ?_
  refine XK.loop (fun m e R H => ∃ (v : Nat) (mi : Bool) (jj : Nat) (Ao : Option Addr) (co : Nat), v ≤ n ∧ ((mi = false ∧ jj = j ∧ v ≤ j) ∨ (mi = true ∧ jj = j + 1 ∧ j < n ∧ v = j + 1)) ∧ m = n - v ∧ e = [(6, .int .i64 v), (5, .bool mi), (4, .slice (some ⟨g1, 0, none⟩) n n), (3, .slice Ao jj co), (0, .slice A n c)] ∧ R = [all w] ∧ H = [HP.blk g1 4 (doneC n jj), HP.own 3 1 (.slice Ao jj co) jj (intCells (natI (List.range jj)))]) n ⟨0, false, j, Ao, co, by omega, .inl ⟨rfl, rfl, by omega⟩, rfl, rfl, rfl, rfl⟩ fun m e R H hI => ?_
  obtain ⟨v, mi, jj, Ao, co, hv, hst, rfl, rfl, rfl, rfl⟩ := hI
  refine XK.seq ?_
  refine XK.cutB 20 (v < n ∧ mi = false) ?_ ?_
  ·skip
   refine XK.region ?_
   refine xk_move rfl (by decide) ?_
   refine xk_move rfl (by decide) ?_
   refine xk_len (el := 22) (by kernel_rfl) rfl (by decide) ?_
   refine xk_lss rfl rfl (by decide) ?_
   refine xk_move rfl (by decide) ?_
   (first | refine xk_split (t := 17) rfl (fun hg => ?_) (fun hg => ?_) | refine xk_splitB (t := 17) rfl (fun hg => ?_) (fun hg => ?_))
   ·
    refine xk_guardT rfl rfl ?_; refine xk_move rfl (by decide) ?_
    refine xk_guardT rfl rfl ?_; (first | refine xk_notD rfl (by decide) ?_ | refine xk_not rfl (by decide) ?_)
    (first | refine xk_pickT rfl rfl (by decide) ?_ | refine xk_pickF rfl rfl (by decide) ?_)
    refine XK.nilN ?_
    exact XK.meetBS
   ·
    refine xk_guardF rfl rfl rfl (by decide) ?_
    refine xk_guardF rfl rfl rfl (by decide) ?_
    (first | refine xk_pickT rfl rfl (by decide) ?_ | refine xk_pickF rfl rfl (by decide) ?_)
    refine XK.nilN ?_
    exact XK.meetBS
  refine XK.if_ rfl (fun hin => ?_) (fun hin => ?_)
  ·
   refine XK.skip ?_
   refine XK.norm ?_
   refine XK.seq ?_
   refine XK.block ?_
   refine XK.seq ?_
   obtain ⟨hvn, hmf⟩ := hin
   obtain ⟨hvj, hjj⟩ : v ≤ j ∧ jj = j := by
    rcases hst with ⟨_, h2, h3⟩ | ⟨h1, _⟩
    ·exact ⟨h3, h2⟩
    ·rw [hmf] at h1; cases h1
   subst hjj
   subst hmf
   clear hst
   obtain ⟨l, hl⟩ : ∃ l, g[v]? = some l := ⟨g[v]'(by omega), List.getElem?_eq_getElem _⟩
   have hlt := hless v l hl
   have hlen := hg2 l (List.mem_of_getElem? hl)
   obtain ⟨bG, oG, Al, kl, rfl, hcG, hsl⟩ := hg.row hl
   have hdv : (doneC n jj)[v]? = some (.bool (decide (¬ v = jj))) := by
    by_cases hvj2 : v = jj
    ·subst hvj2; rw [doneC_at hvn]; simp
    ·rw [doneC_lt (by omega)]; simp [hvj2]
   refine XK.region ?_
   refine xk_move rfl (by decide) ?_
   refine xk_move rfl (by decide) ?_
   refine xk_at v v (el := 4) (sz := 1) (by kernel_rfl) (by kernel_rfl) rfl rfl (by omega) (by omega) (by omega) (by decide) ?_
   refine xk_load (by kernel_rfl) rfl (Rd.blk 0 rfl hdv) (by decide) ?_
   refine xk_notD rfl (by decide) ?_
   rw [show decide (¬ ¬ v = jj) = decide (v = jj) by simp]
   refine xk_assign rfl (by decide) ?_
   refine XK.nilN ?_
   refine XK.seq ?_
   refine XK.seq ?_
   refine XK.region ?_
   refine xk_assign rfl (by decide) ?_
   refine XK.nilN ?_
   refine XK.envS [(8, .int .i64 0), (7, .bool (decide (v = jj))), (6, .int .i64 v), (5, .bool false), (4, .slice (some ⟨g1, 0, none⟩) n n), (3, .slice Ao jj co), (0, .slice (some ⟨bG, oG, none⟩) n c)] ?_
   refine XK.block ?_
   refine XK.loop (fun m e R H => ∃ (i : Nat) (rb : Bool), i ≤ l.length ∧ rb = decide (v = jj) ∧ m = l.length - i ∧ e = [(8, .int .i64 i), (7, .bool rb), (6, .int .i64 v), (5, .bool false), (4, .slice (some ⟨g1, 0, none⟩) n n), (3, .slice Ao jj co), (0, .slice (some ⟨bG, oG, none⟩) n c)] ∧ R = [all w] ∧ H = [HP.blk g1 4 (doneC n jj), HP.own 3 1 (.slice Ao jj co) jj (intCells (natI (List.range jj)))]) l.length ⟨0, _, by omega, rfl, rfl, rfl, rfl, rfl⟩ fun m e R H hI => ?_
   obtain ⟨i, rb, hi, hrb, rfl, rfl, rfl, rfl⟩ := hI
   refine XK.seq ?_
   refine XK.seq ?_
   refine XK.region ?_
   refine xk_move rfl (by decide) ?_
   refine xk_move rfl (by decide) ?_
   refine xk_move rfl (by decide) ?_
   refine xk_at v (oG + v) (el := 22) (sz := 1) (by kernel_rfl) (by kernel_rfl) rfl rfl (by omega) (by omega) (by omega) (by decide) ?_
   refine xk_load (by kernel_rfl) rfl (Rd.roc (by simp) hcG) (by decide) ?_
   refine xk_len (el := 3) (by kernel_rfl) rfl (by decide) ?_
   refine xk_lss rfl rfl (by decide) ?_
   refine XK.nilN ?_
   refine XK.if_ rfl (fun hil => ?_) (fun hil => ?_)
   ·
    refine XK.skip ?_
    refine XK.norm ?_
    refine XK.seq ?_
    refine XK.block ?_
    have hil' : i < l.length := by have h' : (i : Int) < (l.length : Int) := hil; omega
    obtain ⟨y, hy⟩ : ∃ y, l[i]? = some y := ⟨_, List.getElem?_eq_getElem hil'⟩
    have hyb := hlt y (List.mem_of_getElem? hy)
    obtain ⟨bI, oI, hAI, hcI⟩ := hsl.intR (by omega)
    subst hAI
    have hcy := hcI i y hy
    refine XK.region ?_
    refine xk_move rfl (by decide) ?_
    refine xk_move rfl (by decide) ?_
    refine xk_splitB (t := 38) rfl (fun hg1 => ?_) (fun hg1 => ?_)
    ·
     have hdy : (doneC n jj)[y.toNat]? = some (.bool true) := doneC_lt (by omega)
     refine xk_guardT rfl rfl ?_; refine xk_move rfl (by decide) ?_
     refine xk_guardT rfl rfl ?_; refine xk_move rfl (by decide) ?_
     refine xk_guardT rfl rfl ?_; refine xk_move rfl (by decide) ?_
     refine xk_guardT rfl rfl ?_; refine xk_at v (oG + v) (el := 22) (sz := 1) (by kernel_rfl) (by kernel_rfl) rfl rfl (by omega) (by omega) (by omega) (by decide) ?_
     refine xk_guardT rfl rfl ?_; refine xk_load (by kernel_rfl) rfl (Rd.roc (by simp) hcG) (by decide) ?_
     refine xk_guardT rfl rfl ?_; refine xk_move rfl (by decide) ?_
     refine xk_guardT rfl rfl ?_; refine xk_at i (oI + i) (el := 3) (sz := 1) (by kernel_rfl) (by kernel_rfl) rfl rfl (by omega) (by omega) (by omega) (by decide) ?_
     refine xk_guardT rfl rfl ?_; refine xk_load (by kernel_rfl) rfl (Rd.roc (by simp) hcy) (by decide) ?_
     refine xk_guardT rfl rfl ?_; refine xk_at y.toNat y.toNat (el := 4) (sz := 1) (by kernel_rfl) (by kernel_rfl) rfl rfl (by omega) (by omega) (by omega) (by decide) ?_
     refine xk_guardT rfl rfl ?_; refine xk_load (by kernel_rfl) rfl (Rd.blk 0 rfl hdy) (by decide) ?_
     (first | refine xk_pickT rfl rfl (by decide) ?_ | refine xk_pickF rfl rfl (by decide) ?_)
     refine xk_assign rfl (by decide) ?_
     refine XK.nilN ?_
     refine XK.region ?_
     refine xk_move rfl (by decide) ?_
     refine xk_add rfl rfl (wrap_in (by omega)) (by decide) ?_
     refine xk_assign rfl (by decide) ?_
     refine XK.nilN ?_
     exact XK.envS [(8, .int .i64 ((i : Int) + 1)), (7, .bool true), (6, .int .i64 v), (5, .bool false), (4, .slice (some ⟨g1, 0, none⟩) n n), (3, .slice Ao jj co), (0, .slice (some ⟨bG, oG, none⟩) n c)] (XK.round (l.length - (i + 1)) (by omega) ⟨i + 1, true, by omega, by rw [← hrb, hg1], rfl, rfl, rfl, rfl⟩)
    ·
     refine xk_guardF rfl rfl rfl (by decide) ?_
     refine xk_guardF rfl rfl rfl (by decide) ?_
     refine xk_guardF rfl rfl rfl (by decide) ?_
     refine xk_guardF rfl rfl rfl (by decide) ?_
     refine xk_guardF rfl rfl rfl (by decide) ?_
     refine xk_guardF rfl rfl rfl (by decide) ?_
     refine xk_guardF rfl rfl rfl (by decide) ?_
     refine xk_guardF rfl rfl rfl (by decide) ?_
     refine xk_guardF rfl rfl rfl (by decide) ?_
     refine xk_guardF rfl rfl rfl (by decide) ?_
     (first | refine xk_pickT rfl rfl (by decide) ?_ | refine xk_pickF rfl rfl (by decide) ?_)
     refine xk_assign rfl (by decide) ?_
     refine XK.nilN ?_
     refine XK.region ?_
     refine xk_move rfl (by decide) ?_
     refine xk_add rfl rfl (wrap_in (by omega)) (by decide) ?_
     refine xk_assign rfl (by decide) ?_
     refine XK.nilN ?_
     exact XK.envS [(8, .int .i64 ((i : Int) + 1)), (7, .bool false), (6, .int .i64 v), (5, .bool false), (4, .slice (some ⟨g1, 0, none⟩) n n), (3, .slice Ao jj co), (0, .slice (some ⟨bG, oG, none⟩) n c)] (XK.round (l.length - (i + 1)) (by omega) ⟨i + 1, false, by omega, by rw [← hrb, hg1], rfl, rfl, rfl, rfl⟩)
   ·
    refine XK.exit ?_
    refine XK.norm ?_
    refine XK.seq ?_
    refine XK.region ?_
    refine xk_move rfl (by decide) ?_
    refine XK.nilN ?_
    refine XK.cond rfl (fun hrd => ?_) (fun hrd => ?_)
    ·
     refine XK.seq ?_
     have hvj2 : v = jj := of_decide_eq_true (hrb ▸ hrd)
     subst hvj2
     refine XK.region ?_
     refine xk_move rfl (by decide) ?_
     refine xk_move rfl (by decide) ?_
     refine xk_at v v (el := 4) (sz := 1) (by kernel_rfl) (by kernel_rfl) rfl rfl (by omega) (by omega) (by omega) (by decide) ?_
     refine xk_store 0 rfl (by kernel_rfl) rfl rfl rfl (by rw [doneC_len (by omega)]; omega) ?_
     dsimp only [List.set]
     rw [doneC_set hvn]
     refine XK.nilN ?_
     refine XK.seq ?_
     refine XK.region ?_
     refine xk_move rfl (by decide) ?_
     refine xk_move rfl (by decide) ?_
     refine xk_slice (el := 3) (sz := 1) (zs := [.int .i64 0]) (by kernel_rfl) (zeroB_of (by kernel_rfl)) (by kernel_rfl) rfl (by decide) (by decide) rfl (by simp [fillL, setN, Value.cells, List.range_succ, List.set]; rfl) (by decide) fun g2 => ?_
     refine xk_appendT 2 1 8 1 (n' := v + 1) (el := 3) (by kernel_rfl) (by kernel_rfl) (by decide) rfl rfl rfl (sl_blk 0 rfl rfl) (by simp [Value.oneCell']) rfl (by omega) (by omega) (by decide) fun A9 c9 => ?_
     dsimp only [List.set]
     rw [rangeN_next]
     refine xk_assign rfl (by decide) ?_
     refine XK.nilN ?_
     refine XK.region ?_
     refine xk_assign rfl (by decide) ?_
     refine XK.nilN ?_
     refine XK.region ?_
     refine xk_move rfl (by decide) ?_
     refine xk_add rfl rfl (wrap_in (by omega)) (by decide) ?_
     refine xk_assign rfl (by decide) ?_
     refine XK.nilN ?_
     exact XK.weak [1, 2] rfl (by decide) (fun _ h => h) (XK.envS [(6, .int .i64 ((v : Int) + 1)), (5, .bool true), (4, .slice (some ⟨g1, 0, none⟩) n n), (3, .slice A9 (v + 1) c9), (0, .slice (some ⟨bG, oG, none⟩) n c)] (XK.round (n - (v + 1)) (by omega) ⟨v + 1, true, v + 1, A9, c9, by omega, .inr ⟨rfl, rfl, hvn, rfl⟩, rfl, rfl, rfl, rfl⟩))
    ·
     refine XK.skip ?_
     refine XK.norm ?_
     refine XK.region ?_
     refine xk_move rfl (by decide) ?_
     refine xk_add rfl rfl (wrap_in (by omega)) (by decide) ?_
     refine xk_assign rfl (by decide) ?_
     refine XK.nilN ?_
     exact XK.envS [(6, .int .i64 ((v : Int) + 1)), (5, .bool false), (4, .slice (some ⟨g1, 0, none⟩) n n), (3, .slice Ao jj co), (0, .slice (some ⟨bG, oG, none⟩) n c)] (XK.round (n - (v + 1)) (by omega) ⟨v + 1, false, jj, Ao, co, by omega, .inl ⟨rfl, rfl, by have hne : ¬ v = jj := of_decide_eq_false (hrb ▸ hrd); omega⟩, rfl, rfl, rfl, rfl⟩)
  ·
   refine XK.exit ?_
   refine XK.norm ?_
   rcases hst with ⟨rfl, rfl, h3⟩ | ⟨rfl, rfl, h3, rfl⟩
   ·have hjn : jj = n := by
     rcases Nat.lt_or_ge v n with h9 | h9
     ·exact absurd ⟨h9, rfl⟩ hin
     ·omega
    exact XK.envS [(5, .bool false), (4, .slice (some ⟨g1, 0, none⟩) n n), (3, .slice Ao jj co), (0, .slice A n c)] (XK.round (2 * (n - jj) + 0) (by simp) ⟨jj, false, Ao, co, by omega, (fun _ => hjn), by simp, rfl, rfl, rfl⟩)
   ·exact XK.envS [(5, .bool true), (4, .slice (some ⟨g1, 0, none⟩) n n), (3, .slice Ao (j + 1) co), (0, .slice A n c)] (XK.round (2 * (n - (j + 1)) + 1) (by simp; omega) ⟨j + 1, true, Ao, co, by omega, (fun h => by cases h), by simp, rfl, rfl, rfl⟩)
 ·
  refine XK.exit ?_
  refine XK.norm ?_
  refine XK.seq ?_
  refine XK.region ?_
  refine xk_move rfl (by decide) ?_
  refine xk_assign rfl (by decide) ?_
  refine XK.nilN ?_
  refine XK.ret ?_
  refine XK.norm ?_
  obtain rfl := hmo h
  refine XK.still [] [1] [] (by simp) rfl (by decide) (by decide) fun q hq _ hfr => ?_
  obtain ⟨F1, sf1, zf1⟩ := hq 1 _ (by simp) rfl
  obtain ⟨A8, c8, e8, h8⟩ := SlS.of_own (Y := q.Z) sf1 zf1
  injection e8 with f1 f2 f3
  subst f1
  exact XK.ret1 rfl rfl fun w1 st => ⟨⟨_, rfl, Ao, co, rfl, SlS.le h8 (st.fresh_le (by simp) (hfr (by simp) (by simp)))⟩, st.below (by simp)⟩
end
section
theorem refCheck_any (A : Option Addr) (n c : Nat) (g : List (List Int)) (w : World) (hg : GrS (all w) A n g) (hn : n = g.length) (hn2 : n ≤ 100) (hg2 : ∀ l ∈ g, l.length ≤ 1000000) (hless : ∀ (v : Nat) (l : List Int), g[v]? = some l → ∀ y ∈ l, 0 ≤ y ∧ y < (v : Int)) :
  Calls Tryz.prog 119 #[.slice A n c] w (Rt (.int .i64 0) w) := by
 refine XK.enter (vs := [.slice A n c]) Tryz.func119 rfl Tryz.ntmps119 (by simp) ?_
 refine XK.seq ?_
 refine XK.region ?_
 refine xk_assign rfl (by decide) ?_
 refine XK.nilN ?_
 refine XK.seq ?_
 refine XK.seq ?_
 refine XK.region ?_
 refine xk_move rfl (by decide) ?_
 refine xk_len (el := 22) (by kernel_rfl) rfl (by decide) ?_
 refine xk_gtr rfl rfl (by decide) ?_
 refine XK.nilN ?_
 refine XK.if_ rfl (fun h => absurd h (by omega)) (fun h => ?_)
 ·
  refine XK.skip ?_
  refine XK.norm ?_
  refine XK.seq ?_
  refine XK.seq ?_
  refine XK.region ?_
  refine xk_assign rfl (by decide) ?_
  refine XK.nilN ?_
  refine XK.envS [(3, .int .i64 0), (0, .slice A n c)] ?_
  refine XK.block ?_
  refine XK.loop (fun m e R H => ∃ (v : Nat), v ≤ n ∧ m = n - v ∧ e = [(3, .int .i64 v), (0, .slice A n c)] ∧ R = [all w] ∧ H = []) n ⟨0, by omega, rfl, rfl, rfl, rfl⟩ fun m e R H hI => ?_
  obtain ⟨v, hv, rfl, rfl, rfl, rfl⟩ := hI
  refine XK.seq ?_
  refine XK.seq ?_
  refine XK.region ?_
  refine xk_move rfl (by decide) ?_
  refine xk_move rfl (by decide) ?_
  refine xk_len (el := 22) (by kernel_rfl) rfl (by decide) ?_
  refine xk_lss rfl rfl (by decide) ?_
  refine XK.nilN ?_
  refine XK.if_ rfl (fun hvl => ?_) (fun hvl => ?_)
  ·
   refine XK.skip ?_
   refine XK.norm ?_
   refine XK.seq ?_
   refine XK.block ?_
   refine XK.seq ?_
   have hvn : v < n := by have h' : (v : Int) < (n : Int) := hvl; omega
   obtain ⟨l, hl⟩ : ∃ l, g[v]? = some l := ⟨g[v]'(by omega), List.getElem?_eq_getElem _⟩
   have hlt := hless v l hl
   have hlen := hg2 l (List.mem_of_getElem? hl)
   obtain ⟨bG, oG, Al, kl, rfl, hcG, hsl⟩ := hg.row hl
   refine XK.region ?_
   refine xk_assign rfl (by decide) ?_
   refine XK.nilN ?_
   refine XK.envS [(4, .int .i64 0), (3, .int .i64 v), (0, .slice (some ⟨bG, oG, none⟩) n c)] ?_
   refine XK.block ?_
   refine XK.loop (fun m e R H => ∃ (i : Nat), i ≤ l.length ∧ m = l.length - i ∧ e = [(4, .int .i64 i), (3, .int .i64 v), (0, .slice (some ⟨bG, oG, none⟩) n c)] ∧ R = [all w] ∧ H = []) l.length ⟨0, by omega, rfl, rfl, rfl, rfl⟩ fun m e R H hI => ?_
   obtain ⟨i, hi, rfl, rfl, rfl, rfl⟩ := hI
   refine XK.seq ?_
   refine XK.seq ?_
   refine XK.region ?_
   refine xk_move rfl (by decide) ?_
   refine xk_move rfl (by decide) ?_
   refine xk_move rfl (by decide) ?_
   refine xk_at v (oG + v) (el := 22) (sz := 1) (by kernel_rfl) (by kernel_rfl) rfl rfl (by omega) (by omega) (by omega) (by decide) ?_
   refine xk_load (by kernel_rfl) rfl (Rd.roc (by simp) hcG) (by decide) ?_
   refine xk_len (el := 3) (by kernel_rfl) rfl (by decide) ?_
   refine xk_lss rfl rfl (by decide) ?_
   refine XK.nilN ?_
   refine XK.if_ rfl (fun hil => ?_) (fun hil => ?_)
   ·
    refine XK.skip ?_
    refine XK.norm ?_
    refine XK.seq ?_
    refine XK.block ?_
    have hil' : i < l.length := by have h' : (i : Int) < (l.length : Int) := hil; omega
    obtain ⟨y, hy⟩ : ∃ y, l[i]? = some y := ⟨_, List.getElem?_eq_getElem hil'⟩
    have hyb := hlt y (List.mem_of_getElem? hy)
    obtain ⟨bI, oI, hAI, hcI⟩ := hsl.intR (by omega)
    subst hAI
    have hcy := hcI i y hy
    refine XK.cutB 42 (False) ?_ ?_
    ·skip
     refine XK.region ?_
     refine xk_move rfl (by decide) ?_
     refine xk_move rfl (by decide) ?_
     refine xk_at v (oG + v) (el := 22) (sz := 1) (by kernel_rfl) (by kernel_rfl) rfl rfl (by omega) (by omega) (by omega) (by decide) ?_
     refine xk_load (by kernel_rfl) rfl (Rd.roc (by simp) hcG) (by decide) ?_
     refine xk_move rfl (by decide) ?_
     refine xk_at i (oI + i) (el := 3) (sz := 1) (by kernel_rfl) (by kernel_rfl) rfl rfl (by omega) (by omega) (by omega) (by decide) ?_
     refine xk_load (by kernel_rfl) rfl (Rd.roc (by simp) hcy) (by decide) ?_
     refine xk_lss rfl rfl (by decide) ?_
     refine xk_move rfl (by decide) ?_
     (first | refine xk_split (t := 31) rfl (fun hg => ?_) (fun hg => ?_) | refine xk_splitB (t := 31) rfl (fun hg => ?_) (fun hg => ?_))
     ·
      refine xk_guardF rfl rfl rfl (by decide) ?_
      refine xk_guardF rfl rfl rfl (by decide) ?_
      refine xk_guardF rfl rfl rfl (by decide) ?_
      refine xk_guardF rfl rfl rfl (by decide) ?_
      refine xk_guardF rfl rfl rfl (by decide) ?_
      refine xk_guardF rfl rfl rfl (by decide) ?_
      refine xk_guardF rfl rfl rfl (by decide) ?_
      refine xk_guardF rfl rfl rfl (by decide) ?_
      refine xk_guardF rfl rfl rfl (by decide) ?_
      refine xk_guardF rfl rfl rfl (by decide) ?_
      (first | refine xk_pickT rfl rfl (by decide) ?_ | refine xk_pickF rfl rfl (by decide) ?_)
      refine XK.nilN ?_
      exact XK.meetB (by repeat (first | exact trivial | refine ⟨rfl, ?_⟩)) (by first | (exfalso; omega) | (refine get_iff rfl ⟨fun hh => ?_, fun hh => hh.elim⟩; omega) | (refine get_false rfl ?_; exact id))
     ·
      refine xk_guardT rfl rfl ?_; refine xk_move rfl (by decide) ?_
      refine xk_guardT rfl rfl ?_; refine xk_move rfl (by decide) ?_
      refine xk_guardT rfl rfl ?_; refine xk_at v (oG + v) (el := 22) (sz := 1) (by kernel_rfl) (by kernel_rfl) rfl rfl (by omega) (by omega) (by omega) (by decide) ?_
      refine xk_guardT rfl rfl ?_; refine xk_load (by kernel_rfl) rfl (Rd.roc (by simp) hcG) (by decide) ?_
      refine xk_guardT rfl rfl ?_; refine xk_move rfl (by decide) ?_
      refine xk_guardT rfl rfl ?_; refine xk_at i (oI + i) (el := 3) (sz := 1) (by kernel_rfl) (by kernel_rfl) rfl rfl (by omega) (by omega) (by omega) (by decide) ?_
      refine xk_guardT rfl rfl ?_; refine xk_load (by kernel_rfl) rfl (Rd.roc (by simp) hcy) (by decide) ?_
      refine xk_guardT rfl rfl ?_; refine xk_move rfl (by decide) ?_
      refine xk_guardT rfl rfl ?_; refine xk_len (el := 22) (by kernel_rfl) rfl (by decide) ?_
      refine xk_guardT rfl rfl ?_; refine xk_geq rfl rfl (by decide) ?_
      (first | refine xk_pickT rfl rfl (by decide) ?_ | refine xk_pickF rfl rfl (by decide) ?_)
      refine XK.nilN ?_
      exact XK.meetB (by repeat (first | exact trivial | refine ⟨rfl, ?_⟩)) (by first | (exfalso; omega) | (refine get_iff rfl ⟨fun hh => ?_, fun hh => hh.elim⟩; omega) | (refine get_false rfl ?_; exact id))
    refine XK.cond rfl (fun h => by simp at h) (fun _ => ?_)
    ·
     refine XK.skip ?_
     refine XK.norm ?_
     refine XK.region ?_
     refine xk_move rfl (by decide) ?_
     refine xk_add rfl rfl (wrap_in (by omega)) (by decide) ?_
     refine xk_assign rfl (by decide) ?_
     refine XK.nilN ?_
     exact XK.envS [(4, .int .i64 ((i : Int) + 1)), (3, .int .i64 v), (0, .slice (some ⟨bG, oG, none⟩) n c)] (XK.round (l.length - (i + 1)) (by omega) ⟨i + 1, by omega, rfl, rfl, rfl, rfl⟩)
   ·
    refine XK.exit ?_
    refine XK.norm ?_
    refine XK.region ?_
    refine xk_move rfl (by decide) ?_
    refine xk_add rfl rfl (wrap_in (by omega)) (by decide) ?_
    refine xk_assign rfl (by decide) ?_
    refine XK.nilN ?_
    exact XK.envS [(3, .int .i64 ((v : Int) + 1)), (0, .slice (some ⟨bG, oG, none⟩) n c)] (XK.round (n - (v + 1)) (by omega) ⟨v + 1, by omega, rfl, rfl, rfl, rfl⟩)
  ·
   refine XK.exit ?_
   refine XK.norm ?_
   refine XK.seq ?_
   refine XK.seq ?_
   refine XK.region ?_
   refine xk_move rfl (by decide) ?_
   refine xk_call [] (f := 128) (fi := []) (ca := []) (by kernel_rfl) rfl rfl (by decide) (by simp) (rangeV n) (fun w1 st => refOrder_any _ n c g w1 (hg.le (all_le (st.started (by simp)))) hn hn2 hg2 hless) ?_
   rintro _ w1 q1 ⟨Ao, co, rfl, ho⟩ hf _ hF1
   have ho := ho.le hf
   clear hf
   refine xk_len (el := 3) (by kernel_rfl) rfl (by decide) ?_
   refine xk_move rfl (by decide) ?_
   refine xk_len (el := 22) (by kernel_rfl) rfl (by decide) ?_
   refine xk_lss rfl rfl (by decide) ?_
   refine XK.nilN ?_
   refine XK.if_ rfl (fun h => absurd h (by omega)) (fun h => ?_)
   ·
    refine XK.skip ?_
    refine XK.norm ?_
    refine XK.seq ?_
    refine XK.region ?_
    refine xk_assign rfl (by decide) ?_
    refine XK.nilN ?_
    refine XK.ret ?_
    refine XK.norm ?_
    exact XK.ret1 rfl rfl fun w1 st => ⟨rfl, st.below (by simp)⟩
end
section
theorem refIn4_any (v n : Int) (w : World) : Calls Tryz.prog 121 #[.int .i64 v, .int .i64 n] w (Rt (.bool (decide (0 ≤ v ∧ v < n))) w) := by
 refine XK.enter (vs := [.int .i64 v, .int .i64 n]) Tryz.func121 rfl Tryz.ntmps121 (by simp) ?_
 refine XK.seq ?_
 refine XK.region ?_
 refine xk_assign rfl (by decide) ?_
 refine XK.nilN ?_
 refine XK.seq ?_
 refine XK.region ?_
 refine xk_move rfl (by decide) ?_
 refine xk_geq rfl rfl (by decide) ?_
 refine xk_move rfl (by decide) ?_
 refine xk_split (t := 7) rfl (fun hg => ?_) (fun hg => ?_)
 ·
  refine xk_guardT rfl rfl ?_; refine xk_move rfl (by decide) ?_
  refine xk_guardT rfl rfl ?_; refine xk_move rfl (by decide) ?_
  refine xk_guardT rfl rfl ?_; refine xk_lss rfl rfl (by decide) ?_
  (first | refine xk_pickT rfl rfl (by decide) ?_ | refine xk_pickF rfl rfl (by decide) ?_)
  refine xk_assign rfl (by decide) ?_
  refine XK.nilN ?_
  refine XK.ret ?_
  refine XK.norm ?_
  rw [show decide (0 ≤ v ∧ v < n) = decide (v < n) from decide_eq_decide.2 ⟨fun h => h.2, fun h => ⟨hg, h⟩⟩]
  exact XK.ret1 rfl rfl fun w1 st => ⟨rfl, st.below (by simp)⟩
 ·
  refine xk_guardF rfl rfl rfl (by decide) ?_
  refine xk_guardF rfl rfl rfl (by decide) ?_
  refine xk_guardF rfl rfl rfl (by decide) ?_
  (first | refine xk_pickT rfl rfl (by decide) ?_ | refine xk_pickF rfl rfl (by decide) ?_)
  refine xk_assign rfl (by decide) ?_
  refine XK.nilN ?_
  refine XK.ret ?_
  refine XK.norm ?_
  rw [show decide (0 ≤ v ∧ v < n) = false from decide_eq_false (fun h => hg h.1)]
  exact XK.ret1 rfl rfl fun w1 st => ⟨rfl, st.below (by simp)⟩
theorem refWithin_any (v a b : Int) (w : World) : Calls Tryz.prog 91 #[.int .i64 v, .int .i64 a, .int .i64 b] w (Rt (.bool (decide (a ≤ v ∧ v ≤ b))) w) := by
 refine XK.enter (vs := [.int .i64 v, .int .i64 a, .int .i64 b]) Tryz.func91 rfl Tryz.ntmps91 (by simp) ?_
 refine XK.seq ?_
 refine XK.region ?_
 refine xk_assign rfl (by decide) ?_
 refine XK.nilN ?_
 refine XK.seq ?_
 refine XK.region ?_
 refine xk_move rfl (by decide) ?_
 refine xk_move rfl (by decide) ?_
 refine xk_geq rfl rfl (by decide) ?_
 refine xk_move rfl (by decide) ?_
 refine xk_split (t := 10) rfl (fun hg => ?_) (fun hg => ?_)
 ·
  refine xk_guardT rfl rfl ?_; refine xk_move rfl (by decide) ?_
  refine xk_guardT rfl rfl ?_; refine xk_move rfl (by decide) ?_
  refine xk_guardT rfl rfl ?_; refine xk_leq rfl rfl (by decide) ?_
  (first | refine xk_pickT rfl rfl (by decide) ?_ | refine xk_pickF rfl rfl (by decide) ?_)
  refine xk_assign rfl (by decide) ?_
  refine XK.nilN ?_
  refine XK.ret ?_
  refine XK.norm ?_
  rw [show decide (a ≤ v ∧ v ≤ b) = decide (v ≤ b) from decide_eq_decide.2 ⟨fun h => h.2, fun h => ⟨hg, h⟩⟩]
  exact XK.ret1 rfl rfl fun w1 st => ⟨rfl, st.below (by simp)⟩
 ·
  refine xk_guardF rfl rfl rfl (by decide) ?_
  refine xk_guardF rfl rfl rfl (by decide) ?_
  refine xk_guardF rfl rfl rfl (by decide) ?_
  (first | refine xk_pickT rfl rfl (by decide) ?_ | refine xk_pickF rfl rfl (by decide) ?_)
  refine xk_assign rfl (by decide) ?_
  refine XK.nilN ?_
  refine XK.ret ?_
  refine XK.norm ?_
  rw [show decide (a ≤ v ∧ v ≤ b) = false from decide_eq_false (fun h => hg h.1)]
  exact XK.ret1 rfl rfl fun w1 st => ⟨rfl, st.below (by simp)⟩
set_option maxHeartbeats 1000000 in
theorem refClock_any (c : Clk) (k0 nn : Nat) (As : Option Addr) (ns ks : Nat) (w : World) (hs : SlS (all w) 1 As ns (intCells c.src)) (hns : ns = c.src.length) (hf : c.fit k0) (hk : k0 ≤ nn) (hnn : nn ≤ 1000) : Calls Tryz.prog 118 #[.agg #[.int .u8 c.kind, .slice As ns ks, .int .u64 c.rate, .int .i64 c.mul, .int .i64 c.div, .int .i64 c.lock], .int .i64 (nn : Int)] w (Rt (.int .i64 0) w) := by
  have hk9 := hf.1
  have hc : (c.kind = 111 ∧ ns = 0 ∧ 1 ≤ c.rate ∧ c.rate ≤ 1000000) ∨ (c.kind = 112 ∧ ns = 1 ∧ 1 ≤ c.mul ∧ c.mul ≤ 8 ∧ 1 ≤ c.div ∧ c.div ≤ 4 ∧ 0 ≤ c.lock ∧ c.lock ≤ 3) ∨ (c.kind = 100 ∧ ns = 1 ∧ 1 ≤ c.div ∧ c.div ≤ 8) ∨ (c.kind = 103 ∧ ns = 1) ∨ (c.kind = 109 ∧ ns = 2) := by
    rcases hf.2 with h | h | h | h | h
    · exact .inl ⟨h.1, by rw [hns, h.2.1]; rfl, h.2.2.1, h.2.2.2.1⟩
    · omega
    · omega
    · omega
    · omega
  clear hf
  refine XK.enter (vs := [.agg #[.int .u8 c.kind, .slice As ns ks, .int .u64 c.rate, .int .i64 c.mul, .int .i64 c.div, .int .i64 c.lock], .int .i64 (nn : Int)]) Tryz.func118 rfl Tryz.ntmps118 (by simp) ?_
  refine XK.seq ?_
  refine XK.region ?_
  refine xk_box rfl (by decide) fun g1 => ?_
  refine xk_assign rfl (by decide) ?_
  refine XK.nilN ?_
  refine XK.seq ?_
  refine XK.region ?_
  refine xk_field (off := 1) (by kernel_rfl) rfl (by decide) ?_
  refine xk_ld rfl ?_
  refine xk_len (el := 3) (by kernel_rfl) rfl (by decide) ?_
  refine xk_assign rfl (by decide) ?_
  refine XK.nilN ?_
  refine XK.cutB 6 (True) ?_ ?_
  · skip
    refine XK.region ?_
    refine xk_field (off := 0) (by kernel_rfl) rfl (by decide) ?_
    refine xk_ld rfl ?_
    refine xk_eql rfl rfl (by decide) ?_
    refine xk_move rfl (by decide) ?_
    refine xk_split (t := 14) rfl (fun hg14 => ?_) (fun hg14 => ?_)
    ·
      refine xk_guardT rfl rfl ?_; refine xk_move rfl (by decide) ?_
      refine xk_guardT rfl rfl ?_; refine xk_eql rfl rfl (by decide) ?_
      (first | refine xk_pickT rfl rfl (by decide) ?_ | refine xk_pickF rfl rfl (by decide) ?_)
      refine xk_move rfl (by decide) ?_
      refine xk_split (t := 18) rfl (fun hg18 => ?_) (fun hg18 => ?_)
      ·
        refine xk_guardF rfl rfl rfl (by decide) ?_
        refine xk_guardF rfl rfl rfl (by decide) ?_
        refine xk_guardF rfl rfl rfl (by decide) ?_
        refine xk_guardF rfl rfl rfl (by decide) ?_
        refine xk_guardU rfl rfl (by decide) ?_
        refine xk_guardU rfl rfl (by decide) ?_
        refine xk_guardU rfl rfl (by decide) ?_
        refine xk_guardF rfl rfl rfl (by decide) ?_
        refine xk_guardF rfl rfl rfl (by decide) ?_
        refine xk_guardU rfl rfl (by decide) ?_
        refine xk_guardU rfl rfl (by decide) ?_
        refine xk_guardU rfl rfl (by decide) ?_
        refine xk_guardF rfl rfl rfl (by decide) ?_
        refine xk_guardF rfl rfl rfl (by decide) ?_
        refine xk_guardU rfl rfl (by decide) ?_
        refine xk_guardU rfl rfl (by decide) ?_
        refine xk_guardF rfl rfl rfl (by decide) ?_
        (first | refine xk_pickT rfl rfl (by decide) ?_ | refine xk_pickF rfl rfl (by decide) ?_)
        refine xk_move rfl (by decide) ?_
        refine xk_guardF rfl rfl rfl (by decide) ?_
        refine xk_guardF rfl rfl rfl (by decide) ?_
        refine xk_guardF rfl rfl rfl (by decide) ?_
        refine xk_guardF rfl rfl rfl (by decide) ?_
        refine xk_guardU rfl rfl (by decide) ?_
        refine xk_guardU rfl rfl (by decide) ?_
        refine xk_guardF rfl rfl rfl (by decide) ?_
        (first | refine xk_pickT rfl rfl (by decide) ?_ | refine xk_pickF rfl rfl (by decide) ?_)
        refine xk_assign rfl (by decide) ?_
        refine XK.nilN ?_
        exact XK.meetB (by repeat (first | exact trivial | refine ⟨rfl, ?_⟩)) (by first | (exfalso; omega) | (refine get_iff rfl ⟨fun _ => trivial, fun _ => ?_⟩; omega) | (refine get_iff rfl ⟨fun hh => ?_, fun hh => hh.elim⟩; omega) | exact get_true rfl trivial | (refine get_false rfl ?_; exact id))
      ·
        refine xk_guardT rfl rfl ?_; refine xk_field (off := 0) (by kernel_rfl) rfl (by decide) ?_
        refine xk_guardT rfl rfl ?_; refine xk_ld rfl ?_
        refine xk_guardT rfl rfl ?_; refine xk_eql rfl rfl (by decide) ?_
        refine xk_guardT rfl rfl ?_; refine xk_move rfl (by decide) ?_
        refine xk_split (t := 22) rfl (fun hg22 => ?_) (fun hg22 => ?_)
        ·
          refine xk_guardF rfl rfl rfl (by decide) ?_
          refine xk_guardF rfl rfl rfl (by decide) ?_
          refine xk_guardF rfl rfl rfl (by decide) ?_
          refine xk_guardT rfl rfl ?_; (first | refine xk_pickT rfl rfl (by decide) ?_ | refine xk_pickF rfl rfl (by decide) ?_)
          refine xk_guardT rfl rfl ?_; refine xk_move rfl (by decide) ?_
          refine xk_guardF rfl rfl rfl (by decide) ?_
          refine xk_guardF rfl rfl rfl (by decide) ?_
          refine xk_guardF rfl rfl rfl (by decide) ?_
          refine xk_guardT rfl rfl ?_; (first | refine xk_pickT rfl rfl (by decide) ?_ | refine xk_pickF rfl rfl (by decide) ?_)
          refine xk_guardT rfl rfl ?_; refine xk_move rfl (by decide) ?_
          refine xk_guardT rfl rfl ?_; refine xk_move rfl (by decide) ?_
          refine xk_guardT rfl rfl ?_; refine xk_eql rfl rfl (by decide) ?_
          refine xk_guardT rfl rfl ?_; (first | refine xk_pickT rfl rfl (by decide) ?_ | refine xk_pickF rfl rfl (by decide) ?_)
          (first | refine xk_pickT rfl rfl (by decide) ?_ | refine xk_pickF rfl rfl (by decide) ?_)
          refine xk_move rfl (by decide) ?_
          refine xk_split (t := 37) rfl (fun hg37 => ?_) (fun hg37 => ?_)
          ·
            refine xk_guardF rfl rfl rfl (by decide) ?_
            refine xk_guardF rfl rfl rfl (by decide) ?_
            refine xk_guardF rfl rfl rfl (by decide) ?_
            refine xk_guardF rfl rfl rfl (by decide) ?_
            refine xk_guardU rfl rfl (by decide) ?_
            refine xk_guardU rfl rfl (by decide) ?_
            refine xk_guardF rfl rfl rfl (by decide) ?_
            (first | refine xk_pickT rfl rfl (by decide) ?_ | refine xk_pickF rfl rfl (by decide) ?_)
            refine xk_assign rfl (by decide) ?_
            refine XK.nilN ?_
            exact XK.meetB (by repeat (first | exact trivial | refine ⟨rfl, ?_⟩)) (by first | (exfalso; omega) | (refine get_iff rfl ⟨fun _ => trivial, fun _ => ?_⟩; omega) | (refine get_iff rfl ⟨fun hh => ?_, fun hh => hh.elim⟩; omega) | exact get_true rfl trivial | (refine get_false rfl ?_; exact id))
          ·
            refine xk_guardT rfl rfl ?_; refine xk_field (off := 0) (by kernel_rfl) rfl (by decide) ?_
            refine xk_guardT rfl rfl ?_; refine xk_ld rfl ?_
            refine xk_guardT rfl rfl ?_; refine xk_eql rfl rfl (by decide) ?_
            refine xk_guardT rfl rfl ?_; refine xk_move rfl (by decide) ?_
            refine xk_split (t := 41) rfl (fun hg41 => ?_) (fun hg41 => ?_)
            ·
              refine xk_guardT rfl rfl ?_; refine xk_move rfl (by decide) ?_
              refine xk_guardT rfl rfl ?_; refine xk_callR (f := 91) (fi := []) (ca := []) (by kernel_rfl) rfl rfl (by decide) (fun w1 st => refWithin_any _ _ _ w1) ?_
              refine xk_guardT rfl rfl ?_; (first | refine xk_pickT rfl rfl (by decide) ?_ | refine xk_pickF rfl rfl (by decide) ?_)
              (first | refine xk_pickT rfl rfl (by decide) ?_ | refine xk_pickF rfl rfl (by decide) ?_)
              refine xk_assign rfl (by decide) ?_
              refine XK.nilN ?_
              exact XK.meetB (by repeat (first | exact trivial | refine ⟨rfl, ?_⟩)) (by first | (exfalso; omega) | (refine get_iff rfl ⟨fun _ => trivial, fun _ => ?_⟩; omega) | (refine get_iff rfl ⟨fun hh => ?_, fun hh => hh.elim⟩; omega) | exact get_true rfl trivial | (refine get_false rfl ?_; exact id))
            ·
              refine xk_guardF rfl rfl rfl (by decide) ?_
              refine xk_guardF rfl rfl rfl (by decide) ?_
              refine xk_guardT rfl rfl ?_; (first | refine xk_pickT rfl rfl (by decide) ?_ | refine xk_pickF rfl rfl (by decide) ?_)
              (first | refine xk_pickT rfl rfl (by decide) ?_ | refine xk_pickF rfl rfl (by decide) ?_)
              refine xk_assign rfl (by decide) ?_
              refine XK.nilN ?_
              exact XK.meetB (by repeat (first | exact trivial | refine ⟨rfl, ?_⟩)) (by first | (exfalso; omega) | (refine get_iff rfl ⟨fun _ => trivial, fun _ => ?_⟩; omega) | (refine get_iff rfl ⟨fun hh => ?_, fun hh => hh.elim⟩; omega) | exact get_true rfl trivial | (refine get_false rfl ?_; exact id))
        ·
          refine xk_guardT rfl rfl ?_; refine xk_field (off := 0) (by kernel_rfl) rfl (by decide) ?_
          refine xk_guardT rfl rfl ?_; refine xk_ld rfl ?_
          refine xk_guardT rfl rfl ?_; refine xk_eql rfl rfl (by decide) ?_
          refine xk_guardT rfl rfl ?_; (first | refine xk_pickT rfl rfl (by decide) ?_ | refine xk_pickF rfl rfl (by decide) ?_)
          refine xk_guardT rfl rfl ?_; refine xk_move rfl (by decide) ?_
          refine xk_split (t := 27) rfl (fun hg27 => ?_) (fun hg27 => ?_)
          ·
            refine xk_guardF rfl rfl rfl (by decide) ?_
            refine xk_guardF rfl rfl rfl (by decide) ?_
            refine xk_guardF rfl rfl rfl (by decide) ?_
            refine xk_guardT rfl rfl ?_; (first | refine xk_pickT rfl rfl (by decide) ?_ | refine xk_pickF rfl rfl (by decide) ?_)
            refine xk_guardT rfl rfl ?_; refine xk_move rfl (by decide) ?_
            refine xk_guardT rfl rfl ?_; refine xk_move rfl (by decide) ?_
            refine xk_guardT rfl rfl ?_; refine xk_eql rfl rfl (by decide) ?_
            refine xk_guardT rfl rfl ?_; (first | refine xk_pickT rfl rfl (by decide) ?_ | refine xk_pickF rfl rfl (by decide) ?_)
            (first | refine xk_pickT rfl rfl (by decide) ?_ | refine xk_pickF rfl rfl (by decide) ?_)
            refine xk_move rfl (by decide) ?_
            refine xk_split (t := 37) rfl (fun hg37 => ?_) (fun hg37 => ?_)
            ·
              refine xk_guardF rfl rfl rfl (by decide) ?_
              refine xk_guardF rfl rfl rfl (by decide) ?_
              refine xk_guardF rfl rfl rfl (by decide) ?_
              refine xk_guardF rfl rfl rfl (by decide) ?_
              refine xk_guardU rfl rfl (by decide) ?_
              refine xk_guardU rfl rfl (by decide) ?_
              refine xk_guardF rfl rfl rfl (by decide) ?_
              (first | refine xk_pickT rfl rfl (by decide) ?_ | refine xk_pickF rfl rfl (by decide) ?_)
              refine xk_assign rfl (by decide) ?_
              refine XK.nilN ?_
              exact XK.meetB (by repeat (first | exact trivial | refine ⟨rfl, ?_⟩)) (by first | (exfalso; omega) | (refine get_iff rfl ⟨fun _ => trivial, fun _ => ?_⟩; omega) | (refine get_iff rfl ⟨fun hh => ?_, fun hh => hh.elim⟩; omega) | exact get_true rfl trivial | (refine get_false rfl ?_; exact id))
            ·
              refine xk_guardT rfl rfl ?_; refine xk_field (off := 0) (by kernel_rfl) rfl (by decide) ?_
              refine xk_guardT rfl rfl ?_; refine xk_ld rfl ?_
              refine xk_guardT rfl rfl ?_; refine xk_eql rfl rfl (by decide) ?_
              refine xk_guardT rfl rfl ?_; refine xk_move rfl (by decide) ?_
              refine xk_split (t := 41) rfl (fun hg41 => ?_) (fun hg41 => ?_)
              ·
                refine xk_guardT rfl rfl ?_; refine xk_move rfl (by decide) ?_
                refine xk_guardT rfl rfl ?_; refine xk_callR (f := 91) (fi := []) (ca := []) (by kernel_rfl) rfl rfl (by decide) (fun w1 st => refWithin_any _ _ _ w1) ?_
                refine xk_guardT rfl rfl ?_; (first | refine xk_pickT rfl rfl (by decide) ?_ | refine xk_pickF rfl rfl (by decide) ?_)
                (first | refine xk_pickT rfl rfl (by decide) ?_ | refine xk_pickF rfl rfl (by decide) ?_)
                refine xk_assign rfl (by decide) ?_
                refine XK.nilN ?_
                exact XK.meetB (by repeat (first | exact trivial | refine ⟨rfl, ?_⟩)) (by first | (exfalso; omega) | (refine get_iff rfl ⟨fun _ => trivial, fun _ => ?_⟩; omega) | (refine get_iff rfl ⟨fun hh => ?_, fun hh => hh.elim⟩; omega) | exact get_true rfl trivial | (refine get_false rfl ?_; exact id))
              ·
                refine xk_guardF rfl rfl rfl (by decide) ?_
                refine xk_guardF rfl rfl rfl (by decide) ?_
                refine xk_guardT rfl rfl ?_; (first | refine xk_pickT rfl rfl (by decide) ?_ | refine xk_pickF rfl rfl (by decide) ?_)
                (first | refine xk_pickT rfl rfl (by decide) ?_ | refine xk_pickF rfl rfl (by decide) ?_)
                refine xk_assign rfl (by decide) ?_
                refine XK.nilN ?_
                exact XK.meetB (by repeat (first | exact trivial | refine ⟨rfl, ?_⟩)) (by first | (exfalso; omega) | (refine get_iff rfl ⟨fun _ => trivial, fun _ => ?_⟩; omega) | (refine get_iff rfl ⟨fun hh => ?_, fun hh => hh.elim⟩; omega) | exact get_true rfl trivial | (refine get_false rfl ?_; exact id))
          ·
            refine xk_guardT rfl rfl ?_; refine xk_field (off := 0) (by kernel_rfl) rfl (by decide) ?_
            refine xk_guardT rfl rfl ?_; refine xk_ld rfl ?_
            refine xk_guardT rfl rfl ?_; refine xk_eql rfl rfl (by decide) ?_
            refine xk_guardT rfl rfl ?_; (first | refine xk_pickT rfl rfl (by decide) ?_ | refine xk_pickF rfl rfl (by decide) ?_)
            refine xk_guardT rfl rfl ?_; refine xk_move rfl (by decide) ?_
            refine xk_split (t := 32) rfl (fun hg32 => ?_) (fun hg32 => ?_)
            ·
              refine xk_guardT rfl rfl ?_; refine xk_move rfl (by decide) ?_
              refine xk_guardT rfl rfl ?_; refine xk_eql rfl rfl (by decide) ?_
              refine xk_guardT rfl rfl ?_; (first | refine xk_pickT rfl rfl (by decide) ?_ | refine xk_pickF rfl rfl (by decide) ?_)
              (first | refine xk_pickT rfl rfl (by decide) ?_ | refine xk_pickF rfl rfl (by decide) ?_)
              refine xk_move rfl (by decide) ?_
              refine xk_split (t := 37) rfl (fun hg37 => ?_) (fun hg37 => ?_)
              ·
                refine xk_guardF rfl rfl rfl (by decide) ?_
                refine xk_guardF rfl rfl rfl (by decide) ?_
                refine xk_guardF rfl rfl rfl (by decide) ?_
                refine xk_guardF rfl rfl rfl (by decide) ?_
                refine xk_guardU rfl rfl (by decide) ?_
                refine xk_guardU rfl rfl (by decide) ?_
                refine xk_guardF rfl rfl rfl (by decide) ?_
                (first | refine xk_pickT rfl rfl (by decide) ?_ | refine xk_pickF rfl rfl (by decide) ?_)
                refine xk_assign rfl (by decide) ?_
                refine XK.nilN ?_
                exact XK.meetB (by repeat (first | exact trivial | refine ⟨rfl, ?_⟩)) (by first | (exfalso; omega) | (refine get_iff rfl ⟨fun _ => trivial, fun _ => ?_⟩; omega) | (refine get_iff rfl ⟨fun hh => ?_, fun hh => hh.elim⟩; omega) | exact get_true rfl trivial | (refine get_false rfl ?_; exact id))
              ·
                refine xk_guardT rfl rfl ?_; refine xk_field (off := 0) (by kernel_rfl) rfl (by decide) ?_
                refine xk_guardT rfl rfl ?_; refine xk_ld rfl ?_
                refine xk_guardT rfl rfl ?_; refine xk_eql rfl rfl (by decide) ?_
                refine xk_guardT rfl rfl ?_; refine xk_move rfl (by decide) ?_
                refine xk_split (t := 41) rfl (fun hg41 => ?_) (fun hg41 => ?_)
                ·
                  refine xk_guardT rfl rfl ?_; refine xk_move rfl (by decide) ?_
                  refine xk_guardT rfl rfl ?_; refine xk_callR (f := 91) (fi := []) (ca := []) (by kernel_rfl) rfl rfl (by decide) (fun w1 st => refWithin_any _ _ _ w1) ?_
                  refine xk_guardT rfl rfl ?_; (first | refine xk_pickT rfl rfl (by decide) ?_ | refine xk_pickF rfl rfl (by decide) ?_)
                  (first | refine xk_pickT rfl rfl (by decide) ?_ | refine xk_pickF rfl rfl (by decide) ?_)
                  refine xk_assign rfl (by decide) ?_
                  refine XK.nilN ?_
                  exact XK.meetB (by repeat (first | exact trivial | refine ⟨rfl, ?_⟩)) (by first | (exfalso; omega) | (refine get_iff rfl ⟨fun _ => trivial, fun _ => ?_⟩; omega) | (refine get_iff rfl ⟨fun hh => ?_, fun hh => hh.elim⟩; omega) | exact get_true rfl trivial | (refine get_false rfl ?_; exact id))
                ·
                  refine xk_guardF rfl rfl rfl (by decide) ?_
                  refine xk_guardF rfl rfl rfl (by decide) ?_
                  refine xk_guardT rfl rfl ?_; (first | refine xk_pickT rfl rfl (by decide) ?_ | refine xk_pickF rfl rfl (by decide) ?_)
                  (first | refine xk_pickT rfl rfl (by decide) ?_ | refine xk_pickF rfl rfl (by decide) ?_)
                  refine xk_assign rfl (by decide) ?_
                  refine XK.nilN ?_
                  exact XK.meetB (by repeat (first | exact trivial | refine ⟨rfl, ?_⟩)) (by first | (exfalso; omega) | (refine get_iff rfl ⟨fun _ => trivial, fun _ => ?_⟩; omega) | (refine get_iff rfl ⟨fun hh => ?_, fun hh => hh.elim⟩; omega) | exact get_true rfl trivial | (refine get_false rfl ?_; exact id))
            ·
              refine xk_guardF rfl rfl rfl (by decide) ?_
              refine xk_guardF rfl rfl rfl (by decide) ?_
              refine xk_guardT rfl rfl ?_; (first | refine xk_pickT rfl rfl (by decide) ?_ | refine xk_pickF rfl rfl (by decide) ?_)
              (first | refine xk_pickT rfl rfl (by decide) ?_ | refine xk_pickF rfl rfl (by decide) ?_)
              refine xk_move rfl (by decide) ?_
              refine xk_guardT rfl rfl ?_; refine xk_field (off := 0) (by kernel_rfl) rfl (by decide) ?_
              refine xk_guardT rfl rfl ?_; refine xk_ld rfl ?_
              refine xk_guardT rfl rfl ?_; refine xk_eql rfl rfl (by decide) ?_
              refine xk_guardT rfl rfl ?_; refine xk_move rfl (by decide) ?_
              refine xk_split (t := 41) rfl (fun hg41 => ?_) (fun hg41 => ?_)
              ·
                refine xk_guardT rfl rfl ?_; refine xk_move rfl (by decide) ?_
                refine xk_guardT rfl rfl ?_; refine xk_callR (f := 91) (fi := []) (ca := []) (by kernel_rfl) rfl rfl (by decide) (fun w1 st => refWithin_any _ _ _ w1) ?_
                refine xk_guardT rfl rfl ?_; (first | refine xk_pickT rfl rfl (by decide) ?_ | refine xk_pickF rfl rfl (by decide) ?_)
                (first | refine xk_pickT rfl rfl (by decide) ?_ | refine xk_pickF rfl rfl (by decide) ?_)
                refine xk_assign rfl (by decide) ?_
                refine XK.nilN ?_
                exact XK.meetB (by repeat (first | exact trivial | refine ⟨rfl, ?_⟩)) (by first | (exfalso; omega) | (refine get_iff rfl ⟨fun _ => trivial, fun _ => ?_⟩; omega) | (refine get_iff rfl ⟨fun hh => ?_, fun hh => hh.elim⟩; omega) | exact get_true rfl trivial | (refine get_false rfl ?_; exact id))
              ·
                refine xk_guardF rfl rfl rfl (by decide) ?_
                refine xk_guardF rfl rfl rfl (by decide) ?_
                refine xk_guardT rfl rfl ?_; (first | refine xk_pickT rfl rfl (by decide) ?_ | refine xk_pickF rfl rfl (by decide) ?_)
                (first | refine xk_pickT rfl rfl (by decide) ?_ | refine xk_pickF rfl rfl (by decide) ?_)
                refine xk_assign rfl (by decide) ?_
                refine XK.nilN ?_
                exact XK.meetB (by repeat (first | exact trivial | refine ⟨rfl, ?_⟩)) (by first | (exfalso; omega) | (refine get_iff rfl ⟨fun _ => trivial, fun _ => ?_⟩; omega) | (refine get_iff rfl ⟨fun hh => ?_, fun hh => hh.elim⟩; omega) | exact get_true rfl trivial | (refine get_false rfl ?_; exact id))
    ·
      refine xk_guardF rfl rfl rfl (by decide) ?_
      refine xk_guardF rfl rfl rfl (by decide) ?_
      (first | refine xk_pickT rfl rfl (by decide) ?_ | refine xk_pickF rfl rfl (by decide) ?_)
      refine xk_move rfl (by decide) ?_
      refine xk_guardT rfl rfl ?_; refine xk_field (off := 0) (by kernel_rfl) rfl (by decide) ?_
      refine xk_guardT rfl rfl ?_; refine xk_ld rfl ?_
      refine xk_guardT rfl rfl ?_; refine xk_eql rfl rfl (by decide) ?_
      refine xk_guardT rfl rfl ?_; refine xk_move rfl (by decide) ?_
      refine xk_split (t := 22) rfl (fun hg22 => ?_) (fun hg22 => ?_)
      ·
        refine xk_guardF rfl rfl rfl (by decide) ?_
        refine xk_guardF rfl rfl rfl (by decide) ?_
        refine xk_guardF rfl rfl rfl (by decide) ?_
        refine xk_guardT rfl rfl ?_; (first | refine xk_pickT rfl rfl (by decide) ?_ | refine xk_pickF rfl rfl (by decide) ?_)
        refine xk_guardT rfl rfl ?_; refine xk_move rfl (by decide) ?_
        refine xk_guardF rfl rfl rfl (by decide) ?_
        refine xk_guardF rfl rfl rfl (by decide) ?_
        refine xk_guardF rfl rfl rfl (by decide) ?_
        refine xk_guardT rfl rfl ?_; (first | refine xk_pickT rfl rfl (by decide) ?_ | refine xk_pickF rfl rfl (by decide) ?_)
        refine xk_guardT rfl rfl ?_; refine xk_move rfl (by decide) ?_
        refine xk_guardT rfl rfl ?_; refine xk_move rfl (by decide) ?_
        refine xk_guardT rfl rfl ?_; refine xk_eql rfl rfl (by decide) ?_
        refine xk_guardT rfl rfl ?_; (first | refine xk_pickT rfl rfl (by decide) ?_ | refine xk_pickF rfl rfl (by decide) ?_)
        (first | refine xk_pickT rfl rfl (by decide) ?_ | refine xk_pickF rfl rfl (by decide) ?_)
        refine xk_move rfl (by decide) ?_
        refine xk_split (t := 37) rfl (fun hg37 => ?_) (fun hg37 => ?_)
        ·
          refine xk_guardF rfl rfl rfl (by decide) ?_
          refine xk_guardF rfl rfl rfl (by decide) ?_
          refine xk_guardF rfl rfl rfl (by decide) ?_
          refine xk_guardF rfl rfl rfl (by decide) ?_
          refine xk_guardU rfl rfl (by decide) ?_
          refine xk_guardU rfl rfl (by decide) ?_
          refine xk_guardF rfl rfl rfl (by decide) ?_
          (first | refine xk_pickT rfl rfl (by decide) ?_ | refine xk_pickF rfl rfl (by decide) ?_)
          refine xk_assign rfl (by decide) ?_
          refine XK.nilN ?_
          exact XK.meetB (by repeat (first | exact trivial | refine ⟨rfl, ?_⟩)) (by first | (exfalso; omega) | (refine get_iff rfl ⟨fun _ => trivial, fun _ => ?_⟩; omega) | (refine get_iff rfl ⟨fun hh => ?_, fun hh => hh.elim⟩; omega) | exact get_true rfl trivial | (refine get_false rfl ?_; exact id))
        ·
          refine xk_guardT rfl rfl ?_; refine xk_field (off := 0) (by kernel_rfl) rfl (by decide) ?_
          refine xk_guardT rfl rfl ?_; refine xk_ld rfl ?_
          refine xk_guardT rfl rfl ?_; refine xk_eql rfl rfl (by decide) ?_
          refine xk_guardT rfl rfl ?_; refine xk_move rfl (by decide) ?_
          refine xk_split (t := 41) rfl (fun hg41 => ?_) (fun hg41 => ?_)
          ·
            refine xk_guardT rfl rfl ?_; refine xk_move rfl (by decide) ?_
            refine xk_guardT rfl rfl ?_; refine xk_callR (f := 91) (fi := []) (ca := []) (by kernel_rfl) rfl rfl (by decide) (fun w1 st => refWithin_any _ _ _ w1) ?_
            refine xk_guardT rfl rfl ?_; (first | refine xk_pickT rfl rfl (by decide) ?_ | refine xk_pickF rfl rfl (by decide) ?_)
            (first | refine xk_pickT rfl rfl (by decide) ?_ | refine xk_pickF rfl rfl (by decide) ?_)
            refine xk_assign rfl (by decide) ?_
            refine XK.nilN ?_
            exact XK.meetB (by repeat (first | exact trivial | refine ⟨rfl, ?_⟩)) (by first | (exfalso; omega) | (refine get_iff rfl ⟨fun _ => trivial, fun _ => ?_⟩; omega) | (refine get_iff rfl ⟨fun hh => ?_, fun hh => hh.elim⟩; omega) | exact get_true rfl trivial | (refine get_false rfl ?_; exact id))
          ·
            refine xk_guardF rfl rfl rfl (by decide) ?_
            refine xk_guardF rfl rfl rfl (by decide) ?_
            refine xk_guardT rfl rfl ?_; (first | refine xk_pickT rfl rfl (by decide) ?_ | refine xk_pickF rfl rfl (by decide) ?_)
            (first | refine xk_pickT rfl rfl (by decide) ?_ | refine xk_pickF rfl rfl (by decide) ?_)
            refine xk_assign rfl (by decide) ?_
            refine XK.nilN ?_
            exact XK.meetB (by repeat (first | exact trivial | refine ⟨rfl, ?_⟩)) (by first | (exfalso; omega) | (refine get_iff rfl ⟨fun _ => trivial, fun _ => ?_⟩; omega) | (refine get_iff rfl ⟨fun hh => ?_, fun hh => hh.elim⟩; omega) | exact get_true rfl trivial | (refine get_false rfl ?_; exact id))
      ·
        refine xk_guardT rfl rfl ?_; refine xk_field (off := 0) (by kernel_rfl) rfl (by decide) ?_
        refine xk_guardT rfl rfl ?_; refine xk_ld rfl ?_
        refine xk_guardT rfl rfl ?_; refine xk_eql rfl rfl (by decide) ?_
        refine xk_guardT rfl rfl ?_; (first | refine xk_pickT rfl rfl (by decide) ?_ | refine xk_pickF rfl rfl (by decide) ?_)
        refine xk_guardT rfl rfl ?_; refine xk_move rfl (by decide) ?_
        refine xk_split (t := 27) rfl (fun hg27 => ?_) (fun hg27 => ?_)
        ·
          refine xk_guardF rfl rfl rfl (by decide) ?_
          refine xk_guardF rfl rfl rfl (by decide) ?_
          refine xk_guardF rfl rfl rfl (by decide) ?_
          refine xk_guardT rfl rfl ?_; (first | refine xk_pickT rfl rfl (by decide) ?_ | refine xk_pickF rfl rfl (by decide) ?_)
          refine xk_guardT rfl rfl ?_; refine xk_move rfl (by decide) ?_
          refine xk_guardT rfl rfl ?_; refine xk_move rfl (by decide) ?_
          refine xk_guardT rfl rfl ?_; refine xk_eql rfl rfl (by decide) ?_
          refine xk_guardT rfl rfl ?_; (first | refine xk_pickT rfl rfl (by decide) ?_ | refine xk_pickF rfl rfl (by decide) ?_)
          (first | refine xk_pickT rfl rfl (by decide) ?_ | refine xk_pickF rfl rfl (by decide) ?_)
          refine xk_move rfl (by decide) ?_
          refine xk_split (t := 37) rfl (fun hg37 => ?_) (fun hg37 => ?_)
          ·
            refine xk_guardF rfl rfl rfl (by decide) ?_
            refine xk_guardF rfl rfl rfl (by decide) ?_
            refine xk_guardF rfl rfl rfl (by decide) ?_
            refine xk_guardF rfl rfl rfl (by decide) ?_
            refine xk_guardU rfl rfl (by decide) ?_
            refine xk_guardU rfl rfl (by decide) ?_
            refine xk_guardF rfl rfl rfl (by decide) ?_
            (first | refine xk_pickT rfl rfl (by decide) ?_ | refine xk_pickF rfl rfl (by decide) ?_)
            refine xk_assign rfl (by decide) ?_
            refine XK.nilN ?_
            exact XK.meetB (by repeat (first | exact trivial | refine ⟨rfl, ?_⟩)) (by first | (exfalso; omega) | (refine get_iff rfl ⟨fun _ => trivial, fun _ => ?_⟩; omega) | (refine get_iff rfl ⟨fun hh => ?_, fun hh => hh.elim⟩; omega) | exact get_true rfl trivial | (refine get_false rfl ?_; exact id))
          ·
            refine xk_guardT rfl rfl ?_; refine xk_field (off := 0) (by kernel_rfl) rfl (by decide) ?_
            refine xk_guardT rfl rfl ?_; refine xk_ld rfl ?_
            refine xk_guardT rfl rfl ?_; refine xk_eql rfl rfl (by decide) ?_
            refine xk_guardT rfl rfl ?_; refine xk_move rfl (by decide) ?_
            refine xk_split (t := 41) rfl (fun hg41 => ?_) (fun hg41 => ?_)
            ·
              refine xk_guardT rfl rfl ?_; refine xk_move rfl (by decide) ?_
              refine xk_guardT rfl rfl ?_; refine xk_callR (f := 91) (fi := []) (ca := []) (by kernel_rfl) rfl rfl (by decide) (fun w1 st => refWithin_any _ _ _ w1) ?_
              refine xk_guardT rfl rfl ?_; (first | refine xk_pickT rfl rfl (by decide) ?_ | refine xk_pickF rfl rfl (by decide) ?_)
              (first | refine xk_pickT rfl rfl (by decide) ?_ | refine xk_pickF rfl rfl (by decide) ?_)
              refine xk_assign rfl (by decide) ?_
              refine XK.nilN ?_
              exact XK.meetB (by repeat (first | exact trivial | refine ⟨rfl, ?_⟩)) (by first | (exfalso; omega) | (refine get_iff rfl ⟨fun _ => trivial, fun _ => ?_⟩; omega) | (refine get_iff rfl ⟨fun hh => ?_, fun hh => hh.elim⟩; omega) | exact get_true rfl trivial | (refine get_false rfl ?_; exact id))
            ·
              refine xk_guardF rfl rfl rfl (by decide) ?_
              refine xk_guardF rfl rfl rfl (by decide) ?_
              refine xk_guardT rfl rfl ?_; (first | refine xk_pickT rfl rfl (by decide) ?_ | refine xk_pickF rfl rfl (by decide) ?_)
              (first | refine xk_pickT rfl rfl (by decide) ?_ | refine xk_pickF rfl rfl (by decide) ?_)
              refine xk_assign rfl (by decide) ?_
              refine XK.nilN ?_
              exact XK.meetB (by repeat (first | exact trivial | refine ⟨rfl, ?_⟩)) (by first | (exfalso; omega) | (refine get_iff rfl ⟨fun _ => trivial, fun _ => ?_⟩; omega) | (refine get_iff rfl ⟨fun hh => ?_, fun hh => hh.elim⟩; omega) | exact get_true rfl trivial | (refine get_false rfl ?_; exact id))
        ·
          refine xk_guardT rfl rfl ?_; refine xk_field (off := 0) (by kernel_rfl) rfl (by decide) ?_
          refine xk_guardT rfl rfl ?_; refine xk_ld rfl ?_
          refine xk_guardT rfl rfl ?_; refine xk_eql rfl rfl (by decide) ?_
          refine xk_guardT rfl rfl ?_; (first | refine xk_pickT rfl rfl (by decide) ?_ | refine xk_pickF rfl rfl (by decide) ?_)
          refine xk_guardT rfl rfl ?_; refine xk_move rfl (by decide) ?_
          refine xk_split (t := 32) rfl (fun hg32 => ?_) (fun hg32 => ?_)
          ·
            refine xk_guardT rfl rfl ?_; refine xk_move rfl (by decide) ?_
            refine xk_guardT rfl rfl ?_; refine xk_eql rfl rfl (by decide) ?_
            refine xk_guardT rfl rfl ?_; (first | refine xk_pickT rfl rfl (by decide) ?_ | refine xk_pickF rfl rfl (by decide) ?_)
            (first | refine xk_pickT rfl rfl (by decide) ?_ | refine xk_pickF rfl rfl (by decide) ?_)
            refine xk_move rfl (by decide) ?_
            refine xk_split (t := 37) rfl (fun hg37 => ?_) (fun hg37 => ?_)
            ·
              refine xk_guardF rfl rfl rfl (by decide) ?_
              refine xk_guardF rfl rfl rfl (by decide) ?_
              refine xk_guardF rfl rfl rfl (by decide) ?_
              refine xk_guardF rfl rfl rfl (by decide) ?_
              refine xk_guardU rfl rfl (by decide) ?_
              refine xk_guardU rfl rfl (by decide) ?_
              refine xk_guardF rfl rfl rfl (by decide) ?_
              (first | refine xk_pickT rfl rfl (by decide) ?_ | refine xk_pickF rfl rfl (by decide) ?_)
              refine xk_assign rfl (by decide) ?_
              refine XK.nilN ?_
              exact XK.meetB (by repeat (first | exact trivial | refine ⟨rfl, ?_⟩)) (by first | (exfalso; omega) | (refine get_iff rfl ⟨fun _ => trivial, fun _ => ?_⟩; omega) | (refine get_iff rfl ⟨fun hh => ?_, fun hh => hh.elim⟩; omega) | exact get_true rfl trivial | (refine get_false rfl ?_; exact id))
            ·
              refine xk_guardT rfl rfl ?_; refine xk_field (off := 0) (by kernel_rfl) rfl (by decide) ?_
              refine xk_guardT rfl rfl ?_; refine xk_ld rfl ?_
              refine xk_guardT rfl rfl ?_; refine xk_eql rfl rfl (by decide) ?_
              refine xk_guardT rfl rfl ?_; refine xk_move rfl (by decide) ?_
              refine xk_split (t := 41) rfl (fun hg41 => ?_) (fun hg41 => ?_)
              ·
                refine xk_guardT rfl rfl ?_; refine xk_move rfl (by decide) ?_
                refine xk_guardT rfl rfl ?_; refine xk_callR (f := 91) (fi := []) (ca := []) (by kernel_rfl) rfl rfl (by decide) (fun w1 st => refWithin_any _ _ _ w1) ?_
                refine xk_guardT rfl rfl ?_; (first | refine xk_pickT rfl rfl (by decide) ?_ | refine xk_pickF rfl rfl (by decide) ?_)
                (first | refine xk_pickT rfl rfl (by decide) ?_ | refine xk_pickF rfl rfl (by decide) ?_)
                refine xk_assign rfl (by decide) ?_
                refine XK.nilN ?_
                exact XK.meetB (by repeat (first | exact trivial | refine ⟨rfl, ?_⟩)) (by first | (exfalso; omega) | (refine get_iff rfl ⟨fun _ => trivial, fun _ => ?_⟩; omega) | (refine get_iff rfl ⟨fun hh => ?_, fun hh => hh.elim⟩; omega) | exact get_true rfl trivial | (refine get_false rfl ?_; exact id))
              ·
                refine xk_guardF rfl rfl rfl (by decide) ?_
                refine xk_guardF rfl rfl rfl (by decide) ?_
                refine xk_guardT rfl rfl ?_; (first | refine xk_pickT rfl rfl (by decide) ?_ | refine xk_pickF rfl rfl (by decide) ?_)
                (first | refine xk_pickT rfl rfl (by decide) ?_ | refine xk_pickF rfl rfl (by decide) ?_)
                refine xk_assign rfl (by decide) ?_
                refine XK.nilN ?_
                exact XK.meetB (by repeat (first | exact trivial | refine ⟨rfl, ?_⟩)) (by first | (exfalso; omega) | (refine get_iff rfl ⟨fun _ => trivial, fun _ => ?_⟩; omega) | (refine get_iff rfl ⟨fun hh => ?_, fun hh => hh.elim⟩; omega) | exact get_true rfl trivial | (refine get_false rfl ?_; exact id))
          ·
            refine xk_guardF rfl rfl rfl (by decide) ?_
            refine xk_guardF rfl rfl rfl (by decide) ?_
            refine xk_guardT rfl rfl ?_; (first | refine xk_pickT rfl rfl (by decide) ?_ | refine xk_pickF rfl rfl (by decide) ?_)
            (first | refine xk_pickT rfl rfl (by decide) ?_ | refine xk_pickF rfl rfl (by decide) ?_)
            refine xk_move rfl (by decide) ?_
            refine xk_guardT rfl rfl ?_; refine xk_field (off := 0) (by kernel_rfl) rfl (by decide) ?_
            refine xk_guardT rfl rfl ?_; refine xk_ld rfl ?_
            refine xk_guardT rfl rfl ?_; refine xk_eql rfl rfl (by decide) ?_
            refine xk_guardT rfl rfl ?_; refine xk_move rfl (by decide) ?_
            refine xk_split (t := 41) rfl (fun hg41 => ?_) (fun hg41 => ?_)
            ·
              refine xk_guardT rfl rfl ?_; refine xk_move rfl (by decide) ?_
              refine xk_guardT rfl rfl ?_; refine xk_callR (f := 91) (fi := []) (ca := []) (by kernel_rfl) rfl rfl (by decide) (fun w1 st => refWithin_any _ _ _ w1) ?_
              refine xk_guardT rfl rfl ?_; (first | refine xk_pickT rfl rfl (by decide) ?_ | refine xk_pickF rfl rfl (by decide) ?_)
              (first | refine xk_pickT rfl rfl (by decide) ?_ | refine xk_pickF rfl rfl (by decide) ?_)
              refine xk_assign rfl (by decide) ?_
              refine XK.nilN ?_
              exact XK.meetB (by repeat (first | exact trivial | refine ⟨rfl, ?_⟩)) (by first | (exfalso; omega) | (refine get_iff rfl ⟨fun _ => trivial, fun _ => ?_⟩; omega) | (refine get_iff rfl ⟨fun hh => ?_, fun hh => hh.elim⟩; omega) | exact get_true rfl trivial | (refine get_false rfl ?_; exact id))
            ·
              refine xk_guardF rfl rfl rfl (by decide) ?_
              refine xk_guardF rfl rfl rfl (by decide) ?_
              refine xk_guardT rfl rfl ?_; (first | refine xk_pickT rfl rfl (by decide) ?_ | refine xk_pickF rfl rfl (by decide) ?_)
              (first | refine xk_pickT rfl rfl (by decide) ?_ | refine xk_pickF rfl rfl (by decide) ?_)
              refine xk_assign rfl (by decide) ?_
              refine XK.nilN ?_
              exact XK.meetB (by repeat (first | exact trivial | refine ⟨rfl, ?_⟩)) (by first | (exfalso; omega) | (refine get_iff rfl ⟨fun _ => trivial, fun _ => ?_⟩; omega) | (refine get_iff rfl ⟨fun hh => ?_, fun hh => hh.elim⟩; omega) | exact get_true rfl trivial | (refine get_false rfl ?_; exact id))
  refine XK.seq ?_
  refine XK.seq ?_
  refine XK.region ?_
  refine xk_move rfl (by decide) ?_
  refine xk_notD rfl (by decide) ?_
  refine XK.nilN ?_
  refine XK.if_ rfl (fun h => by first | exact absurd rfl h | exact absurd trivial h | exact False.elim h | (exfalso; omega) | cases h) (fun h => ?_)
  ·
    refine XK.skip ?_
    refine XK.norm ?_
    refine XK.seq ?_
    refine XK.seq ?_
    refine XK.region ?_
    refine xk_assign rfl (by decide) ?_
    refine XK.nilN ?_
    refine XK.envS [(7, .int .i64 0), (5, .int .i64 ns), (2, .pointer (some ⟨g1, 0, none⟩)), (1, .int .i64 nn)] ?_
    refine XK.block ?_
    refine XK.loop (fun m e R H => ∃ (i : Nat), i ≤ ns ∧ m = ns - i ∧ e = [(7, .int .i64 i), (5, .int .i64 ns), (2, .pointer (some ⟨g1, 0, none⟩)), (1, .int .i64 nn)] ∧ R = [all w] ∧ H = [HP.blk g1 64 [.int .u8 c.kind, .slice As ns ks, .int .u64 c.rate, .int .i64 c.mul, .int .i64 c.div, .int .i64 c.lock]]) ns ⟨0, by omega, rfl, rfl, rfl, rfl⟩ fun m e R H hI => ?_
    obtain ⟨i, hi, rfl, rfl, rfl, rfl⟩ := hI
    refine XK.seq ?_
    refine XK.seq ?_
    refine XK.region ?_
    refine xk_move rfl (by decide) ?_
    refine xk_move rfl (by decide) ?_
    refine xk_lss rfl rfl (by decide) ?_
    refine XK.nilN ?_
    refine XK.if_ rfl (fun hil => ?_) (fun hil => ?_)
    ·
      refine XK.skip ?_
      refine XK.norm ?_
      refine XK.seq ?_
      refine XK.block ?_
      refine XK.seq ?_
      have hil' : i < ns := by have h' : (i : Int) < (ns : Int) := hil; omega
      obtain ⟨y, hy⟩ : ∃ y, c.src[i]? = some y := ⟨_, List.getElem?_eq_getElem (by omega)⟩
      have hyb := hk9 y (List.mem_of_getElem? hy)
      obtain ⟨bI, oI, hAI, hcI⟩ := hs.intR (by omega)
      subst hAI
      have hcy := hcI i y hy
      refine XK.region ?_
      refine xk_field (off := 1) (by kernel_rfl) rfl (by decide) ?_
      refine xk_ld rfl ?_
      refine xk_move rfl (by decide) ?_
      refine xk_at (i) (oI + i) (el := 3) (sz := 1) (by kernel_rfl) (by kernel_rfl) rfl rfl (by omega) (by omega) (by omega) (by decide) ?_
      refine xk_load (by kernel_rfl) rfl (Rd.roc (by simp) hcy) (by decide) ?_
      refine xk_move rfl (by decide) ?_
      refine xk_callR (f := 121) (fi := []) (ca := []) (by kernel_rfl) rfl rfl (by decide) (fun w1 st => refIn4_any _ _ w1) ?_
      refine xk_notD rfl (by decide) ?_
      refine XK.nilN ?_
      refine XK.if_ rfl (fun h => by first | exact absurd rfl h | exact absurd trivial h | exact False.elim h | (exfalso; omega) | cases h) (fun h => ?_)
      ·
        refine XK.skip ?_
        refine XK.norm ?_
        refine XK.region ?_
        refine xk_move rfl (by decide) ?_
        refine xk_add rfl rfl (wrap_in (by omega)) (by decide) ?_
        refine xk_assign rfl (by decide) ?_
        refine XK.nilN ?_
        exact XK.envS [(7, .int .i64 ((i : Int) + 1)), (5, .int .i64 ns), (2, .pointer (some ⟨g1, 0, none⟩)), (1, .int .i64 nn)] (XK.round (ns - (i + 1)) (by omega) ⟨i + 1, by omega, rfl, rfl, rfl, rfl⟩)
    ·
      refine XK.exit ?_
      refine XK.norm ?_
      refine XK.seq ?_
      refine XK.cutB 73 (False) ?_ ?_
      · skip
        refine XK.region ?_
        refine xk_field (off := 0) (by kernel_rfl) rfl (by decide) ?_
        refine xk_ld rfl ?_
        refine xk_eql rfl rfl (by decide) ?_
        refine xk_move rfl (by decide) ?_
        refine xk_split (t := 64) rfl (fun hg64 => ?_) (fun hg64 => ?_)
        ·
          refine xk_guardT rfl rfl ?_; refine xk_field (off := 2) (by kernel_rfl) rfl (by decide) ?_
          refine xk_guardT rfl rfl ?_; refine xk_ld rfl ?_
          refine xk_guardT rfl rfl ?_; refine xk_lss rfl rfl (by decide) ?_
          refine xk_guardT rfl rfl ?_; refine xk_move rfl (by decide) ?_
          refine xk_split (t := 68) rfl (fun hg68 => ?_) (fun hg68 => ?_)
          ·
            refine xk_guardF rfl rfl rfl (by decide) ?_
            refine xk_guardF rfl rfl rfl (by decide) ?_
            refine xk_guardF rfl rfl rfl (by decide) ?_
            refine xk_guardT rfl rfl ?_; (first | refine xk_pickT rfl rfl (by decide) ?_ | refine xk_pickF rfl rfl (by decide) ?_)
            (first | refine xk_pickT rfl rfl (by decide) ?_ | refine xk_pickF rfl rfl (by decide) ?_)
            refine XK.nilN ?_
            exact XK.meetB (by repeat (first | exact trivial | refine ⟨rfl, ?_⟩)) (by first | (exfalso; omega) | (refine get_iff rfl ⟨fun _ => trivial, fun _ => ?_⟩; omega) | (refine get_iff rfl ⟨fun hh => ?_, fun hh => hh.elim⟩; omega) | exact get_true rfl trivial | (refine get_false rfl ?_; exact id))
          ·
            refine xk_guardT rfl rfl ?_; refine xk_field (off := 2) (by kernel_rfl) rfl (by decide) ?_
            refine xk_guardT rfl rfl ?_; refine xk_ld rfl ?_
            refine xk_guardT rfl rfl ?_; refine xk_gtr rfl rfl (by decide) ?_
            refine xk_guardT rfl rfl ?_; (first | refine xk_pickT rfl rfl (by decide) ?_ | refine xk_pickF rfl rfl (by decide) ?_)
            (first | refine xk_pickT rfl rfl (by decide) ?_ | refine xk_pickF rfl rfl (by decide) ?_)
            refine XK.nilN ?_
            exact XK.meetB (by repeat (first | exact trivial | refine ⟨rfl, ?_⟩)) (by first | (exfalso; omega) | (refine get_iff rfl ⟨fun _ => trivial, fun _ => ?_⟩; omega) | (refine get_iff rfl ⟨fun hh => ?_, fun hh => hh.elim⟩; omega) | exact get_true rfl trivial | (refine get_false rfl ?_; exact id))
        ·
          refine xk_guardF rfl rfl rfl (by decide) ?_
          refine xk_guardF rfl rfl rfl (by decide) ?_
          refine xk_guardF rfl rfl rfl (by decide) ?_
          refine xk_guardF rfl rfl rfl (by decide) ?_
          refine xk_guardU rfl rfl (by decide) ?_
          refine xk_guardU rfl rfl (by decide) ?_
          refine xk_guardU rfl rfl (by decide) ?_
          refine xk_guardF rfl rfl rfl (by decide) ?_
          (first | refine xk_pickT rfl rfl (by decide) ?_ | refine xk_pickF rfl rfl (by decide) ?_)
          refine XK.nilN ?_
          exact XK.meetB (by repeat (first | exact trivial | refine ⟨rfl, ?_⟩)) (by first | (exfalso; omega) | (refine get_iff rfl ⟨fun _ => trivial, fun _ => ?_⟩; omega) | (refine get_iff rfl ⟨fun hh => ?_, fun hh => hh.elim⟩; omega) | exact get_true rfl trivial | (refine get_false rfl ?_; exact id))
      refine XK.if_ rfl (fun h => by first | exact absurd rfl h | exact absurd trivial h | exact False.elim h | (exfalso; omega) | cases h) (fun h => ?_)
      ·
        refine XK.skip ?_
        refine XK.norm ?_
        refine XK.seq ?_
        refine XK.cutB 94 (False) ?_ ?_
        · skip
          refine XK.region ?_
          refine xk_field (off := 0) (by kernel_rfl) rfl (by decide) ?_
          refine xk_ld rfl ?_
          refine xk_eql rfl rfl (by decide) ?_
          refine xk_move rfl (by decide) ?_
          refine xk_split (t := 77) rfl (fun hg77 => ?_) (fun hg77 => ?_)
          ·
            refine xk_guardT rfl rfl ?_; refine xk_field (off := 3) (by kernel_rfl) rfl (by decide) ?_
            refine xk_guardT rfl rfl ?_; refine xk_ld rfl ?_
            refine xk_guardT rfl rfl ?_; refine xk_callR (f := 91) (fi := []) (ca := []) (by kernel_rfl) rfl rfl (by decide) (fun w1 st => refWithin_any _ _ _ w1) ?_
            refine xk_guardT rfl rfl ?_; refine xk_notD rfl (by decide) ?_
            refine xk_guardT rfl rfl ?_; refine xk_move rfl (by decide) ?_
            refine xk_split (t := 82) rfl (fun hg82 => ?_) (fun hg82 => ?_)
            ·
              refine xk_guardF rfl rfl rfl (by decide) ?_
              refine xk_guardF rfl rfl rfl (by decide) ?_
              refine xk_guardF rfl rfl rfl (by decide) ?_
              refine xk_guardF rfl rfl rfl (by decide) ?_
              refine xk_guardT rfl rfl ?_; (first | refine xk_pickT rfl rfl (by decide) ?_ | refine xk_pickF rfl rfl (by decide) ?_)
              refine xk_guardT rfl rfl ?_; refine xk_move rfl (by decide) ?_
              refine xk_guardF rfl rfl rfl (by decide) ?_
              refine xk_guardF rfl rfl rfl (by decide) ?_
              refine xk_guardF rfl rfl rfl (by decide) ?_
              refine xk_guardF rfl rfl rfl (by decide) ?_
              refine xk_guardT rfl rfl ?_; (first | refine xk_pickT rfl rfl (by decide) ?_ | refine xk_pickF rfl rfl (by decide) ?_)
              (first | refine xk_pickT rfl rfl (by decide) ?_ | refine xk_pickF rfl rfl (by decide) ?_)
              refine XK.nilN ?_
              exact XK.meetB (by repeat (first | exact trivial | refine ⟨rfl, ?_⟩)) (by first | (exfalso; omega) | (refine get_iff rfl ⟨fun _ => trivial, fun _ => ?_⟩; omega) | (refine get_iff rfl ⟨fun hh => ?_, fun hh => hh.elim⟩; omega) | exact get_true rfl trivial | (refine get_false rfl ?_; exact id))
            ·
              refine xk_guardT rfl rfl ?_; refine xk_field (off := 4) (by kernel_rfl) rfl (by decide) ?_
              refine xk_guardT rfl rfl ?_; refine xk_ld rfl ?_
              refine xk_guardT rfl rfl ?_; refine xk_callR (f := 91) (fi := []) (ca := []) (by kernel_rfl) rfl rfl (by decide) (fun w1 st => refWithin_any _ _ _ w1) ?_
              refine xk_guardT rfl rfl ?_; refine xk_notD rfl (by decide) ?_
              refine xk_guardT rfl rfl ?_; (first | refine xk_pickT rfl rfl (by decide) ?_ | refine xk_pickF rfl rfl (by decide) ?_)
              refine xk_guardT rfl rfl ?_; refine xk_move rfl (by decide) ?_
              refine xk_split (t := 88) rfl (fun hg88 => ?_) (fun hg88 => ?_)
              ·
                refine xk_guardF rfl rfl rfl (by decide) ?_
                refine xk_guardF rfl rfl rfl (by decide) ?_
                refine xk_guardF rfl rfl rfl (by decide) ?_
                refine xk_guardF rfl rfl rfl (by decide) ?_
                refine xk_guardT rfl rfl ?_; (first | refine xk_pickT rfl rfl (by decide) ?_ | refine xk_pickF rfl rfl (by decide) ?_)
                (first | refine xk_pickT rfl rfl (by decide) ?_ | refine xk_pickF rfl rfl (by decide) ?_)
                refine XK.nilN ?_
                exact XK.meetB (by repeat (first | exact trivial | refine ⟨rfl, ?_⟩)) (by first | (exfalso; omega) | (refine get_iff rfl ⟨fun _ => trivial, fun _ => ?_⟩; omega) | (refine get_iff rfl ⟨fun hh => ?_, fun hh => hh.elim⟩; omega) | exact get_true rfl trivial | (refine get_false rfl ?_; exact id))
              ·
                refine xk_guardT rfl rfl ?_; refine xk_field (off := 5) (by kernel_rfl) rfl (by decide) ?_
                refine xk_guardT rfl rfl ?_; refine xk_ld rfl ?_
                refine xk_guardT rfl rfl ?_; refine xk_callR (f := 91) (fi := []) (ca := []) (by kernel_rfl) rfl rfl (by decide) (fun w1 st => refWithin_any _ _ _ w1) ?_
                refine xk_guardT rfl rfl ?_; refine xk_notD rfl (by decide) ?_
                refine xk_guardT rfl rfl ?_; (first | refine xk_pickT rfl rfl (by decide) ?_ | refine xk_pickF rfl rfl (by decide) ?_)
                (first | refine xk_pickT rfl rfl (by decide) ?_ | refine xk_pickF rfl rfl (by decide) ?_)
                refine XK.nilN ?_
                exact XK.meetB (by repeat (first | exact trivial | refine ⟨rfl, ?_⟩)) (by first | (exfalso; omega) | (refine get_iff rfl ⟨fun _ => trivial, fun _ => ?_⟩; omega) | (refine get_iff rfl ⟨fun hh => ?_, fun hh => hh.elim⟩; omega) | exact get_true rfl trivial | (refine get_false rfl ?_; exact id))
          ·
            refine xk_guardF rfl rfl rfl (by decide) ?_
            refine xk_guardF rfl rfl rfl (by decide) ?_
            refine xk_guardF rfl rfl rfl (by decide) ?_
            refine xk_guardF rfl rfl rfl (by decide) ?_
            refine xk_guardF rfl rfl rfl (by decide) ?_
            refine xk_guardU rfl rfl (by decide) ?_
            refine xk_guardU rfl rfl (by decide) ?_
            refine xk_guardU rfl rfl (by decide) ?_
            refine xk_guardU rfl rfl (by decide) ?_
            refine xk_guardF rfl rfl rfl (by decide) ?_
            refine xk_guardF rfl rfl rfl (by decide) ?_
            refine xk_guardU rfl rfl (by decide) ?_
            refine xk_guardU rfl rfl (by decide) ?_
            refine xk_guardU rfl rfl (by decide) ?_
            refine xk_guardU rfl rfl (by decide) ?_
            refine xk_guardF rfl rfl rfl (by decide) ?_
            (first | refine xk_pickT rfl rfl (by decide) ?_ | refine xk_pickF rfl rfl (by decide) ?_)
            refine XK.nilN ?_
            exact XK.meetB (by repeat (first | exact trivial | refine ⟨rfl, ?_⟩)) (by first | (exfalso; omega) | (refine get_iff rfl ⟨fun _ => trivial, fun _ => ?_⟩; omega) | (refine get_iff rfl ⟨fun hh => ?_, fun hh => hh.elim⟩; omega) | exact get_true rfl trivial | (refine get_false rfl ?_; exact id))
        refine XK.if_ rfl (fun h => by first | exact absurd rfl h | exact absurd trivial h | exact False.elim h | (exfalso; omega) | cases h) (fun h => ?_)
        ·
          refine XK.skip ?_
          refine XK.norm ?_
          refine XK.seq ?_
          refine XK.cutB 103 (False) ?_ ?_
          · skip
            refine XK.region ?_
            refine xk_field (off := 0) (by kernel_rfl) rfl (by decide) ?_
            refine xk_ld rfl ?_
            refine xk_eql rfl rfl (by decide) ?_
            refine xk_move rfl (by decide) ?_
            refine xk_split (t := 98) rfl (fun hg98 => ?_) (fun hg98 => ?_)
            ·
              refine xk_guardT rfl rfl ?_; refine xk_field (off := 4) (by kernel_rfl) rfl (by decide) ?_
              refine xk_guardT rfl rfl ?_; refine xk_ld rfl ?_
              refine xk_guardT rfl rfl ?_; refine xk_callR (f := 91) (fi := []) (ca := []) (by kernel_rfl) rfl rfl (by decide) (fun w1 st => refWithin_any _ _ _ w1) ?_
              refine xk_guardT rfl rfl ?_; refine xk_notD rfl (by decide) ?_
              (first | refine xk_pickT rfl rfl (by decide) ?_ | refine xk_pickF rfl rfl (by decide) ?_)
              refine XK.nilN ?_
              exact XK.meetB (by repeat (first | exact trivial | refine ⟨rfl, ?_⟩)) (by first | (exfalso; omega) | (refine get_iff rfl ⟨fun _ => trivial, fun _ => ?_⟩; omega) | (refine get_iff rfl ⟨fun hh => ?_, fun hh => hh.elim⟩; omega) | exact get_true rfl trivial | (refine get_false rfl ?_; exact id))
            ·
              refine xk_guardF rfl rfl rfl (by decide) ?_
              refine xk_guardF rfl rfl rfl (by decide) ?_
              refine xk_guardF rfl rfl rfl (by decide) ?_
              refine xk_guardF rfl rfl rfl (by decide) ?_
              (first | refine xk_pickT rfl rfl (by decide) ?_ | refine xk_pickF rfl rfl (by decide) ?_)
              refine XK.nilN ?_
              exact XK.meetB (by repeat (first | exact trivial | refine ⟨rfl, ?_⟩)) (by first | (exfalso; omega) | (refine get_iff rfl ⟨fun _ => trivial, fun _ => ?_⟩; omega) | (refine get_iff rfl ⟨fun hh => ?_, fun hh => hh.elim⟩; omega) | exact get_true rfl trivial | (refine get_false rfl ?_; exact id))
          refine XK.if_ rfl (fun h => by first | exact absurd rfl h | exact absurd trivial h | exact False.elim h | (exfalso; omega) | cases h) (fun h => ?_)
          ·
            refine XK.skip ?_
            refine XK.norm ?_
            refine XK.seq ?_
            refine XK.region ?_
            refine xk_assign rfl (by decide) ?_
            refine XK.nilN ?_
            refine XK.ret ?_
            refine XK.norm ?_
            exact XK.ret1 rfl rfl fun w1 st => ⟨rfl, st.below (by simp)⟩
theorem refCounts_any (s : Soc) (A1 A2 A3 A4 : Option Addr) (n1 k1 n2 k2 n3 k3 n4 k4 : Nat) (w : World) (hW : SocW w s A1 n1 A2 n2 A3 n3 A4 n4) (hm : s.made) : Calls Tryz.prog 88 #[.agg #[.slice A1 n1 k1, .slice A2 n2 k2, .slice A3 n3 k3, .slice A4 n4 k4]] w (Rt (.bool true) w) := by
 have hn1 := hW.len1
 have hn2 := hW.len2
 have hn3 := hW.len3
 have hn4 := hW.len4
 have hnc := hm.nc
 have hnd := hm.nd
 have hnr := hm.nr
 have hnv := hm.nv
 refine XK.enter (vs := [.agg #[.slice A1 n1 k1, .slice A2 n2 k2, .slice A3 n3 k3, .slice A4 n4 k4]]) Tryz.func88 rfl Tryz.ntmps88 (by simp) ?_
 refine XK.seq ?_
 refine XK.region ?_
 refine xk_box rfl (by decide) fun g1 => ?_
 refine xk_assign rfl (by decide) ?_
 refine XK.nilN ?_
 refine XK.seq ?_
 refine XK.cutB 25 (False) ?_ ?_
 ·skip
  refine XK.region ?_
  refine xk_field (off := 0) (by kernel_rfl) rfl (by decide) ?_
  refine xk_ld rfl ?_
  refine xk_len (el := 64) (by kernel_rfl) rfl (by decide) ?_
  refine xk_gtr rfl rfl (by decide) ?_
  refine xk_move rfl (by decide) ?_
  refine xk_split (t := 8) rfl (fun hg8 => ?_) (fun hg8 => ?_)
  ·
   refine xk_guardF rfl rfl rfl (by decide) ?_
   refine xk_guardF rfl rfl rfl (by decide) ?_
   refine xk_guardF rfl rfl rfl (by decide) ?_
   refine xk_guardF rfl rfl rfl (by decide) ?_
   (first | refine xk_pickT rfl rfl (by decide) ?_ | refine xk_pickF rfl rfl (by decide) ?_)
   refine xk_move rfl (by decide) ?_
   refine xk_guardF rfl rfl rfl (by decide) ?_
   refine xk_guardF rfl rfl rfl (by decide) ?_
   refine xk_guardF rfl rfl rfl (by decide) ?_
   refine xk_guardF rfl rfl rfl (by decide) ?_
   (first | refine xk_pickT rfl rfl (by decide) ?_ | refine xk_pickF rfl rfl (by decide) ?_)
   refine xk_move rfl (by decide) ?_
   refine xk_guardF rfl rfl rfl (by decide) ?_
   refine xk_guardF rfl rfl rfl (by decide) ?_
   refine xk_guardF rfl rfl rfl (by decide) ?_
   refine xk_guardF rfl rfl rfl (by decide) ?_
   (first | refine xk_pickT rfl rfl (by decide) ?_ | refine xk_pickF rfl rfl (by decide) ?_)
   refine XK.nilN ?_
   exact XK.meetB (by repeat (first | exact trivial | refine ⟨rfl, ?_⟩)) (by first | (exfalso; omega) | (refine get_iff rfl ⟨fun _ => trivial, fun _ => ?_⟩; omega) | (refine get_iff rfl ⟨fun hh => ?_, fun hh => hh.elim⟩; omega) | exact get_true rfl trivial | (refine get_false rfl ?_; exact id))
  ·
   refine xk_guardT rfl rfl ?_; refine xk_field (off := 1) (by kernel_rfl) rfl (by decide) ?_
   refine xk_guardT rfl rfl ?_; refine xk_ld rfl ?_
   refine xk_guardT rfl rfl ?_; refine xk_len (el := 49) (by kernel_rfl) rfl (by decide) ?_
   refine xk_guardT rfl rfl ?_; refine xk_gtr rfl rfl (by decide) ?_
   (first | refine xk_pickT rfl rfl (by decide) ?_ | refine xk_pickF rfl rfl (by decide) ?_)
   refine xk_move rfl (by decide) ?_
   refine xk_split (t := 14) rfl (fun hg14 => ?_) (fun hg14 => ?_)
   ·
    refine xk_guardF rfl rfl rfl (by decide) ?_
    refine xk_guardF rfl rfl rfl (by decide) ?_
    refine xk_guardF rfl rfl rfl (by decide) ?_
    refine xk_guardF rfl rfl rfl (by decide) ?_
    (first | refine xk_pickT rfl rfl (by decide) ?_ | refine xk_pickF rfl rfl (by decide) ?_)
    refine xk_move rfl (by decide) ?_
    refine xk_guardF rfl rfl rfl (by decide) ?_
    refine xk_guardF rfl rfl rfl (by decide) ?_
    refine xk_guardF rfl rfl rfl (by decide) ?_
    refine xk_guardF rfl rfl rfl (by decide) ?_
    (first | refine xk_pickT rfl rfl (by decide) ?_ | refine xk_pickF rfl rfl (by decide) ?_)
    refine XK.nilN ?_
    exact XK.meetB (by repeat (first | exact trivial | refine ⟨rfl, ?_⟩)) (by first | (exfalso; omega) | (refine get_iff rfl ⟨fun _ => trivial, fun _ => ?_⟩; omega) | (refine get_iff rfl ⟨fun hh => ?_, fun hh => hh.elim⟩; omega) | exact get_true rfl trivial | (refine get_false rfl ?_; exact id))
   ·
    refine xk_guardT rfl rfl ?_; refine xk_field (off := 2) (by kernel_rfl) rfl (by decide) ?_
    refine xk_guardT rfl rfl ?_; refine xk_ld rfl ?_
    refine xk_guardT rfl rfl ?_; refine xk_len (el := 66) (by kernel_rfl) rfl (by decide) ?_
    refine xk_guardT rfl rfl ?_; refine xk_gtr rfl rfl (by decide) ?_
    (first | refine xk_pickT rfl rfl (by decide) ?_ | refine xk_pickF rfl rfl (by decide) ?_)
    refine xk_move rfl (by decide) ?_
    refine xk_split (t := 20) rfl (fun hg20 => ?_) (fun hg20 => ?_)
    ·
     refine xk_guardF rfl rfl rfl (by decide) ?_
     refine xk_guardF rfl rfl rfl (by decide) ?_
     refine xk_guardF rfl rfl rfl (by decide) ?_
     refine xk_guardF rfl rfl rfl (by decide) ?_
     (first | refine xk_pickT rfl rfl (by decide) ?_ | refine xk_pickF rfl rfl (by decide) ?_)
     refine XK.nilN ?_
     exact XK.meetB (by repeat (first | exact trivial | refine ⟨rfl, ?_⟩)) (by first | (exfalso; omega) | (refine get_iff rfl ⟨fun _ => trivial, fun _ => ?_⟩; omega) | (refine get_iff rfl ⟨fun hh => ?_, fun hh => hh.elim⟩; omega) | exact get_true rfl trivial | (refine get_false rfl ?_; exact id))
    ·
     refine xk_guardT rfl rfl ?_; refine xk_field (off := 3) (by kernel_rfl) rfl (by decide) ?_
     refine xk_guardT rfl rfl ?_; refine xk_ld rfl ?_
     refine xk_guardT rfl rfl ?_; refine xk_len (el := 71) (by kernel_rfl) rfl (by decide) ?_
     refine xk_guardT rfl rfl ?_; refine xk_gtr rfl rfl (by decide) ?_
     (first | refine xk_pickT rfl rfl (by decide) ?_ | refine xk_pickF rfl rfl (by decide) ?_)
     refine XK.nilN ?_
     exact XK.meetB (by repeat (first | exact trivial | refine ⟨rfl, ?_⟩)) (by first | (exfalso; omega) | (refine get_iff rfl ⟨fun _ => trivial, fun _ => ?_⟩; omega) | (refine get_iff rfl ⟨fun hh => ?_, fun hh => hh.elim⟩; omega) | exact get_true rfl trivial | (refine get_false rfl ?_; exact id))
 refine XK.if_ rfl (fun h => by first | exact absurd rfl h | exact absurd trivial h | exact False.elim h | (exfalso; omega) | cases h) (fun h => ?_)
 ·
  refine XK.skip ?_
  refine XK.norm ?_
  refine XK.seq ?_
  refine XK.seq ?_
  refine XK.region ?_
  refine xk_assign rfl (by decide) ?_
  refine XK.nilN ?_
  refine XK.envS [(3, .int .i64 0), (1, .pointer (some ⟨g1, 0, none⟩))] ?_
  refine XK.block ?_
  refine XK.loop (fun m e R H => ∃ (i : Nat), i ≤ n4 ∧ m = n4 - i ∧ e = [(3, .int .i64 i), (1, .pointer (some ⟨g1, 0, none⟩))] ∧ R = [all w] ∧ H = [HP.blk g1 34 [.slice A1 n1 k1, .slice A2 n2 k2, .slice A3 n3 k3, .slice A4 n4 k4]]) n4 ⟨0, by omega, rfl, rfl, rfl, rfl⟩ fun m e R H hI => ?_
  obtain ⟨i, hi, rfl, rfl, rfl, rfl⟩ := hI
  refine XK.seq ?_
  refine XK.seq ?_
  refine XK.region ?_
  refine xk_move rfl (by decide) ?_
  refine xk_field (off := 3) (by kernel_rfl) rfl (by decide) ?_
  refine xk_ld rfl ?_
  refine xk_len (el := 71) (by kernel_rfl) rfl (by decide) ?_
  refine xk_lss rfl rfl (by decide) ?_
  refine XK.nilN ?_
  refine XK.if_ rfl (fun hil => ?_) (fun hil => ?_)
  ·
   refine XK.skip ?_
   refine XK.norm ?_
   refine XK.seq ?_
   refine XK.block ?_
   have hil' : i < n4 := by have h' : (i : Int) < (n4 : Int) := hil; omega
   obtain ⟨d, hd⟩ : ∃ d, s.devs[i]? = some d := ⟨_, List.getElem?_eq_getElem (by omega)⟩
   obtain ⟨b, off, r, rfl, hrl, hR, hro⟩ := hW.dev.row hd
   obtain ⟨Ar, nr, kr, An, nn, kn, rfl, hnr9, hnn9, hsr, hsn⟩ := hR
   obtain ⟨hd1, hd2, hd3, hd4, hd5, hd6, hd7, hd8, hd9, hd10, hd11, hd12⟩ := hm.devs i d hd
   refine XK.cutB 50 (False) ?_ ?_
   ·skip
    refine XK.region ?_
    refine xk_field (off := 3) (by kernel_rfl) rfl (by decide) ?_
    refine xk_ld rfl ?_
    refine xk_move rfl (by decide) ?_
    refine xk_at i (off + i * 6) (el := 71) (sz := 6) (by kernel_rfl) (by kernel_rfl) rfl rfl (by omega) (by omega) (by omega) (by decide) ?_
    refine xk_field (off := 4) (by kernel_rfl) rfl (by decide) ?_
    refine xk_load (by kernel_rfl) rfl (Rd.roc (by simp) (hro.at_ (j := 4) rfl)) (by decide) ?_
    refine xk_len (el := 68) (by kernel_rfl) rfl (by decide) ?_
    refine xk_gtr rfl rfl (by decide) ?_
    refine xk_move rfl (by decide) ?_
    refine xk_split (t := 41) rfl (fun hg41 => ?_) (fun hg41 => ?_)
    ·
     refine xk_guardF rfl rfl rfl (by decide) ?_
     refine xk_guardF rfl rfl rfl (by decide) ?_
     refine xk_guardF rfl rfl rfl (by decide) ?_
     refine xk_guardF rfl rfl rfl (by decide) ?_
     refine xk_guardF rfl rfl rfl (by decide) ?_
     refine xk_guardF rfl rfl rfl (by decide) ?_
     refine xk_guardF rfl rfl rfl (by decide) ?_
     refine xk_guardF rfl rfl rfl (by decide) ?_
     (first | refine xk_pickT rfl rfl (by decide) ?_ | refine xk_pickF rfl rfl (by decide) ?_)
     refine XK.nilN ?_
     exact XK.meetB (by repeat (first | exact trivial | refine ⟨rfl, ?_⟩)) (by first | (exfalso; omega) | (refine get_iff rfl ⟨fun _ => trivial, fun _ => ?_⟩; omega) | (refine get_iff rfl ⟨fun hh => ?_, fun hh => hh.elim⟩; omega) | exact get_true rfl trivial | (refine get_false rfl ?_; exact id))
    ·
     refine xk_guardT rfl rfl ?_; refine xk_field (off := 3) (by kernel_rfl) rfl (by decide) ?_
     refine xk_guardT rfl rfl ?_; refine xk_ld rfl ?_
     refine xk_guardT rfl rfl ?_; refine xk_move rfl (by decide) ?_
     refine xk_guardT rfl rfl ?_; refine xk_at i (off + i * 6) (el := 71) (sz := 6) (by kernel_rfl) (by kernel_rfl) rfl rfl (by omega) (by omega) (by omega) (by decide) ?_
     refine xk_guardT rfl rfl ?_; refine xk_field (off := 5) (by kernel_rfl) rfl (by decide) ?_
     refine xk_guardT rfl rfl ?_; refine xk_load (by kernel_rfl) rfl (Rd.roc (by simp) (hro.at_ (j := 5) rfl)) (by decide) ?_
     refine xk_guardT rfl rfl ?_; refine xk_len (el := 3) (by kernel_rfl) rfl (by decide) ?_
     refine xk_guardT rfl rfl ?_; refine xk_gtr rfl rfl (by decide) ?_
     (first | refine xk_pickT rfl rfl (by decide) ?_ | refine xk_pickF rfl rfl (by decide) ?_)
     refine XK.nilN ?_
     exact XK.meetB (by repeat (first | exact trivial | refine ⟨rfl, ?_⟩)) (by first | (exfalso; omega) | (refine get_iff rfl ⟨fun _ => trivial, fun _ => ?_⟩; omega) | (refine get_iff rfl ⟨fun hh => ?_, fun hh => hh.elim⟩; omega) | exact get_true rfl trivial | (refine get_false rfl ?_; exact id))
   refine XK.if_ rfl (fun h => by first | exact absurd rfl h | exact absurd trivial h | exact False.elim h | (exfalso; omega) | cases h) (fun h => ?_)
   ·
    refine XK.skip ?_
    refine XK.norm ?_
    refine XK.region ?_
    refine xk_move rfl (by decide) ?_
    refine xk_add rfl rfl (wrap_in (by omega)) (by decide) ?_
    refine xk_assign rfl (by decide) ?_
    refine XK.nilN ?_
    exact XK.envS [(3, .int .i64 ((i : Int) + 1)), (1, .pointer (some ⟨g1, 0, none⟩))] (XK.round (n4 - (i + 1)) (by omega) ⟨i + 1, by omega, rfl, rfl, rfl, rfl⟩)
  ·
   refine XK.exit ?_
   refine XK.norm ?_
   refine XK.seq ?_
   refine XK.region ?_
   refine xk_assign rfl (by decide) ?_
   refine XK.nilN ?_
   refine XK.ret ?_
   refine XK.norm ?_
   exact XK.ret1 rfl rfl fun w1 st => ⟨rfl, st.below (by simp)⟩
theorem refClocksE_any (s : Soc) (A1 A2 A3 A4 : Option Addr) (n1 k1 n2 k2 n3 k3 n4 k4 : Nat) (w : World) (hW : SocW w s A1 n1 A2 n2 A3 n3 A4 n4) (hm : s.made) : Calls Tryz.prog 89 #[.agg #[.slice A1 n1 k1, .slice A2 n2 k2, .slice A3 n3 k3, .slice A4 n4 k4]] w (Rt (.int .i64 0) w) := by
 have hn1 := hW.len1
 have hn2 := hW.len2
 have hn3 := hW.len3
 have hn4 := hW.len4
 have hnc := hm.nc
 have hnd := hm.nd
 have hnr := hm.nr
 have hnv := hm.nv
 have hsm := hW.small
 unfold Soc.small at hsm
 obtain ⟨hs1, hs2, hs3, hs4, hs5, hs6⟩ := hsm
 refine XK.enter (vs := [.agg #[.slice A1 n1 k1, .slice A2 n2 k2, .slice A3 n3 k3, .slice A4 n4 k4]]) Tryz.func89 rfl Tryz.ntmps89 (by simp) ?_
 refine XK.seq ?_
 refine XK.region ?_
 refine xk_box rfl (by decide) fun g1 => ?_
 refine xk_assign rfl (by decide) ?_
 refine XK.nilN ?_
 refine XK.seq ?_
 refine XK.seq ?_
 refine XK.region ?_
 refine xk_assign rfl (by decide) ?_
 refine XK.nilN ?_
 refine XK.envS [(3, .int .i64 0), (1, .pointer (some ⟨g1, 0, none⟩))] ?_
 refine XK.block ?_
 refine XK.loop (fun m e R H => ∃ (i : Nat), i ≤ n1 ∧ m = n1 - i ∧ e = [(3, .int .i64 i), (1, .pointer (some ⟨g1, 0, none⟩))] ∧ R = [all w] ∧ H = [HP.blk g1 34 [.slice A1 n1 k1, .slice A2 n2 k2, .slice A3 n3 k3, .slice A4 n4 k4]]) n1 ⟨0, by omega, rfl, rfl, rfl, rfl⟩ fun m e R H hI => ?_
 obtain ⟨i, hi, rfl, rfl, rfl, rfl⟩ := hI
 refine XK.seq ?_
 refine XK.seq ?_
 refine XK.region ?_
 refine xk_move rfl (by decide) ?_
 refine xk_field (off := 0) (by kernel_rfl) rfl (by decide) ?_
 refine xk_ld rfl ?_
 refine xk_len (el := 64) (by kernel_rfl) rfl (by decide) ?_
 refine xk_lss rfl rfl (by decide) ?_
 refine XK.nilN ?_
 refine XK.if_ rfl (fun hil => ?_) (fun hil => ?_)
 ·
  refine XK.skip ?_
  refine XK.norm ?_
  refine XK.seq ?_
  refine XK.block ?_
  refine XK.seq ?_
  have hil' : i < n1 := by have h' : (i : Int) < (n1 : Int) := hil; omega
  obtain ⟨c, hc⟩ : ∃ c, s.clocks[i]? = some c := ⟨_, List.getElem?_eq_getElem (by omega)⟩
  obtain ⟨b, off, r, rfl, hrl, hR, hro⟩ := hW.clk.row hc
  obtain ⟨Af, nf, kf, rfl, hnf, hsf⟩ := hR
  have hfit := hm.clocks i c hc
  refine XK.draw 8 (by kernel_rfl) (by kernel_rfl) ?_
  refine XA.dA 0 rfl rfl rfl (does_field (off := 0) (by kernel_rfl) rfl) ?_
  refine XA.dA 1 rfl rfl rfl (does_ld rfl) ?_
  refine XA.dA 2 rfl rfl rfl (does_move rfl) ?_
  refine XA.dA 3 rfl rfl rfl (does_at (i) (off + i * 6) (el := 64) (sz := 6) (by kernel_rfl) (by kernel_rfl) rfl rfl (by omega) (by omega) (by omega)) ?_
  refine XA.dA 4 rfl rfl rfl (does_loadN 6 (by kernel_rfl) rfl (RdN.of (vs := [.int .u8 c.kind, .slice Af nf kf, .int .u64 c.rate, .int .i64 c.mul, .int .i64 c.div, .int .i64 c.lock]) fun j v hj => Rd.roc (by simp) (hro.at_ (j := j) hj)) rfl) ?_
  refine XA.dA 5 rfl rfl rfl (does_field (off := 0) (by kernel_rfl) rfl) ?_
  refine XA.dA 6 rfl rfl rfl (does_ld rfl) ?_
  refine XA.dA 7 rfl rfl rfl (does_len (el := 64) (by kernel_rfl) rfl) ?_
  refine XA.next 8 rfl (by kernel_rfl) ?_
  refine xk_callR (f := 118) (fi := []) (ca := []) (by kernel_rfl) rfl rfl (by decide) (fun w1 st => refClock_any c i n1 Af nf kf w1 (SlS.le hsf (all_le (st.started (by simp)))) hnf hfit (by omega) (by omega)) ?_
  refine XA.bt ?_
  refine XA.next 9 rfl (by kernel_rfl) ?_
  refine xk_assign rfl (by decide) ?_
  refine XA.bt ?_
  refine XA.done (by kernel_rfl) ?_
  refine XK.norm ?_
  refine XK.seq ?_
  refine XK.region ?_
  refine xk_move rfl (by decide) ?_
  refine xk_neq rfl rfl (by decide) ?_
  refine XK.nilN ?_
  refine XK.if_ rfl (fun h => by first | exact absurd rfl h | exact absurd trivial h | exact False.elim h | (exfalso; omega) | cases h) (fun h => ?_)
  ·
   refine XK.skip ?_
   refine XK.norm ?_
   refine XK.region ?_
   refine xk_move rfl (by decide) ?_
   refine xk_add rfl rfl (wrap_in (by omega)) (by decide) ?_
   refine xk_assign rfl (by decide) ?_
   refine XK.nilN ?_
   exact XK.envS [(3, .int .i64 ((i : Int) + 1)), (1, .pointer (some ⟨g1, 0, none⟩))] (XK.round (n1 - (i + 1)) (by omega) ⟨i + 1, by omega, rfl, rfl, rfl, rfl⟩)
 ·
  refine XK.exit ?_
  refine XK.norm ?_
  refine XK.seq ?_
  refine XK.region ?_
  refine xk_ldN 4 rfl ?_
  refine xk_call [] (f := 120) (fi := []) (ca := []) (by kernel_rfl) rfl rfl (by decide) (by simp) (GrOk (clocksG s)) (fun w1 st => refClocks_any s A1 A2 A3 A4 n1 k1 n2 k2 n3 k3 n4 k4 w1 (hW.le (st.started (by simp)))) ?_
  rintro _ w1 qa ⟨Ag, cg, rfl, hgr⟩ hf _ _
  have hgr := hgr.le hf
  clear hf
  refine xk_callR (f := 119) (fi := []) (ca := []) (by kernel_rfl) rfl rfl (by decide) (fun w1 st => refCheck_any Ag _ cg (clocksG s) w1 (hgr.le (st.le (by simp))) rfl (by simp [clocksG]; omega) (fun l hl => by
    simp only [clocksG, List.mem_map] at hl
    obtain ⟨z, hz, rfl⟩ := hl
    have := hs5 z hz; omega) (made_clocks hm)) ?_
  refine xk_assign rfl (by decide) ?_
  refine XK.nilN ?_
  refine XK.ret ?_
  refine XK.norm ?_
  exact XK.ret1 rfl rfl fun w1 st => ⟨rfl, st.below (by simp)⟩
theorem refDomsE_any (s : Soc) (A1 A2 A3 A4 : Option Addr) (n1 k1 n2 k2 n3 k3 n4 k4 : Nat) (w : World) (hW : SocW w s A1 n1 A2 n2 A3 n3 A4 n4) (hm : s.made) : Calls Tryz.prog 90 #[.agg #[.slice A1 n1 k1, .slice A2 n2 k2, .slice A3 n3 k3, .slice A4 n4 k4]] w (Rt (.int .i64 0) w) := by
 have hn1 := hW.len1
 have hn2 := hW.len2
 have hn3 := hW.len3
 have hn4 := hW.len4
 have hnc := hm.nc
 have hnd := hm.nd
 have hnr := hm.nr
 have hnv := hm.nv
 refine XK.enter (vs := [.agg #[.slice A1 n1 k1, .slice A2 n2 k2, .slice A3 n3 k3, .slice A4 n4 k4]]) Tryz.func90 rfl Tryz.ntmps90 (by simp) ?_
 refine XK.seq ?_
 refine XK.region ?_
 refine xk_box rfl (by decide) fun g1 => ?_
 refine xk_assign rfl (by decide) ?_
 refine XK.nilN ?_
 refine XK.seq ?_
 refine XK.seq ?_
 refine XK.region ?_
 refine xk_assign rfl (by decide) ?_
 refine XK.nilN ?_
 refine XK.envS [(3, .int .i64 0), (1, .pointer (some ⟨g1, 0, none⟩))] ?_
 refine XK.block ?_
 refine XK.loop (fun m e R H => ∃ (i : Nat), i ≤ n2 ∧ m = n2 - i ∧ e = [(3, .int .i64 i), (1, .pointer (some ⟨g1, 0, none⟩))] ∧ R = [all w] ∧ H = [HP.blk g1 34 [.slice A1 n1 k1, .slice A2 n2 k2, .slice A3 n3 k3, .slice A4 n4 k4]]) n2 ⟨0, by omega, rfl, rfl, rfl, rfl⟩ fun m e R H hI => ?_
 obtain ⟨i, hi, rfl, rfl, rfl, rfl⟩ := hI
 refine XK.seq ?_
 refine XK.seq ?_
 refine XK.region ?_
 refine xk_move rfl (by decide) ?_
 refine xk_field (off := 1) (by kernel_rfl) rfl (by decide) ?_
 refine xk_ld rfl ?_
 refine xk_len (el := 49) (by kernel_rfl) rfl (by decide) ?_
 refine xk_lss rfl rfl (by decide) ?_
 refine XK.nilN ?_
 refine XK.if_ rfl (fun hil => ?_) (fun hil => ?_)
 ·
  refine XK.skip ?_
  refine XK.norm ?_
  refine XK.seq ?_
  refine XK.block ?_
  refine XK.seq ?_
  have hil' : i < n2 := by have h' : (i : Int) < (n2 : Int) := hil; omega
  obtain ⟨d, hd⟩ : ∃ d, s.domains[i]? = some d := ⟨_, List.getElem?_eq_getElem (by omega)⟩
  obtain ⟨b, off, r, rfl, hrl, rfl, hro⟩ := hW.dom.row hd
  obtain ⟨hd1, hd2, hd3⟩ := hm.domains i d hd
  refine XK.region ?_
  refine xk_field (off := 1) (by kernel_rfl) rfl (by decide) ?_
  refine xk_ld rfl ?_
  refine xk_move rfl (by decide) ?_
  refine xk_at (i) (off + i * 3) (el := 49) (sz := 3) (by kernel_rfl) (by kernel_rfl) rfl rfl (by omega) (by omega) (by omega) (by decide) ?_
  refine xk_loadN 3 (by kernel_rfl) rfl (RdN.of (vs := [.int .i64 d.above, .int .i64 d.delay, .bool d.ret]) fun j v hj => Rd.roc (by simp) (hro.at_ (j := j) hj)) rfl (by decide) ?_
  refine xk_alloc (cs := [.int .i64 0, .int .i64 0, .bool false]) (zeroB_of (by kernel_rfl)) (by decide) fun g2 => ?_
  refine xk_stN rfl rfl ?_; simp only [putN, Value.cells, List.set, List.take, List.drop, List.nil_append, List.append_nil, List.length_cons, List.length_nil, List.cons_append, Nat.reduceAdd]
  refine XK.nilN ?_
  refine XK.seq ?_
  refine XK.cutB 28 (False) ?_ ?_
  ·skip
   refine XK.region ?_
   refine xk_field (off := 0) (by kernel_rfl) rfl (by decide) ?_
   refine xk_ld rfl ?_
   refine xk_neq rfl rfl (by decide) ?_
   refine xk_move rfl (by decide) ?_
   refine xk_split (t := 20) rfl (fun hg20 => ?_) (fun hg20 => ?_)
   ·
    refine xk_guardT rfl rfl ?_; refine xk_field (off := 0) (by kernel_rfl) rfl (by decide) ?_
    refine xk_guardT rfl rfl ?_; refine xk_ld rfl ?_
    refine xk_guardT rfl rfl ?_; refine xk_field (off := 1) (by kernel_rfl) rfl (by decide) ?_
    refine xk_guardT rfl rfl ?_; refine xk_ld rfl ?_
    refine xk_guardT rfl rfl ?_; refine xk_len (el := 49) (by kernel_rfl) rfl (by decide) ?_
    refine xk_guardT rfl rfl ?_; refine xk_callR (f := 121) (fi := []) (ca := []) (by kernel_rfl) rfl rfl (by decide) (fun w1 st => refIn4_any _ _ w1) ?_
    refine xk_guardT rfl rfl ?_; refine xk_notD rfl (by decide) ?_
    (first | refine xk_pickT rfl rfl (by decide) ?_ | refine xk_pickF rfl rfl (by decide) ?_)
    refine XK.nilN ?_
    exact XK.meetB (by repeat (first | exact trivial | refine ⟨rfl, ?_⟩)) (by first | (exfalso; omega) | (refine get_iff rfl ⟨fun _ => trivial, fun _ => ?_⟩; omega) | (refine get_iff rfl ⟨fun hh => ?_, fun hh => hh.elim⟩; omega) | exact get_true rfl trivial | (refine get_false rfl ?_; exact id))
   ·
    refine xk_guardF rfl rfl rfl (by decide) ?_
    refine xk_guardF rfl rfl rfl (by decide) ?_
    refine xk_guardF rfl rfl rfl (by decide) ?_
    refine xk_guardF rfl rfl rfl (by decide) ?_
    refine xk_guardF rfl rfl rfl (by decide) ?_
    refine xk_guardF rfl rfl rfl (by decide) ?_
    refine xk_guardF rfl rfl rfl (by decide) ?_
    (first | refine xk_pickT rfl rfl (by decide) ?_ | refine xk_pickF rfl rfl (by decide) ?_)
    refine XK.nilN ?_
    exact XK.meetB (by repeat (first | exact trivial | refine ⟨rfl, ?_⟩)) (by first | (exfalso; omega) | (refine get_iff rfl ⟨fun _ => trivial, fun _ => ?_⟩; omega) | (refine get_iff rfl ⟨fun hh => ?_, fun hh => hh.elim⟩; omega) | exact get_true rfl trivial | (refine get_false rfl ?_; exact id))
  refine XK.if_ rfl (fun h => by first | exact absurd rfl h | exact absurd trivial h | exact False.elim h | (exfalso; omega) | cases h) (fun h => ?_)
  ·
   refine XK.skip ?_
   refine XK.norm ?_
   refine XK.seq ?_
   refine XK.region ?_
   refine xk_field (off := 1) (by kernel_rfl) rfl (by decide) ?_
   refine xk_ld rfl ?_
   refine xk_callR (f := 91) (fi := []) (ca := []) (by kernel_rfl) rfl rfl (by decide) (fun w1 st => refWithin_any _ _ _ w1) ?_
   refine xk_notD rfl (by decide) ?_
   refine XK.nilN ?_
   refine XK.if_ rfl (fun h => by first | exact absurd rfl h | exact absurd trivial h | exact False.elim h | (exfalso; omega) | cases h) (fun h => ?_)
   ·
    refine XK.skip ?_
    refine XK.norm ?_
    refine XK.region ?_
    refine xk_move rfl (by decide) ?_
    refine xk_add rfl rfl (wrap_in (by omega)) (by decide) ?_
    refine xk_assign rfl (by decide) ?_
    refine XK.nilN ?_
    exact XK.weak [1] rfl (by decide) (fun _ h => h) (XK.envS [(3, .int .i64 ((i : Int) + 1)), (1, .pointer (some ⟨g1, 0, none⟩))] (XK.round (n2 - (i + 1)) (by omega) ⟨i + 1, by omega, rfl, rfl, rfl, rfl⟩))
 ·
  refine XK.exit ?_
  refine XK.norm ?_
  refine XK.seq ?_
  refine XK.region ?_
  refine xk_ldN 4 rfl ?_
  refine xk_call [] (f := 122) (fi := []) (ca := []) (by kernel_rfl) rfl rfl (by decide) (by simp) (GrOk (domsG s)) (fun w1 st => refDoms_any s A1 A2 A3 A4 n1 k1 n2 k2 n3 k3 n4 k4 w1 (hW.le (st.started (by simp)))) ?_
  rintro _ w1 qa ⟨Ag, cg, rfl, hgr⟩ hf _ _
  have hgr := hgr.le hf
  clear hf
  refine xk_callR (f := 119) (fi := []) (ca := []) (by kernel_rfl) rfl rfl (by decide) (fun w1 st => refCheck_any Ag _ cg (domsG s) w1 (hgr.le (st.le (by simp))) rfl (by simp [domsG]; omega) (fun l hl => by
    simp only [domsG, List.mem_map] at hl
    obtain ⟨z, _, rfl⟩ := hl
    split <;> simp) (made_doms hm)) ?_
  refine xk_assign rfl (by decide) ?_
  refine XK.nilN ?_
  refine XK.ret ?_
  refine XK.norm ?_
  exact XK.ret1 rfl rfl fun w1 st => ⟨rfl, st.below (by simp)⟩
theorem refNeeds_any (s : Soc) (A1 A2 A3 A4 : Option Addr) (n1 k1 n2 k2 n3 k3 n4 k4 : Nat) (w : World) (hW : SocW w s A1 n1 A2 n2 A3 n3 A4 n4) :
  Calls Tryz.prog 93 #[.agg #[.slice A1 n1 k1, .slice A2 n2 k2, .slice A3 n3 k3, .slice A4 n4 k4]] w (fun y w' => (∃ v, y = .returned v ∧ GrOk (needsG s) v w w') ∧ Below w.heap.size w w') := by
 have hn := hW.len4
 have hsm := hW.small
 unfold Soc.small at hsm
 obtain ⟨hs1, hs2, hs3, hs4, hs5, hs6⟩ := hsm
 refine XK.enter (vs := [.agg #[.slice A1 n1 k1, .slice A2 n2 k2, .slice A3 n3 k3, .slice A4 n4 k4]]) Tryz.func93 rfl Tryz.ntmps93 (by simp) ?_
 refine XK.seq ?_
 refine XK.region ?_
 refine xk_box rfl (by decide) fun g1 => ?_
 refine xk_assign rfl (by decide) ?_
 refine XK.nilN ?_
 refine XK.seq ?_
 refine XK.region ?_
 refine xk_assign rfl (by decide) ?_
 refine XK.nilN ?_
 refine XK.seq ?_
 refine XK.seq ?_
 refine XK.region ?_
 refine xk_assign rfl (by decide) ?_
 refine XK.nilN ?_
 refine XK.envS [(4, .int .i64 0), (3, .slice none 0 0), (1, .pointer (some ⟨g1, 0, none⟩))] ?_
 refine XK.nilrow 22 1 ?_
 refine XK.still [] [] [0, 1] (by simp) rfl (by decide) (by decide) fun q0 _ _ hfr0 => ?_
 refine XK.block ?_
 refine XK.loop (fun m e R H => ∃ (k : Nat) (vs : List Value) (q : Piece) (Ag : Option Addr) (cg : Nat), k ≤ n4 ∧ m = n4 - k ∧ Fresh w q ∧ Rows (LstR (slq q)) 1 ((needsG s).take k) (vs.map fun v => [v]) ∧ e = [(4, .int .i64 k), (3, .slice Ag k cg), (1, .pointer (some ⟨g1, 0, none⟩))] ∧ R = [q, all w] ∧ H = [HP.own 22 1 (.slice Ag k cg) k vs, HP.blk g1 34 [.slice A1 n1 k1, .slice A2 n2 k2, .slice A3 n3 k3, .slice A4 n4 k4]]) n4 ⟨0, [], _, none, 0, by omega, rfl, hfr0 (by simp) (by simp), trivial, rfl, rfl, rfl⟩ fun m e R H hI => ?_
 obtain ⟨k, vs, q, Ag, cg, hk, rfl, hfq, hrows, rfl, rfl, rfl⟩ := hI
 refine XK.seq ?_
 refine XK.seq ?_
 refine XK.region ?_
 refine xk_move rfl (by decide) ?_
 refine xk_field (off := 3) (by kernel_rfl) rfl (by decide) ?_
 refine xk_ld rfl ?_
 refine xk_len (el := 71) (by kernel_rfl) rfl (by decide) ?_
 refine xk_lss rfl rfl (by decide) ?_
 refine XK.nilN ?_
 refine XK.if_ rfl (fun h => ?_) (fun h => ?_)
 ·
  refine XK.skip ?_
  refine XK.norm ?_
  refine XK.seq ?_
  refine XK.block ?_
  have hkn : k < s.devs.length := by omega
  obtain ⟨e, he⟩ : ∃ e, s.devs[k]? = some e := ⟨_, List.getElem?_eq_getElem hkn⟩
  obtain ⟨b, off, r, rfl, hrl, hR, hro⟩ := hW.dev.row he
  obtain ⟨Ar, nr, kr, Af, nf, kf, rfl, hnr9, hnf, hsr, hsf⟩ := hR
  have hgk : (needsG s)[k]? = some (e.needs) := by simp [needsG, he]
  refine XK.region ?_
  refine xk_move rfl (by decide) ?_
  refine xk_slice0 (el := 3) (sz := 1) (by kernel_rfl) (by kernel_rfl) (by decide) fun g4 => ?_
  refine XK.asOwn 0 1 0 rfl rfl (by omega) ?_
  dsimp only [List.set]
  refine xk_field (off := 3) (by kernel_rfl) rfl (by decide) ?_
  refine xk_ld rfl ?_
  refine xk_move rfl (by decide) ?_
  refine xk_at k (off + k * 6) (el := 71) (sz := 6) (by kernel_rfl) (by kernel_rfl) rfl rfl (by omega) (by omega) (by omega) (by decide) ?_
  refine xk_field (off := 5) (by kernel_rfl) rfl (by decide) ?_
  refine xk_load (by kernel_rfl) rfl (Rd.roc (by simp) (hro.at_ (j := 5) rfl)) (by decide) ?_
  refine xk_appendT 0 1 8 nf (n' := nf) (el := 3) (by kernel_rfl) (by kernel_rfl) (by decide) rfl rfl rfl (sl_ro (p := all w) (by simp) hsf) (by simp [intCells, Value.oneCell']) (by omega) (by have := hs6 e (List.mem_of_getElem? he); omega) (by have := hs6 e (List.mem_of_getElem? he); omega) (by decide) fun A5 c5 => ?_
  dsimp only [List.set, List.nil_append]
  refine xk_slice (el := 22) (sz := 1) (zs := [.slice none 0 0]) (by kernel_rfl) (zeroB_of (by kernel_rfl)) (by kernel_rfl) rfl (by decide) (by decide) rfl (by simp [fillL, setN, Value.cells, List.range_succ, List.set]; rfl) (by decide) fun g3 => ?_
  refine xk_appendT 2 1 24 1 (n' := k + 1) (el := 22) (by kernel_rfl) (by kernel_rfl) (by decide) rfl rfl rfl (sl_blk 0 rfl rfl) (by simp [Value.oneCell']) rfl (by omega) (by omega) (by decide) fun A6 c6 => ?_
  dsimp only [List.set]
  refine xk_assign rfl (by decide) ?_
  refine XK.nilN ?_
  refine XK.region ?_
  refine xk_move rfl (by decide) ?_
  refine xk_add rfl rfl (wrap_in (by omega)) (by decide) ?_
  refine xk_assign rfl (by decide) ?_
  refine XK.nilN ?_
  refine XK.still [q] [1] [2, 3] (by simp) rfl (by decide) (by decide) fun q' hq' hle hfr' => ?_
  obtain ⟨Fg, hsg, hzg⟩ := hq' 1 _ (by simp) rfl
  obtain ⟨A7, c7, e7, hso⟩ := SlS.of_own (Y := q'.Z) hsg hzg
  injection e7 with f1 f2 f3
  subst f1
  exact XK.weak [0, 1] rfl (by decide) (by simp) (XK.envS [(4, .int .i64 (k + 1)), (3, .slice A6 (k + 1) c6), (1, .pointer (some ⟨g1, 0, none⟩))] (XK.round (n4 - (k + 1)) (by omega) ⟨k + 1, vs ++ [_], q', A6, c6, by omega, rfl, hfr' (by simp) (by simpa using hfq), rows_next hrows (hle q (by simp)) hgk ⟨A5, nf, c5, rfl, hnf, hso⟩, rfl, rfl, rfl⟩))
 ·
  refine XK.exit ?_
  refine XK.norm ?_
  refine XK.seq ?_
  obtain rfl : k = n4 := by omega
  rw [List.take_of_length_le (by simp [needsG]; omega)] at hrows
  refine XK.region ?_
  refine xk_move rfl (by decide) ?_
  refine xk_assign rfl (by decide) ?_
  refine XK.nilN ?_
  refine XK.ret ?_
  refine XK.norm ?_
  refine XK.still [q] [0] [] (by simp) rfl (by decide) (by decide) fun q2 hq hle hfr => ?_
  have hgl : k = (needsG s).length := by simp [needsG]; omega
  exact XK.ret1 rfl rfl fun w1 st => ⟨⟨_, rfl, Ag, cg, by rw [← hgl], by rw [← hgl]; exact (GrS.ofOwn hrows (hle q (by simp)) (hq 0 _ (by simp) rfl) hgl).le (st.fresh_le (by simp) (hfr (by simp) (by simpa using hfq)))⟩, st.below (by simp)⟩
theorem refDevsE_any (s : Soc) (A1 A2 A3 A4 : Option Addr) (n1 k1 n2 k2 n3 k3 n4 k4 : Nat) (w : World) (hW : SocW w s A1 n1 A2 n2 A3 n3 A4 n4) (hm : s.made) : Calls Tryz.prog 92 #[.agg #[.slice A1 n1 k1, .slice A2 n2 k2, .slice A3 n3 k3, .slice A4 n4 k4]] w (Rt (.int .i64 0) w) := by
 have hn1 := hW.len1
 have hn2 := hW.len2
 have hn3 := hW.len3
 have hn4 := hW.len4
 have hnc := hm.nc
 have hnd := hm.nd
 have hnr := hm.nr
 have hnv := hm.nv
 have hsm := hW.small
 unfold Soc.small at hsm
 obtain ⟨hs1, hs2, hs3, hs4, hs5, hs6⟩ := hsm
 refine XK.enter (vs := [.agg #[.slice A1 n1 k1, .slice A2 n2 k2, .slice A3 n3 k3, .slice A4 n4 k4]]) Tryz.func92 rfl Tryz.ntmps92 (by simp) ?_
 refine XK.seq ?_
 refine XK.region ?_
 refine xk_box rfl (by decide) fun g1 => ?_
 refine xk_assign rfl (by decide) ?_
 refine XK.nilN ?_
 refine XK.seq ?_
 refine XK.seq ?_
 refine XK.region ?_
 refine xk_assign rfl (by decide) ?_
 refine XK.nilN ?_
 refine XK.envS [(3, .int .i64 0), (1, .pointer (some ⟨g1, 0, none⟩))] ?_
 refine XK.block ?_
 refine XK.loop (fun m e R H => ∃ (i : Nat), i ≤ n4 ∧ m = n4 - i ∧ e = [(3, .int .i64 i), (1, .pointer (some ⟨g1, 0, none⟩))] ∧ R = [all w] ∧ H = [HP.blk g1 34 [.slice A1 n1 k1, .slice A2 n2 k2, .slice A3 n3 k3, .slice A4 n4 k4]]) n4 ⟨0, by omega, rfl, rfl, rfl, rfl⟩ fun m e R H hI => ?_
 obtain ⟨i, hi, rfl, rfl, rfl, rfl⟩ := hI
 refine XK.seq ?_
 refine XK.seq ?_
 refine XK.region ?_
 refine xk_move rfl (by decide) ?_
 refine xk_field (off := 3) (by kernel_rfl) rfl (by decide) ?_
 refine xk_ld rfl ?_
 refine xk_len (el := 71) (by kernel_rfl) rfl (by decide) ?_
 refine xk_lss rfl rfl (by decide) ?_
 refine XK.nilN ?_
 refine XK.if_ rfl (fun hil => ?_) (fun hil => ?_)
 ·
  refine XK.skip ?_
  refine XK.norm ?_
  refine XK.seq ?_
  refine XK.block ?_
  refine XK.seq ?_
  have hil' : i < n4 := by have h' : (i : Int) < (n4 : Int) := hil; omega
  obtain ⟨d, hd⟩ : ∃ d, s.devs[i]? = some d := ⟨_, List.getElem?_eq_getElem (by omega)⟩
  obtain ⟨b, off, r, rfl, hrl, hR, hro⟩ := hW.dev.row hd
  obtain ⟨Ar, nr, kr, An, nn, kn, rfl, hnr9, hnn9, hsr, hsn⟩ := hR
  obtain ⟨hd1, hd2, hd3, hd4, hd5, hd6, hd7, hd8, hd9, hd10, hd11, hd12⟩ := hm.devs i d hd
  refine XK.region ?_
  refine xk_field (off := 3) (by kernel_rfl) rfl (by decide) ?_
  refine xk_ld rfl ?_
  refine xk_move rfl (by decide) ?_
  refine xk_at (i) (off + i * 6) (el := 71) (sz := 6) (by kernel_rfl) (by kernel_rfl) rfl rfl (by omega) (by omega) (by omega) (by decide) ?_
  refine xk_loadN 6 (by kernel_rfl) rfl (RdN.of (vs := [.int .i64 d.clock, .int .i64 d.domain, .int .i64 d.reset, .int .u32 d.clamp, .slice Ar nr kr, .slice An nn kn]) fun j v hj => Rd.roc (by simp) (hro.at_ (j := j) hj)) rfl (by decide) ?_
  refine xk_alloc (cs := [.int .i64 0, .int .i64 0, .int .i64 0, .int .u32 0, .slice none 0 0, .slice none 0 0]) (zeroB_of (by kernel_rfl)) (by decide) fun g2 => ?_
  refine xk_stN rfl rfl ?_; simp only [putN, Value.cells, List.set, List.take, List.drop, List.nil_append, List.append_nil, List.length_cons, List.length_nil, List.cons_append, Nat.reduceAdd]
  refine XK.nilN ?_
  refine XK.seq ?_
  refine XK.cutB 42 (False) ?_ ?_
  ·skip
   refine XK.region ?_
   refine xk_field (off := 0) (by kernel_rfl) rfl (by decide) ?_
   refine xk_ld rfl ?_
   refine xk_field (off := 0) (by kernel_rfl) rfl (by decide) ?_
   refine xk_ld rfl ?_
   refine xk_len (el := 64) (by kernel_rfl) rfl (by decide) ?_
   refine xk_callR (f := 121) (fi := []) (ca := []) (by kernel_rfl) rfl rfl (by decide) (fun w1 st => refIn4_any _ _ w1) ?_
   refine xk_notD rfl (by decide) ?_
   refine xk_move rfl (by decide) ?_
   refine xk_split (t := 25) rfl (fun hg25 => ?_) (fun hg25 => ?_)
   ·
    refine xk_guardF rfl rfl rfl (by decide) ?_
    refine xk_guardF rfl rfl rfl (by decide) ?_
    refine xk_guardF rfl rfl rfl (by decide) ?_
    refine xk_guardF rfl rfl rfl (by decide) ?_
    refine xk_guardF rfl rfl rfl (by decide) ?_
    refine xk_guardF rfl rfl rfl (by decide) ?_
    refine xk_guardF rfl rfl rfl (by decide) ?_
    (first | refine xk_pickT rfl rfl (by decide) ?_ | refine xk_pickF rfl rfl (by decide) ?_)
    refine xk_move rfl (by decide) ?_
    refine xk_guardF rfl rfl rfl (by decide) ?_
    refine xk_guardF rfl rfl rfl (by decide) ?_
    refine xk_guardF rfl rfl rfl (by decide) ?_
    refine xk_guardF rfl rfl rfl (by decide) ?_
    refine xk_guardF rfl rfl rfl (by decide) ?_
    refine xk_guardF rfl rfl rfl (by decide) ?_
    refine xk_guardF rfl rfl rfl (by decide) ?_
    (first | refine xk_pickT rfl rfl (by decide) ?_ | refine xk_pickF rfl rfl (by decide) ?_)
    refine XK.nilN ?_
    exact XK.meetB (by repeat (first | exact trivial | refine ⟨rfl, ?_⟩)) (by first | (exfalso; omega) | (refine get_iff rfl ⟨fun _ => trivial, fun _ => ?_⟩; omega) | (refine get_iff rfl ⟨fun hh => ?_, fun hh => hh.elim⟩; omega) | exact get_true rfl trivial | (refine get_false rfl ?_; exact id))
   ·
    refine xk_guardT rfl rfl ?_; refine xk_field (off := 1) (by kernel_rfl) rfl (by decide) ?_
    refine xk_guardT rfl rfl ?_; refine xk_ld rfl ?_
    refine xk_guardT rfl rfl ?_; refine xk_field (off := 1) (by kernel_rfl) rfl (by decide) ?_
    refine xk_guardT rfl rfl ?_; refine xk_ld rfl ?_
    refine xk_guardT rfl rfl ?_; refine xk_len (el := 49) (by kernel_rfl) rfl (by decide) ?_
    refine xk_guardT rfl rfl ?_; refine xk_callR (f := 121) (fi := []) (ca := []) (by kernel_rfl) rfl rfl (by decide) (fun w1 st => refIn4_any _ _ w1) ?_
    refine xk_guardT rfl rfl ?_; refine xk_notD rfl (by decide) ?_
    (first | refine xk_pickT rfl rfl (by decide) ?_ | refine xk_pickF rfl rfl (by decide) ?_)
    refine xk_move rfl (by decide) ?_
    refine xk_split (t := 34) rfl (fun hg34 => ?_) (fun hg34 => ?_)
    ·
     refine xk_guardF rfl rfl rfl (by decide) ?_
     refine xk_guardF rfl rfl rfl (by decide) ?_
     refine xk_guardF rfl rfl rfl (by decide) ?_
     refine xk_guardF rfl rfl rfl (by decide) ?_
     refine xk_guardF rfl rfl rfl (by decide) ?_
     refine xk_guardF rfl rfl rfl (by decide) ?_
     refine xk_guardF rfl rfl rfl (by decide) ?_
     (first | refine xk_pickT rfl rfl (by decide) ?_ | refine xk_pickF rfl rfl (by decide) ?_)
     refine XK.nilN ?_
     exact XK.meetB (by repeat (first | exact trivial | refine ⟨rfl, ?_⟩)) (by first | (exfalso; omega) | (refine get_iff rfl ⟨fun _ => trivial, fun _ => ?_⟩; omega) | (refine get_iff rfl ⟨fun hh => ?_, fun hh => hh.elim⟩; omega) | exact get_true rfl trivial | (refine get_false rfl ?_; exact id))
    ·
     refine xk_guardT rfl rfl ?_; refine xk_field (off := 2) (by kernel_rfl) rfl (by decide) ?_
     refine xk_guardT rfl rfl ?_; refine xk_ld rfl ?_
     refine xk_guardT rfl rfl ?_; refine xk_field (off := 2) (by kernel_rfl) rfl (by decide) ?_
     refine xk_guardT rfl rfl ?_; refine xk_ld rfl ?_
     refine xk_guardT rfl rfl ?_; refine xk_len (el := 66) (by kernel_rfl) rfl (by decide) ?_
     refine xk_guardT rfl rfl ?_; refine xk_callR (f := 121) (fi := []) (ca := []) (by kernel_rfl) rfl rfl (by decide) (fun w1 st => refIn4_any _ _ w1) ?_
     refine xk_guardT rfl rfl ?_; refine xk_notD rfl (by decide) ?_
     (first | refine xk_pickT rfl rfl (by decide) ?_ | refine xk_pickF rfl rfl (by decide) ?_)
     refine XK.nilN ?_
     exact XK.meetB (by repeat (first | exact trivial | refine ⟨rfl, ?_⟩)) (by first | (exfalso; omega) | (refine get_iff rfl ⟨fun _ => trivial, fun _ => ?_⟩; omega) | (refine get_iff rfl ⟨fun hh => ?_, fun hh => hh.elim⟩; omega) | exact get_true rfl trivial | (refine get_false rfl ?_; exact id))
  refine XK.if_ rfl (fun h => by first | exact absurd rfl h | exact absurd trivial h | exact False.elim h | (exfalso; omega) | cases h) (fun h => ?_)
  ·
   refine XK.skip ?_
   refine XK.norm ?_
   refine XK.seq ?_
   refine XK.region ?_
   refine xk_assign rfl (by decide) ?_
   refine XK.nilN ?_
   refine XK.envS [(5, .int .i64 0), (4, .pointer (some ⟨g2, 0, none⟩)), (3, .int .i64 i), (1, .pointer (some ⟨g1, 0, none⟩))] ?_
   refine XK.block ?_
   refine XK.loop (fun m e R H => ∃ (k : Nat), k ≤ nn ∧ m = nn - k ∧ e = [(5, .int .i64 k), (4, .pointer (some ⟨g2, 0, none⟩)), (3, .int .i64 i), (1, .pointer (some ⟨g1, 0, none⟩))] ∧ R = [all w] ∧ H = [HP.blk g2 71 [.int .i64 d.clock, .int .i64 d.domain, .int .i64 d.reset, .int .u32 d.clamp, .slice Ar nr kr, .slice An nn kn], HP.blk g1 34 [.slice A1 n1 k1, .slice A2 n2 k2, .slice A3 n3 k3, .slice (some ⟨b, off, none⟩) n4 k4]]) nn ⟨0, by omega, rfl, rfl, rfl, rfl⟩ fun m e R H hI => ?_
   obtain ⟨k, hk, rfl, rfl, rfl, rfl⟩ := hI
   refine XK.seq ?_
   refine XK.seq ?_
   refine XK.region ?_
   refine xk_move rfl (by decide) ?_
   refine xk_field (off := 5) (by kernel_rfl) rfl (by decide) ?_
   refine xk_ld rfl ?_
   refine xk_len (el := 3) (by kernel_rfl) rfl (by decide) ?_
   refine xk_lss rfl rfl (by decide) ?_
   refine XK.nilN ?_
   refine XK.if_ rfl (fun hkl => ?_) (fun hkl => ?_)
   ·
    refine XK.skip ?_
    refine XK.norm ?_
    refine XK.seq ?_
    refine XK.block ?_
    refine XK.seq ?_
    have hkl' : k < nn := by have h' : (k : Int) < (nn : Int) := hkl; omega
    obtain ⟨y, hy⟩ : ∃ y, d.needs[k]? = some y := ⟨_, List.getElem?_eq_getElem (by omega)⟩
    have hyb := hd12 y (List.mem_of_getElem? hy)
    obtain ⟨bI, oI, hAI, hcI⟩ := SlS.intR hsn (by omega)
    subst hAI
    have hcy := hcI k y hy
    refine XK.draw 8 (by kernel_rfl) (by kernel_rfl) ?_
    refine XA.dA 0 rfl rfl rfl (does_field (off := 5) (by kernel_rfl) rfl) ?_
    refine XA.dA 1 rfl rfl rfl (does_ld rfl) ?_
    refine XA.dA 2 rfl rfl rfl (does_move rfl) ?_
    refine XA.dA 3 rfl rfl rfl (does_at (k) (oI + k) (el := 3) (sz := 1) (by kernel_rfl) (by kernel_rfl) rfl rfl (by omega) (by omega) (by omega)) ?_
    refine XA.dA 4 rfl rfl rfl (does_load (by kernel_rfl) rfl (Rd.roc (by simp) hcy)) ?_
    refine XA.dA 5 rfl rfl rfl (does_field (off := 3) (by kernel_rfl) rfl) ?_
    refine XA.dA 6 rfl rfl rfl (does_ld rfl) ?_
    refine XA.dA 7 rfl rfl rfl (does_len (el := 71) (by kernel_rfl) rfl) ?_
    refine XA.next 8 rfl (by kernel_rfl) ?_
    refine xk_callR (f := 121) (fi := []) (ca := []) (by kernel_rfl) rfl rfl (by decide) (fun w1 st => refIn4_any _ _ w1) ?_
    refine XA.bt ?_
    refine XA.next 9 rfl (by kernel_rfl) ?_
    refine xk_notD rfl (by decide) ?_
    refine XA.bt ?_
    refine XA.done (by kernel_rfl) ?_
    refine XK.norm ?_
    refine XK.if_ rfl (fun h => by first | exact absurd rfl h | exact absurd trivial h | exact False.elim h | (exfalso; omega) | cases h) (fun h => ?_)
    ·
     refine XK.skip ?_
     refine XK.norm ?_
     refine XK.region ?_
     refine xk_move rfl (by decide) ?_
     refine xk_add rfl rfl (wrap_in (by omega)) (by decide) ?_
     refine xk_assign rfl (by decide) ?_
     refine XK.nilN ?_
     exact XK.envS [(5, .int .i64 ((k : Int) + 1)), (4, .pointer (some ⟨g2, 0, none⟩)), (3, .int .i64 i), (1, .pointer (some ⟨g1, 0, none⟩))] (XK.round (nn - (k + 1)) (by omega) ⟨k + 1, by omega, rfl, rfl, rfl, rfl⟩)
   ·
    refine XK.exit ?_
    refine XK.norm ?_
    refine XK.region ?_
    refine xk_move rfl (by decide) ?_
    refine xk_add rfl rfl (wrap_in (by omega)) (by decide) ?_
    refine xk_assign rfl (by decide) ?_
    refine XK.nilN ?_
    exact XK.weak [1] rfl (by decide) (fun _ h => h) (XK.envS [(3, .int .i64 ((i : Int) + 1)), (1, .pointer (some ⟨g1, 0, none⟩))] (XK.round (n4 - (i + 1)) (by omega) ⟨i + 1, by omega, rfl, rfl, rfl, rfl⟩))
 ·
  refine XK.exit ?_
  refine XK.norm ?_
  refine XK.seq ?_
  refine XK.region ?_
  refine xk_ldN 4 rfl ?_
  refine xk_call [] (f := 93) (fi := []) (ca := []) (by kernel_rfl) rfl rfl (by decide) (by simp) (GrOk (needsG s)) (fun w1 st => refNeeds_any s A1 A2 A3 A4 n1 k1 n2 k2 n3 k3 n4 k4 w1 (hW.le (st.started (by simp)))) ?_
  rintro _ w1 qa ⟨Ag, cg, rfl, hgr⟩ hf _ _
  have hgr := hgr.le hf
  clear hf
  refine xk_callR (f := 119) (fi := []) (ca := []) (by kernel_rfl) rfl rfl (by decide) (fun w1 st => refCheck_any Ag _ cg (needsG s) w1 (hgr.le (st.le (by simp))) rfl (by simp [needsG]; omega) (fun l hl => by
    simp only [needsG, List.mem_map] at hl
    obtain ⟨z, hz, rfl⟩ := hl
    have := hs6 z hz; omega) (made_needs hm)) ?_
  refine xk_assign rfl (by decide) ?_
  refine XK.nilN ?_
  refine XK.ret ?_
  refine XK.norm ?_
  exact XK.ret1 rfl rfl fun w1 st => ⟨rfl, st.below (by simp)⟩
theorem refChk_any (s : Soc) (A1 A2 A3 A4 : Option Addr) (n1 k1 n2 k2 n3 k3 n4 k4 : Nat) (w : World) (hW : SocW w s A1 n1 A2 n2 A3 n3 A4 n4) (hm : s.made) : Calls Tryz.prog 43 #[.agg #[.slice A1 n1 k1, .slice A2 n2 k2, .slice A3 n3 k3, .slice A4 n4 k4]] w (Rt (.int .i64 0) w) := by
 have hn1 := hW.len1
 have hn2 := hW.len2
 have hn3 := hW.len3
 have hn4 := hW.len4
 have hnc := hm.nc
 have hnd := hm.nd
 have hnr := hm.nr
 have hnv := hm.nv
 refine XK.enter (vs := [.agg #[.slice A1 n1 k1, .slice A2 n2 k2, .slice A3 n3 k3, .slice A4 n4 k4]]) Tryz.func43 rfl Tryz.ntmps43 (by simp) ?_
 refine XK.seq ?_
 refine XK.region ?_
 refine xk_box rfl (by decide) fun g1 => ?_
 refine xk_assign rfl (by decide) ?_
 refine XK.nilN ?_
 refine XK.seq ?_
 refine XK.seq ?_
 refine XK.region ?_
 refine xk_ldN 4 rfl ?_
 refine xk_callR (f := 88) (fi := []) (ca := []) (by kernel_rfl) rfl rfl (by decide) (fun w1 st => refCounts_any s A1 A2 A3 A4 n1 k1 n2 k2 n3 k3 n4 k4 w1 (hW.le (st.started (by simp))) hm) ?_
 (first | refine xk_notD rfl (by decide) ?_ | refine xk_not rfl (by decide) ?_)
 refine XK.nilN ?_
 refine XK.if_ rfl (fun h => by first | exact absurd rfl h | cases h | (exfalso; omega)) (fun h => ?_)
 ·
  refine XK.skip ?_
  refine XK.norm ?_
  refine XK.seq ?_
  refine XK.region ?_
  refine xk_ldN 4 rfl ?_
  refine xk_callR (f := 89) (fi := []) (ca := []) (by kernel_rfl) rfl rfl (by decide) (fun w1 st => refClocksE_any s A1 A2 A3 A4 n1 k1 n2 k2 n3 k3 n4 k4 w1 (hW.le (st.started (by simp))) hm) ?_
  refine xk_assign rfl (by decide) ?_
  refine XK.nilN ?_
  refine XK.seq ?_
  refine XK.seq ?_
  refine XK.region ?_
  refine xk_move rfl (by decide) ?_
  refine xk_neq rfl rfl (by decide) ?_
  refine XK.nilN ?_
  refine XK.if_ rfl (fun h => by first | exact absurd rfl h | cases h | (exfalso; omega)) (fun h => ?_)
  ·
   refine XK.skip ?_
   refine XK.norm ?_
   refine XK.seq ?_
   refine XK.region ?_
   refine xk_ldN 4 rfl ?_
   refine xk_callR (f := 90) (fi := []) (ca := []) (by kernel_rfl) rfl rfl (by decide) (fun w1 st => refDomsE_any s A1 A2 A3 A4 n1 k1 n2 k2 n3 k3 n4 k4 w1 (hW.le (st.started (by simp))) hm) ?_
   refine xk_assign rfl (by decide) ?_
   refine XK.nilN ?_
   refine XK.seq ?_
   refine XK.seq ?_
   refine XK.region ?_
   refine xk_move rfl (by decide) ?_
   refine xk_neq rfl rfl (by decide) ?_
   refine XK.nilN ?_
   refine XK.if_ rfl (fun h => by first | exact absurd rfl h | cases h | (exfalso; omega)) (fun h => ?_)
   ·
    refine XK.skip ?_
    refine XK.norm ?_
    refine XK.seq ?_
    refine XK.seq ?_
    refine XK.region ?_
    refine xk_assign rfl (by decide) ?_
    refine XK.nilN ?_
    refine XK.envS [(4, .int .i64 0), (1, .pointer (some ⟨g1, 0, none⟩))] ?_
    refine XK.block ?_
    refine XK.loop (fun m e R H => ∃ (i : Nat), i ≤ n3 ∧ m = n3 - i ∧ e = [(4, .int .i64 i), (1, .pointer (some ⟨g1, 0, none⟩))] ∧ R = [all w] ∧ H = [HP.blk g1 34 [.slice A1 n1 k1, .slice A2 n2 k2, .slice A3 n3 k3, .slice A4 n4 k4]]) n3 ⟨0, by omega, rfl, rfl, rfl, rfl⟩ fun m e R H hI => ?_
    obtain ⟨i, hi, rfl, rfl, rfl, rfl⟩ := hI
    refine XK.seq ?_
    refine XK.seq ?_
    refine XK.region ?_
    refine xk_move rfl (by decide) ?_
    refine xk_field (off := 2) (by kernel_rfl) rfl (by decide) ?_
    refine xk_ld rfl ?_
    refine xk_len (el := 66) (by kernel_rfl) rfl (by decide) ?_
    refine xk_lss rfl rfl (by decide) ?_
    refine XK.nilN ?_
    refine XK.if_ rfl (fun hil => ?_) (fun hil => ?_)
    ·
     refine XK.skip ?_
     refine XK.norm ?_
     refine XK.seq ?_
     refine XK.block ?_
     refine XK.seq ?_
     refine XK.region ?_
     refine xk_field (off := 2) (by kernel_rfl) rfl (by decide) ?_
     refine xk_ld rfl ?_
     refine xk_move rfl (by decide) ?_
     have hil' : i < n3 := by have h' : (i : Int) < (n3 : Int) := hil; omega
     obtain ⟨r0, hr0⟩ : ∃ r0, s.resets[i]? = some r0 := ⟨_, List.getElem?_eq_getElem (by omega)⟩
     obtain ⟨b, off, r, rfl, hrl, rfl, hro⟩ := hW.rst.row hr0
     have hrb := hm.resets r0 (List.mem_of_getElem? hr0)
     refine xk_at (i) (off + i * 1) (el := 66) (sz := 1) (by kernel_rfl) (by kernel_rfl) rfl rfl (by omega) (by omega) (by omega) (by decide) ?_
     refine xk_field (off := 0) (by kernel_rfl) rfl (by decide) ?_
     refine xk_load (by kernel_rfl) rfl (Rd.roc (by simp) (hro.at_ (j := 0) rfl)) (by decide) ?_
     refine xk_callR (f := 91) (fi := []) (ca := []) (by kernel_rfl) rfl rfl (by decide) (fun w1 st => refWithin_any _ _ _ w1) ?_
     (first | refine xk_notD rfl (by decide) ?_ | refine xk_not rfl (by decide) ?_)
     refine XK.nilN ?_
     refine XK.if_ rfl (fun h => by first | exact absurd rfl h | cases h | (exfalso; omega)) (fun h => ?_)
     ·
      refine XK.skip ?_
      refine XK.norm ?_
      refine XK.region ?_
      refine xk_move rfl (by decide) ?_
      refine xk_add rfl rfl (wrap_in (by omega)) (by decide) ?_
      refine xk_assign rfl (by decide) ?_
      refine XK.nilN ?_
      exact XK.envS [(4, .int .i64 ((i : Int) + 1)), (1, .pointer (some ⟨g1, 0, none⟩))] (XK.round (n3 - (i + 1)) (by omega) ⟨i + 1, by omega, rfl, rfl, rfl, rfl⟩)
    ·
     refine XK.exit ?_
     refine XK.norm ?_
     refine XK.seq ?_
     refine XK.region ?_
     refine xk_ldN 4 rfl ?_
     refine xk_callR (f := 92) (fi := []) (ca := []) (by kernel_rfl) rfl rfl (by decide) (fun w1 st => refDevsE_any s A1 A2 A3 A4 n1 k1 n2 k2 n3 k3 n4 k4 w1 (hW.le (st.started (by simp))) hm) ?_
     refine xk_assign rfl (by decide) ?_
     refine XK.nilN ?_
     refine XK.ret ?_
     refine XK.norm ?_
     exact XK.ret1 rfl rfl fun w1 st => ⟨rfl, st.below (by simp)⟩
end
section
set_option maxHeartbeats 4000000
set_option maxRecDepth 20000
def PtrE' (v : Value) : Prop := ∃ (p : Option Addr) (e : Int), v = .tuple #[.pointer p, .int .i64 e]
theorem RsR.rowN {α : Type} {w : World} {R : α → List Value → Prop} {t : TypeId} {sz n k : Nat} {A : Option Addr} {es : List α} {e : α} (h : RsR (slq (all w)) R t sz A n es) (hk : es[k]? = some e) : ∃ b off r, A = some ⟨b, off, none⟩ ∧ R e r ∧ ROn w b (off + k * sz) r := by
 obtain ⟨b, off, r, h1, h2, _, h3, h4⟩ := h.rowQ hk
 exact ⟨b, off, r, h1, h3, h2, fun j v hv => h4 j v hv⟩
theorem clk_src2 {s : Soc} (hm : s.made) {i : Nat} {c : Clk} (hc : s.clocks[i]? = some c) : c.src.length ≤ 2 := by
 rcases (hm.clocks i c hc).2 with h | h | h | h | h
 ·rw [h.2.1]; simp
 all_goals (have := h.2.1; omega)
theorem int_one (l : List Int) : ∀ v ∈ intCells l, v.oneCell' = true := fun v hv => by
 simp [intCells] at hv
 obtain ⟨_, _, rfl⟩ := hv
 rfl
section
variable (s : Soc) (A1 A2 A3 A4 : Option Addr) (n1 k1 n2 k2 n3 k3 n4 k4 : Nat) (w : World) (hW : SocW w s A1 n1 A2 n2 A3 n3 A4 n4) (hm : s.made)
include hW hm
theorem ref8New_any : Calls Tryz.prog 39 #[.agg #[.slice A1 n1 k1, .slice A2 n2 k2, .slice A3 n3 k3, .slice A4 n4 k4]] w (fun y w' => (∃ v, y = .returned v ∧ PtrE' v) ∧ Below w.heap.size w w') := by
 have hnr := hm.nr
 obtain ⟨rr, hrr, hn3, hst⟩ := hW.rst
 have hrr := rst_rows hrr
 subst hrr; subst hn3
 refine XK.enter (vs := [.agg #[.slice A1 n1 k1, .slice A2 n2 k2, .slice A3 s.resets.length k3, .slice A4 n4 k4]]) Tryz.func39 rfl Tryz.ntmps39 (by simp) ?_
 refine XK.gw ?_
 refine kbx fun g1 => ?_
 refine XK.gw ?_
 refine kcall (fun w1 t => refChk_any s A1 A2 A3 A4 n1 k1 n2 k2 _ k3 n4 k4 w1 (hW.le (t.started (by simp))) hm) ?_
 refine XK.gw ?_
 refine kbx fun g2 => ?_
 refine XK.gw ?_
 refine XK.nilrow 3 1 ?_
 refine XK.nilrow 266 3 ?_
 refine XK.lp (α := ((Option Addr × Nat) × List Value) × (Option Addr × Nat) × List Value) (fun i _ => [(6, .int .i64 i), (5, .pointer (some ⟨g2, 0, none⟩)), (1, .pointer (some ⟨g1, 0, none⟩))]) (fun i x => [HP.own 266 3 (.slice x.1.1.1 i x.1.1.2) i x.1.2, HP.own 3 1 (.slice x.2.1.1 i x.2.1.2) i x.2.2, HP.blk g2 264 [.slice x.2.1.1 i x.2.1.2, .slice x.1.1.1 i x.1.1.2], HP.blk g1 34 [.slice A1 n1 k1, .slice A2 n2 k2, .slice A3 s.resets.length k3, .slice A4 n4 k4]]) (fun _ _ => True) s.resets.length (((none, 0), []), (none, 0), []) trivial fun i x hi _ => ?_
 obtain ⟨⟨⟨L1, L2⟩, L3⟩, ⟨⟨M1, M2⟩, M3⟩⟩ := x
 dsimp only
 refine XK.gw ?_
 refine XK.if_ rfl (fun hlt => ?_) (fun hge => ?_)
 ·have hlt : i < s.resets.length := by omega
  obtain ⟨c, hc⟩ := get_some hlt
  obtain ⟨b, off, rfl, hro⟩ := SlS.row hst (fun r hr => by obtain ⟨q, _, rfl⟩ := List.mem_map.1 hr; rfl) (r := [.int .i64 c]) (by rw [List.getElem?_map, hc]; rfl) hlt
  have k0 := hro.at_ (j := 0) rfl
  simp only [Nat.mul_one] at k0
  refine XK.gw ?_
  refine XK.dr ?_
  refine XB.nx 11 ?_
  refine ksl fun g3 => ?_
  refine XB.bk ?_
  refine XB.tl [12, 13, 14, 15] ?_
  refine XK.gw ?_
  refine kap 2 fun A' k' => ?_
  dsimp only [List.set]
  refine XK.gw ?_
  refine ksl fun g4 => ?_
  refine XK.gw ?_
  refine kap 2 fun A'' k'' => ?_
  dsimp only [List.set]
  refine XK.gw ?_
  exact XK.ag (((_, _), _), (_, _), _)
 ·refine XK.gw ?_
  exact XK.ret2 rfl rfl rfl fun w1 t => ⟨⟨_, rfl, ⟨_, _, rfl⟩⟩, t.below (by simp)⟩
theorem ref7New_any : Calls Tryz.prog 38 #[.agg #[.slice A1 n1 k1, .slice A2 n2 k2, .slice A3 n3 k3, .slice A4 n4 k4]] w (fun y w' => (∃ v, y = .returned v ∧ PtrE' v) ∧ Below w.heap.size w w') := by
 have hnd := hm.nd
 obtain ⟨rr, hrr, hn2, hst⟩ := hW.dom
 have hrr := dom_rows hrr
 subst hrr; subst hn2
 refine XK.enter (vs := [.agg #[.slice A1 n1 k1, .slice A2 s.domains.length k2, .slice A3 n3 k3, .slice A4 n4 k4]]) Tryz.func38 rfl Tryz.ntmps38 (by simp) ?_
 refine XK.gw ?_
 refine kbx fun g1 => ?_
 refine XK.gw ?_
 refine kcall (fun w1 t => refChk_any s A1 A2 A3 A4 _ k1 _ k2 _ k3 n4 k4 w1 (hW.le (t.started (by simp))) hm) ?_
 refine XK.gw ?_
 refine xk_slice0 (el := 49) (sz := 3) (by kernel_rfl) (by kernel_rfl) (by decide) fun g => ?_
 refine XK.asOwn 0 3 0 rfl rfl (by omega) ?_
 dsimp only [List.set]
 refine XK.gw ?_
 refine xk_appendT 0 3 24 s.domains.length (n' := s.domains.length) (el := 49) (by kernel_rfl) (by kernel_rfl) (by decide) rfl rfl rfl (sl_ro (by simp) hst) (fun v hv => by
  simp only [List.mem_flatten, List.mem_map] at hv
  obtain ⟨_, ⟨d, _, rfl⟩, hv⟩ := hv
  simp only [List.mem_cons, List.not_mem_nil, or_false] at hv
  rcases hv with rfl | rfl | rfl <;> rfl) (by omega) (by omega) (by omega) (by decide) fun A k => ?_
 dsimp only [List.set, List.nil_append]
 refine XK.gw ?_
 refine kbx fun g2 => ?_
 refine XK.gw ?_
 refine XK.nilrow 261 3 ?_
 refine XK.lp (α := (Option Addr × Nat) × List Value) (fun i _ => [(6, .int .i64 i), (5, .pointer (some ⟨g2, 0, none⟩))]) (fun i x => [HP.own 261 3 (.slice x.1.1 i x.1.2) i x.2, HP.blk g2 259 [.slice A s.domains.length k, .slice x.1.1 i x.1.2]]) (fun _ _ => True) s.domains.length ((none, 0), []) trivial fun i x hi _ => ?_
 obtain ⟨⟨L1, L2⟩, L3⟩ := x
 dsimp only
 refine XK.gw ?_
 refine XK.if_ rfl (fun hlt => ?_) (fun hge => ?_)
 ·have hlt : i < s.domains.length := by omega
  refine XK.gw ?_
  refine ksl fun g4 => ?_
  refine XK.gw ?_
  refine kap 1 fun A'' k'' => ?_
  dsimp only [List.set]
  refine XK.gw ?_
  exact XK.ag ((_, _), _)
 ·refine XK.gw ?_
  exact XK.ret2 rfl rfl rfl fun w1 t => ⟨⟨_, rfl, ⟨_, _, rfl⟩⟩, t.below (by simp)⟩
theorem ref6New_any : Calls Tryz.prog 37 #[.agg #[.slice A1 n1 k1, .slice A2 n2 k2, .slice A3 n3 k3, .slice A4 n4 k4]] w (fun y w' => (∃ v, y = .returned v ∧ PtrE' v) ∧ Below w.heap.size w w') := by
 have hnc := hm.nc
 obtain rfl := hW.len1
 refine XK.enter (vs := [.agg #[.slice A1 s.clocks.length k1, .slice A2 n2 k2, .slice A3 n3 k3, .slice A4 n4 k4]]) Tryz.func37 rfl Tryz.ntmps37 (by simp) ?_
 refine XK.gw ?_
 refine kbx fun g1 => ?_
 refine XK.gw ?_
 refine kcall (fun w1 t => refChk_any s A1 A2 A3 A4 _ k1 _ k2 _ k3 n4 k4 w1 (hW.le (t.started (by simp))) hm) ?_
 refine XK.gw ?_
 refine kbx fun g2 => ?_
 refine XK.gw ?_
 refine XK.nilrow 64 6 ?_
 refine XK.nilrow 256 5 ?_
 refine XK.lp (α := ((Option Addr × Nat) × List Value) × (Option Addr × Nat) × List Value) (fun i _ => [(6, .int .i64 i), (5, .pointer (some ⟨g2, 0, none⟩)), (1, .pointer (some ⟨g1, 0, none⟩))]) (fun i x => [HP.own 256 5 (.slice x.1.1.1 i x.1.1.2) i x.1.2, HP.own 64 6 (.slice x.2.1.1 i x.2.1.2) i x.2.2, HP.blk g2 254 [.slice x.2.1.1 i x.2.1.2, .slice x.1.1.1 i x.1.1.2], HP.blk g1 34 [.slice A1 s.clocks.length k1, .slice A2 n2 k2, .slice A3 n3 k3, .slice A4 n4 k4]]) (fun _ _ => True) s.clocks.length (((none, 0), []), (none, 0), []) trivial fun i x hi _ => ?_
 obtain ⟨⟨⟨L1, L2⟩, L3⟩, ⟨⟨M1, M2⟩, M3⟩⟩ := x
 dsimp only
 refine XK.gw ?_
 refine XK.if_ rfl (fun hlt => ?_) (fun hge => ?_)
 ·have hlt : i < s.clocks.length := by omega
  obtain ⟨c, hc⟩ := get_some hlt
  obtain ⟨b, off, _, rfl, ⟨AF, _, kF, rfl, rfl, hF⟩, hro⟩ := hW.clk.rowN hc
  have hs2 := clk_src2 hm hc
  refine XK.gw ?_
  refine kal fun g3 => ?_
  refine XK.gw ?_
  refine xk_slice0 (el := 3) (sz := 1) (by kernel_rfl) (by kernel_rfl) (by decide) fun g => ?_
  refine XK.asOwn 0 1 0 rfl rfl (by omega) ?_
  dsimp only [List.set]
  refine XK.gw ?_
  refine xk_appendT 0 1 8 c.src.length (n' := c.src.length) (el := 3) (by kernel_rfl) (by kernel_rfl) (by decide) rfl rfl rfl (sl_ro (by simp) hF) (int_one _) (by omega) (by omega) (by omega) (by decide) fun A k => ?_
  dsimp only [List.set, List.nil_append]
  refine XK.gw ?_
  refine XK.dr ?_
  refine XB.nx 6 ?_
  refine ksl fun g4 => ?_
  refine XB.bk ?_
  refine XB.tl [7, 8, 9, 10] ?_
  refine XK.gw ?_
  refine kap 4 fun A' k' => ?_
  dsimp only [List.set]
  refine XK.gw ?_
  refine kal fun g5 => ?_
  refine XK.gw ?_
  refine XK.cu (α := Int) (fun _ => [(8, .pointer (some ⟨g5, 0, none⟩)), (6, .int .i64 i), (5, .pointer (some ⟨g2, 0, none⟩)), (1, .pointer (some ⟨g1, 0, none⟩))]) (fun v => [HP.blk g5 256 [.bool false, .int .i64 v, .int .i64 0, .int .i64 0, .int .i64 c.div], HP.own 256 5 (.slice L1 i L2) i L3, HP.own 64 6 (.slice A' (i + 1) k') (i + 1) (M3 ++ [.int .u8 c.kind, .slice A c.src.length k, .int .u64 c.rate, .int .i64 c.mul, .int .i64 c.div, .int .i64 c.lock]), HP.blk g2 254 [.slice A' (i + 1) k', .slice L1 i L2], HP.blk g1 34 [.slice (some ⟨b, off, none⟩) s.clocks.length k1, .slice A2 n2 k2, .slice A3 n3 k3, .slice A4 n4 k4]]) (fun _ => True) ?_ fun v _ => ?_
  ·refine XK.gw ?_
   refine XK.if_ rfl (fun _ => ?_) (fun _ => ?_)
   ·refine XK.gw ?_
    exact XK.mt _
   ·refine XK.gw ?_
    exact XK.mt _
  refine XK.gw ?_
  refine XK.dr ?_
  refine XB.nx 6 ?_
  refine ksl fun g6 => ?_
  refine XB.bk ?_
  refine XB.tl [7, 8, 9, 10] ?_
  refine XK.gw ?_
  refine kap 2 fun A'' k'' => ?_
  dsimp only [List.set]
  refine XK.gw ?_
  exact XK.ag (((_, _), _), (_, _), _)
 ·refine XK.gw ?_
  exact XK.ret2 rfl rfl rfl fun w1 t => ⟨⟨_, rfl, ⟨_, _, rfl⟩⟩, t.below (by simp)⟩
end
end
section
set_option maxHeartbeats 4000000
set_option maxRecDepth 20000
section
variable {N : Frm} {w0 w : World} {e : Env} {R : List Piece} {H : List HP} {Q : Exit → Act → World → Prop} {ops : Array Oper} {rest : List Oper} {pos : String} {ty : TypeId} {aft : Array Edge} {p : HP}
theorem kstM (i : Nat) {x y : Operand} {s t : TypeId} {g o : Nat} {cs vs : List Value} (hi : H[i]? = some (HP.blk g t cs)) (k : XK N w0 (wpList Tryz.prog ops Q rest) e R (H.set i (HP.blk g t (putN cs o vs)))) (hx : e.ev x = some (.pointer (some ⟨g, o, none⟩)) := by rfl) (hy : e.ev y = some (.agg vs.toArray) := by rfl) (hs : (Tryz.prog.info? s).any (·.size == vs.length) = true := by kernel_rfl) (h1 : vs.all Value.oneCell' = true := by rfl) (hl : decide (o + vs.length ≤ cs.length) = true := by rfl) :
  XK N w0 (wpList Tryz.prog ops Q (⟨none, .store s x y, ty, pos, aft, none⟩ :: rest)) e R H :=
 xk_storeN i hi hx hy hs (fun u hu => List.all_eq_true.1 h1 u (by simpa [Value.cells] using hu)) (by simpa [Value.cells] using of_decide_eq_true hl) (by simpa [Value.cells] using k)
end
section
variable (s : Soc) (A1 A2 A3 A4 : Option Addr) (n1 k1 n2 k2 n3 k3 n4 k4 : Nat) (w : World) (hm : s.made)
include hm
theorem ref14Start_any : Calls Tryz.prog 44 #[.agg #[.slice A1 s.clocks.length k1, .slice A2 s.domains.length k2, .slice A3 s.resets.length k3, .slice A4 n4 k4]] w (fun y w' => (∃ v, y = .returned v ∧ ∃ v1 v2 v3 v4 v5 v6 : Value, v = .agg #[v1, v2, v3, v4, v5, v6]) ∧ Below w.heap.size w w') := by
 have hnc := hm.nc
 have hnd := hm.nd
 have hnr := hm.nr
 refine XK.enter (vs := [.agg #[.slice A1 s.clocks.length k1, .slice A2 s.domains.length k2, .slice A3 s.resets.length k3, .slice A4 n4 k4]]) Tryz.func44 rfl Tryz.ntmps44 (by simp) ?_
 refine XK.gw ?_
 refine kbx fun g1 => ?_
 refine kal fun g2 => ?_
 refine XK.gw ?_
 refine kal fun g3 => ?_
 refine XK.gw ?_
 refine XK.lp (α := (Value × Value × Value) × Value × Value × Value) (fun i _ => [(4, .int .i64 i), (3, .pointer (some ⟨g3, 0, none⟩)), (2, .pointer (some ⟨g2, 0, none⟩)), (1, .pointer (some ⟨g1, 0, none⟩))]) (fun i x => [HP.blk g3 164 [x.1.1, x.1.2.1, x.1.2.2, x.2.1, x.2.2.1, x.2.2.2], HP.blk g2 164 [.slice none 0 0, .slice none 0 0, .slice none 0 0, .slice none 0 0, .slice none 0 0, .slice none 0 0], HP.blk g1 34 [.slice A1 s.clocks.length k1, .slice A2 s.domains.length k2, .slice A3 s.resets.length k3, .slice A4 n4 k4]]) (fun _ x => ∀ v ∈ [x.1.1, x.1.2.1, x.1.2.2, x.2.1, x.2.2.1, x.2.2.2], v.oneCell' = true) 2 ((.slice none 0 0, .slice none 0 0, .slice none 0 0), .slice none 0 0, .slice none 0 0, .slice none 0 0) (by simp [Value.oneCell']) fun i x hi hx => ?_
 obtain ⟨⟨a1, a2, a3⟩, a4, a5, a6⟩ := x
 dsimp only at hx ⊢
 refine XK.gw ?_
 refine XK.if_ rfl (fun hlt => ?_) (fun hge => ?_)
 ·obtain rfl | rfl : i = 0 ∨ i = 1 := by omega
  all_goals
   refine XK.gw ?_
   refine XK.draw 15 (by kernel_rfl) (by kernel_rfl) ?_
   refine XA.q 0 ?_
   refine XA.q 1 ?_
   refine XA.q 2 ?_
   refine XA.q 3 ?_
   refine XA.q 5 ?_
   refine XA.q 6 ?_
   refine XA.q 7 ?_
   refine XA.q 9 ?_
   refine XA.q 10 ?_
   refine XA.q 11 ?_
   refine XA.q 14 ?_
   refine XA.allocs (fuel := 3) [4, 8, 12] [[4, 8, 12]] (fun i => match i with | 4 => ⟨13, 4, List.replicate s.domains.length (.bool false), fun g => .slice (some ⟨g, 0, none⟩) s.domains.length s.domains.length⟩ | 8 => ⟨17, 4, List.replicate s.clocks.length (.bool false), fun g => .slice (some ⟨g, 0, none⟩) s.clocks.length s.clocks.length⟩ | _ => ⟨21, 4, List.replicate s.resets.length (.bool false), fun g => .slice (some ⟨g, 0, none⟩) s.resets.length s.resets.length⟩) (fun i hi => ?_) (by show [13, 17, 21].Nodup; decide) (by kernel_rfl) (fun _ h => h) (fun sub hsub hex g => ?_)
   ·simp only [List.mem_cons, List.not_mem_nil, or_false] at hi
    rcases hi with rfl | rfl | rfl
    ·exact ALok.of rfl rfl rfl (makes_make 1 (el := 4) (z := .bool false) (by kernel_rfl) (by kernel_rfl) rfl rfl rfl (by omega) (by omega)) (Nat.le_of_ble_eq_true rfl) rfl
    ·exact ALok.of rfl rfl rfl (makes_make 1 (el := 4) (z := .bool false) (by kernel_rfl) (by kernel_rfl) rfl rfl rfl (by omega) (by omega)) (Nat.le_of_ble_eq_true rfl) rfl
    ·exact ALok.of rfl rfl rfl (makes_make 1 (el := 4) (z := .bool false) (by kernel_rfl) (by kernel_rfl) rfl rfl rfl (by omega) (by omega)) (Nat.le_of_ble_eq_true rfl) rfl
   have hs2 : sub = [4, 8, 12] := by simpa using hex
   subst hs2
   dsimp only [envA, hpA, markA, List.map, List.foldr, List.cons_append, List.nil_append, List.length_cons, List.length_nil, Nat.reduceAdd, Nat.reduceSub]
   refine XA.q 13 ?_ (hi := rfl) (hdo := does_bu rfl) (hsub := fun _ h => h.tail.tail.tail)
   refine XA.next 15 rfl (by kernel_rfl) ?_
   refine kz ?_
   refine XA.bt ?_
   refine XA.next 16 rfl (by kernel_rfl) ?_
   refine kstM 3 rfl ?_
   simp only [putN, List.set, Nat.reduceAdd, Nat.zero_add, List.take, List.drop, List.cons_append, List.nil_append, List.length_cons, List.length_nil]
   refine XA.bt ?_
   refine XA.done (by kernel_rfl) ?_
   refine XK.gw ?_
   exact XK.ag ((_, _, _), _, _, _) (hg := by simp [Value.oneCell'] at hx ⊢; simp [hx])
 ·refine XK.gw ?_
  refine kstW 1 rfl ?_ (h1 := List.all_eq_true.2 hx)
  dsimp only [List.set]
  refine XK.gw ?_
  exact XK.retC (vs := [a1, a2, a3, a4, a5, a6]) rfl (by kernel_rfl) rfl rfl (RdN.whole 1 rfl) fun w1 t => ⟨⟨_, rfl, _, _, _, _, _, _, rfl⟩, t.below (by simp)⟩
end
end
section
set_option maxHeartbeats 4000000
set_option maxRecDepth 20000
section
variable (s : Soc) (A1 A2 A3 A4 : Option Addr) (n1 k1 n2 k2 n3 k3 n4 k4 : Nat) (w : World) (hW : SocW w s A1 n1 A2 n2 A3 n3 A4 n4) (hm : s.made)
include hW hm
theorem ref17Nil_any : Calls Tryz.prog 46 #[.agg #[.slice A1 n1 k1, .slice A2 n2 k2, .slice A3 n3 k3, .slice A4 n4 k4], .slice none 0 0] w (fun y w' => (∃ v, y = .returned v ∧ ∃ v1 v2 v3 : Value, v = .agg #[v1, v2, v3]) ∧ Below w.heap.size w w') := by
 obtain rfl := hW.len1
 obtain rfl := hW.len2
 obtain rfl := hW.len3
 obtain rfl := hW.len4
 have hnc := hm.nc
 have hnd := hm.nd
 have hnr := hm.nr
 have hnv := hm.nv
 refine XK.enter (vs := [.agg #[.slice A1 s.clocks.length k1, .slice A2 s.domains.length k2, .slice A3 s.resets.length k3, .slice A4 s.devs.length k4], .slice none 0 0]) Tryz.func46 rfl Tryz.ntmps46 (by simp) ?_
 refine XK.gw ?_
 refine kbx fun g1 => ?_
 refine kal fun g2 => ?_
 refine XK.gw ?_
 refine XK.cu (α := Nat × Nat × Nat × Nat) (fun x => [(5, .pointer (some ⟨x.2.2.2, 0, none⟩)), (4, .pointer (some ⟨g2, 0, none⟩)), (2, .pointer (some ⟨g1, 0, none⟩)), (1, .slice none 0 0)]) (fun x => [HP.blk x.2.2.2 161 [.slice (some ⟨x.1, 0, none⟩) s.domains.length s.domains.length, .slice (some ⟨x.2.1, 0, none⟩) s.clocks.length s.clocks.length, .slice (some ⟨x.2.2.1, 0, none⟩) s.resets.length s.resets.length], HP.blk g2 161 [.slice none 0 0, .slice none 0 0, .slice none 0 0], HP.blk g1 34 [.slice A1 s.clocks.length k1, .slice A2 s.domains.length k2, .slice A3 s.resets.length k3, .slice A4 s.devs.length k4]]) (fun _ => True) ?_ fun x _ => ?_
 ·refine XK.draw 14 (by kernel_rfl) (by kernel_rfl) ?_
  refine XA.q 0 ?_
  refine XA.q 1 ?_
  refine XA.q 2 ?_
  refine XA.q 4 ?_
  refine XA.q 5 ?_
  refine XA.q 6 ?_
  refine XA.q 8 ?_
  refine XA.q 9 ?_
  refine XA.q 10 ?_
  refine XA.allocs (fuel := 2) [3, 7, 11, 13] [[3, 7, 11], [3, 7, 11, 13]] (fun i => match i with | 3 => ⟨14, 4, List.replicate s.domains.length (.bool false), fun g => .slice (some ⟨g, 0, none⟩) s.domains.length s.domains.length⟩ | 7 => ⟨18, 4, List.replicate s.clocks.length (.bool false), fun g => .slice (some ⟨g, 0, none⟩) s.clocks.length s.clocks.length⟩ | 11 => ⟨22, 4, List.replicate s.resets.length (.bool false), fun g => .slice (some ⟨g, 0, none⟩) s.resets.length s.resets.length⟩ | _ => ⟨5, 161, [.slice none 0 0, .slice none 0 0, .slice none 0 0], fun g => .pointer (some ⟨g, 0, none⟩)⟩) (fun i hi => ?_) (by show [14, 18, 22, 5].Nodup; decide) (by kernel_rfl) (fun _ h => h) (fun sub hsub hex g => ?_)
  ·simp only [List.mem_cons, List.not_mem_nil, or_false] at hi
   rcases hi with rfl | rfl | rfl | rfl
   ·exact ALok.of rfl rfl rfl (makes_make 1 (el := 4) (z := .bool false) (by kernel_rfl) (by kernel_rfl) rfl rfl rfl (by omega) (by omega)) (Nat.le_of_ble_eq_true rfl) rfl
   ·exact ALok.of rfl rfl rfl (makes_make 1 (el := 4) (z := .bool false) (by kernel_rfl) (by kernel_rfl) rfl rfl rfl (by omega) (by omega)) (Nat.le_of_ble_eq_true rfl) rfl
   ·exact ALok.of rfl rfl rfl (makes_make 1 (el := 4) (z := .bool false) (by kernel_rfl) (by kernel_rfl) rfl rfl rfl (by omega) (by omega)) (Nat.le_of_ble_eq_true rfl) rfl
   ·exact ALok.of rfl rfl rfl (makes_alloc (zeroB_of (by kernel_rfl))) (Nat.le_of_ble_eq_true rfl) rfl
  have hs2 : sub = [3, 7, 11] ∨ sub = [3, 7, 11, 13] := by simpa using hex
  rcases hs2 with rfl | rfl
  ·dsimp only [envA, hpA, markA, List.map, List.foldr, List.cons_append, List.nil_append, List.length_cons, List.length_nil, Nat.reduceAdd, Nat.reduceSub]
   refine XA.q 12 ?_ (hi := rfl) (hdo := does_bu rfl) (hsub := fun _ h => h.tail.tail.tail)
   refine XA.next 13 rfl (by kernel_rfl) ?_
   refine kal fun g6 => ?_
   refine XK.nil ?_; refine XK.thenN ?_; refine XA.back (fun _ h => h.tail.tail.tail.tail) ?_
   refine XA.next 14 rfl (by kernel_rfl) ?_
   refine kstW 0 rfl ?_
   dsimp only [List.set]
   refine XA.bt ?_
   refine XA.done (by kernel_rfl) ?_
   refine XK.gw ?_
   exact XK.mt (_, _, _, _)
  ·dsimp only [envA, hpA, markA, List.map, List.foldr, List.cons_append, List.nil_append, List.length_cons, List.length_nil, Nat.reduceAdd, Nat.reduceSub]
   refine XA.q 12 ?_ (hi := rfl) (hdo := does_bu rfl) (hsub := fun _ h => h.tail.tail.tail.tail)
   refine XA.next 14 rfl (by kernel_rfl) ?_
   refine kstW 3 rfl ?_
   dsimp only [List.set]
   refine XA.bt ?_
   refine XA.done (by kernel_rfl) ?_
   refine XK.gw ?_
   exact XK.mt (_, _, _, _)
 obtain ⟨ga, gb, gc, gw⟩ := x
 dsimp only
 refine XK.gw ?_
 refine XK.lp (α := Unit) (fun i _ => [(6, .int .i64 i), (5, .pointer (some ⟨gw, 0, none⟩)), (4, .pointer (some ⟨g2, 0, none⟩)), (2, .pointer (some ⟨g1, 0, none⟩)), (1, .slice none 0 0)]) (fun _ _ => [HP.blk gw 161 [.slice (some ⟨ga, 0, none⟩) s.domains.length s.domains.length, .slice (some ⟨gb, 0, none⟩) s.clocks.length s.clocks.length, .slice (some ⟨gc, 0, none⟩) s.resets.length s.resets.length], HP.blk g2 161 [.slice none 0 0, .slice none 0 0, .slice none 0 0], HP.blk g1 34 [.slice A1 s.clocks.length k1, .slice A2 s.domains.length k2, .slice A3 s.resets.length k3, .slice A4 s.devs.length k4]]) (fun _ _ => True) 0 () trivial fun i _ hi _ => ?_
 obtain rfl : i = 0 := by omega
 refine XK.gw ?_
 refine xk_split (t := 29) rfl (fun hg => ?_) (fun hg => ?_)
 all_goals
  refine XK.gw ?_
  exact XK.retC (vs := [.slice (some ⟨ga, 0, none⟩) s.domains.length s.domains.length, .slice (some ⟨gb, 0, none⟩) s.clocks.length s.clocks.length, .slice (some ⟨gc, 0, none⟩) s.resets.length s.resets.length]) rfl (by kernel_rfl) rfl rfl (RdN.whole 1 rfl) fun w1 t => ⟨⟨_, rfl, _, _, _, rfl⟩, t.below (by simp)⟩
theorem ref16New_any : Calls Tryz.prog 45 #[.agg #[.slice A1 n1 k1, .slice A2 n2 k2, .slice A3 n3 k3, .slice A4 n4 k4]] w (fun y w' => (∃ v, y = .returned v ∧ ∃ p : Option Addr, v = .tuple #[.pointer p, .int .i64 0]) ∧ Below w.heap.size w w') := by
 obtain rfl := hW.len4
 have hnv := hm.nv
 refine XK.enter (vs := [.agg #[.slice A1 n1 k1, .slice A2 n2 k2, .slice A3 n3 k3, .slice A4 s.devs.length k4]]) Tryz.func45 rfl Tryz.ntmps45 (by simp) ?_
 refine XK.gw ?_
 refine kbx fun g1 => ?_
 refine XK.gw ?_
 refine kcall (fun w1 t => refChk_any s A1 A2 A3 A4 _ k1 _ k2 _ k3 _ k4 w1 (hW.le (t.started (by simp))) hm) ?_
 refine XK.gw ?_
 refine XK.dr ?_
 refine XB.either 1 5 rfl rfl (by kernel_rfl) ?_ ?_
 ·refine xk_callV (f := 93) (fi := []) (ca := []) (by kernel_rfl) rfl rfl (by decide) (fun v => ∃ (A : Option Addr) (n c : Nat), v = .slice A n c) (fun w1 t => (refNeeds_any s A1 A2 A3 A4 _ k1 _ k2 _ k3 _ k4 w1 (hW.le (t.started (by simp)))).mono fun y w' ⟨⟨v, h1, h2⟩, h3⟩ => ⟨⟨v, h1, by obtain ⟨A, c, rfl, _⟩ := h2; exact ⟨_, _, _, rfl⟩⟩, h3⟩) fun v hv => ?_
  obtain ⟨A, n, c, rfl⟩ := hv
  refine XB.bk ?_
  refine XB.nx 5 ?_
  refine xk_makeT 8 (n := s.devs.length) (el := 3) (z := .int .i64 0) (by kernel_rfl) (by kernel_rfl) rfl rfl rfl (by omega) (by omega) (by decide) fun g2 => ?_
  refine XB.bk ?_
  refine XB.tl [6, 7, 8, 9] ?_
  refine XK.gw ?_
  refine kbx fun g3 => ?_
  refine XK.gw ?_
  exact XK.ret2 rfl rfl rfl fun w1 t => ⟨⟨_, rfl, ⟨_, rfl⟩⟩, t.below (by simp)⟩
 ·refine xk_makeT 8 (n := s.devs.length) (el := 3) (z := .int .i64 0) (by kernel_rfl) (by kernel_rfl) rfl rfl rfl (by omega) (by omega) (by decide) fun g2 => ?_
  refine XB.bk ?_
  refine XB.nx 1 ?_
  refine xk_callV (f := 93) (fi := []) (ca := []) (by kernel_rfl) rfl rfl (by decide) (fun v => ∃ (A : Option Addr) (n c : Nat), v = .slice A n c) (fun w1 t => (refNeeds_any s A1 A2 A3 A4 _ k1 _ k2 _ k3 _ k4 w1 (hW.le (t.started (by simp)))).mono fun y w' ⟨⟨v, h1, h2⟩, h3⟩ => ⟨⟨v, h1, by obtain ⟨A, c, rfl, _⟩ := h2; exact ⟨_, _, _, rfl⟩⟩, h3⟩) fun v hv => ?_
  obtain ⟨A, n, c, rfl⟩ := hv
  refine XB.bk ?_
  refine XB.tl [6, 7, 8, 9] ?_
  refine XK.gw ?_
  refine kbx fun g3 => ?_
  refine XK.gw ?_
  exact XK.ret2 rfl rfl rfl fun w1 t => ⟨⟨_, rfl, ⟨_, rfl⟩⟩, t.below (by simp)⟩
theorem ref15New_any (p : Option Addr) : Calls Tryz.prog 18 #[.pointer p, .agg #[.slice A1 n1 k1, .slice A2 n2 k2, .slice A3 n3 k3, .slice A4 n4 k4]] w (fun y w' => (∃ v, y = .returned v ∧ PtrE' v) ∧ Below w.heap.size w w') := by
 obtain rfl := hW.len1
 obtain rfl := hW.len2
 obtain rfl := hW.len3
 refine XK.enter (vs := [.pointer p, .agg #[.slice A1 s.clocks.length k1, .slice A2 s.domains.length k2, .slice A3 s.resets.length k3, .slice A4 n4 k4]]) Tryz.func18 rfl Tryz.ntmps18 (by simp) ?_
 refine XK.gw ?_
 refine kbx fun g1 => ?_
 refine XK.gw ?_
 refine kcall (fun w1 t => refChk_any s A1 A2 A3 A4 _ k1 _ k2 _ k3 _ k4 w1 (hW.le (t.started (by simp))) hm) ?_
 refine XK.gw ?_
 cases p with
 | none =>
  refine XK.gw ?_
  exact XK.ret2 rfl rfl rfl fun w1 t => ⟨⟨_, rfl, ⟨_, _, rfl⟩⟩, t.below (by simp)⟩
 | some a =>
  refine XK.gw ?_
  refine XK.dr ?_
  refine XB.nx 3 ?_
  refine xk_callV (f := 44) (fi := []) (ca := []) (by kernel_rfl) rfl rfl (by decide) (fun v => ∃ v1 v2 v3 v4 v5 v6 : Value, v = .agg #[v1, v2, v3, v4, v5, v6]) (fun w1 t => ref14Start_any s A1 A2 A3 A4 k1 k2 k3 n4 k4 w1 hm) fun v hv => ?_
  obtain ⟨v1, v2, v3, v4, v5, v6, rfl⟩ := hv
  refine XB.bk ?_
  refine XB.tl [4, 5, 6, 7] ?_
  refine XK.gw ?_
  refine kbx fun g2 => ?_
  refine XK.gw ?_
  exact XK.ret2 rfl rfl rfl fun w1 t => ⟨⟨_, rfl, ⟨_, _, rfl⟩⟩, t.below (by simp)⟩
end
end
section
def StR (p : Piece) (x y : Wsh) (v : Value) : Prop := ∃ A1 k1 A2 k2 A3 k3 B1 m1 B2 m2 B3 m3, v = .agg #[.slice A1 x.d.length k1, .slice A2 x.c.length k2, .slice A3 x.l.length k3, .slice B1 y.d.length m1, .slice B2 y.c.length m2, .slice B3 y.l.length m3] ∧
 SlS p 1 A1 x.d.length (boolCells x.d) ∧ SlS p 1 A2 x.c.length (boolCells x.c) ∧ SlS p 1 A3 x.l.length (boolCells x.l) ∧ SlS p 1 B1 y.d.length (boolCells y.d) ∧ SlS p 1 B2 y.c.length (boolCells y.c) ∧ SlS p 1 B3 y.l.length (boolCells y.l)
theorem StR.le {p q : Piece} {x y : Wsh} {v : Value} (h : StR p x y v) (hl : p.Le q) : StR q x y v := by
 obtain ⟨A1, k1, A2, k2, A3, k3, B1, m1, B2, m2, B3, m3, h0, h1, h2, h3, h4, h5, h6⟩ := h
 exact ⟨A1, k1, A2, k2, A3, k3, B1, m1, B2, m2, B3, m3, h0, h1.le hl, h2.le hl, h3.le hl, h4.le hl, h5.le hl, h6.le hl⟩
def StC (s : Soc) (p : Piece) : Nat → List Value → Prop
 | 0, cs => cs = [.slice none 0 0, .slice none 0 0, .slice none 0 0, .slice none 0 0, .slice none 0 0, .slice none 0 0]
 | 1, cs => ∃ a b c, cs = [a, b, c, .slice none 0 0, .slice none 0 0, .slice none 0 0] ∧ WshR p (zeroW s) (.agg #[a, b, c])
 | _, cs => ∃ a b c a' b' c', cs = [a, b, c, a', b', c'] ∧ WshR p (zeroW s) (.agg #[a, b, c]) ∧ WshR p (zeroW s) (.agg #[a', b', c'])
theorem StC.len {s : Soc} {p : Piece} : ∀ {i : Nat} {cs : List Value}, StC s p i cs → cs.length = 6
 | 0, _, h => by rw [show _ = _ from h]; rfl
 | 1, _, ⟨_, _, _, h, _⟩ => by rw [h]; rfl
 | _ + 2, _, ⟨_, _, _, _, _, _, h, _⟩ => by rw [h]; rfl
theorem StC.next {s : Soc} {p q : Piece} (hl : p.Le q) {a b c : Value} (hw : WshR q (zeroW s) (.agg #[a, b, c])) {i : Nat} {cs : List Value} (hi : i < 2) (h : StC s p i cs) : StC s q (i + 1) (putN cs (i * 3) [a, b, c]) := by
 obtain rfl | rfl : i = 0 ∨ i = 1 := by omega
 ·have h0 : cs = [.slice none 0 0, .slice none 0 0, .slice none 0 0, .slice none 0 0, .slice none 0 0, .slice none 0 0] := h
  subst h0
  exact ⟨a, b, c, rfl, hw⟩
 ·obtain ⟨a1, b1, c1, h0, h1⟩ := h
  subst h0
  exact ⟨a1, b1, c1, a, b, c, rfl, WshR.le h1 hl, hw⟩
theorem start_any (s : Soc) (A1 A2 A3 A4 : Option Addr) (k1 k2 k3 k4 : Nat) (w : World) (hm : s.okT) :
  Calls Tryz.prog 36 #[.agg #[.slice A1 s.clocks.length k1, .slice A2 s.domains.length k2, .slice A3 s.resets.length k3, .slice A4 s.devs.length k4]] w (RtW (fun v w w' => StR (fresh w w') (zeroW s) (zeroW s) v) w) := by
 have hn9 := hm.nc
 have hn4 := hm.nd
 have hn3 := hm.nr
 refine XK.enter (vs := [.agg #[.slice A1 s.clocks.length k1, .slice A2 s.domains.length k2, .slice A3 s.resets.length k3, .slice A4 s.devs.length k4]]) Tryz.func36 rfl Tryz.ntmps36 (by simp) ?_
 refine XK.seq ?_
 refine XK.region ?_
 refine xk_box rfl (by decide) fun g1 => ?_
 refine xk_alloc (cs := [.slice none 0 0, .slice none 0 0, .slice none 0 0, .slice none 0 0, .slice none 0 0, .slice none 0 0]) (zeroB_of (by kernel_rfl)) (by decide) fun g2 => ?_
 refine XK.nilN ?_
 refine XK.seq ?_
 refine XK.region ?_
 refine xk_alloc (cs := [.slice none 0 0, .slice none 0 0, .slice none 0 0, .slice none 0 0, .slice none 0 0, .slice none 0 0]) (zeroB_of (by kernel_rfl)) (by decide) fun g3 => ?_
 refine XK.nilN ?_
 refine XK.seq ?_
 refine XK.seq ?_
 refine XK.region ?_
 refine xk_move rfl (by decide) ?_
 refine XK.nilN ?_
 refine XK.envS [(5, .int .i64 0), (3, .pointer (some ⟨g3, 0, none⟩)), (2, .pointer (some ⟨g2, 0, none⟩)), (1, .pointer (some ⟨g1, 0, none⟩))] ?_
 refine XK.piece ⟨w, fun _ => False⟩ (by simp) (fun _ h => h.elim) ?_
 refine XK.block ?_
 refine XK.loop (fun m e R H => ∃ (i : Nat) (cs : List Value) (qs : Piece), i ≤ 2 ∧ m = 2 - i ∧ StC s qs i cs ∧ Fresh w qs ∧ e = [(5, .int .i64 i), (3, .pointer (some ⟨g3, 0, none⟩)), (2, .pointer (some ⟨g2, 0, none⟩)), (1, .pointer (some ⟨g1, 0, none⟩))] ∧ R = [qs, all w] ∧ H = [HP.blk g3 130 cs, HP.blk g2 130 [.slice none 0 0, .slice none 0 0, .slice none 0 0, .slice none 0 0, .slice none 0 0, .slice none 0 0], HP.blk g1 34 [.slice A1 s.clocks.length k1, .slice A2 s.domains.length k2, .slice A3 s.resets.length k3, .slice A4 s.devs.length k4]]) 2 ⟨0, _, ⟨w, fun _ => False⟩, by omega, rfl, rfl, (fun _ h => h.elim), rfl, rfl, rfl⟩ fun m e R H hI => ?_
 obtain ⟨i, cs, qs, hi2, rfl, hcs, hfrs, rfl, rfl, rfl⟩ := hI
 refine XK.seq ?_
 refine XK.region ?_
 refine xk_lss rfl rfl (by decide) ?_
 refine XK.nilN ?_
 refine XK.seq ?_
 refine XK.if_ rfl (fun h => ?_) (fun h => ?_)
 ·
  refine XK.skip ?_
  refine XK.norm ?_
  refine XK.seq ?_
  refine XK.block ?_
  refine XK.seq ?_
  refine XK.region ?_
  refine xk_move rfl (by decide) ?_
  refine xk_assign rfl (by decide) ?_
  refine XK.nilN ?_
  refine XK.draw 15 (by kernel_rfl) (by kernel_rfl) ?_
  refine XA.dA 0 rfl rfl rfl (does_move rfl) ?_
  refine XA.dA 1 rfl rfl rfl (does_field (off := 1) (by kernel_rfl) rfl) ?_
  refine XA.dA 2 rfl rfl rfl (does_ld rfl) ?_
  refine XA.dA 3 rfl rfl rfl (does_len (el := 49) (by kernel_rfl) rfl) ?_
  refine XA.dA 5 rfl rfl rfl (does_field (off := 0) (by kernel_rfl) rfl) ?_
  refine XA.dA 6 rfl rfl rfl (does_ld rfl) ?_
  refine XA.dA 7 rfl rfl rfl (does_len (el := 64) (by kernel_rfl) rfl) ?_
  refine XA.dA 9 rfl rfl rfl (does_field (off := 2) (by kernel_rfl) rfl) ?_
  refine XA.dA 10 rfl rfl rfl (does_ld rfl) ?_
  refine XA.dA 11 rfl rfl rfl (does_len (el := 66) (by kernel_rfl) rfl) ?_
  refine XA.dA 14 rfl rfl rfl (does_field (off := 0) (by kernel_rfl) rfl) ?_
  refine XA.allocs (fuel := 3) [4, 8, 12] [[4, 8, 12]] (fun i => match i with | 4 => ⟨12, 4, List.replicate s.domains.length (.bool false), fun g => .slice (some ⟨g, 0, none⟩) s.domains.length s.domains.length⟩ | 8 => ⟨16, 4, List.replicate s.clocks.length (.bool false), fun g => .slice (some ⟨g, 0, none⟩) s.clocks.length s.clocks.length⟩ | _ => ⟨20, 4, List.replicate s.resets.length (.bool false), fun g => .slice (some ⟨g, 0, none⟩) s.resets.length s.resets.length⟩) (fun i hi => ?_) (by show [12, 16, 20].Nodup; decide) (by kernel_rfl) (fun _ h => h) (fun sub hsub hex g => ?_)
  ·simp only [List.mem_cons, List.not_mem_nil, or_false] at hi
   rcases hi with rfl | rfl | rfl
   ·exact ALok.of rfl rfl rfl (makes_make 1 (el := 4) (z := .bool false) (by kernel_rfl) (by kernel_rfl) rfl rfl rfl (by omega) (by omega)) (Nat.le_of_ble_eq_true rfl) rfl
   ·exact ALok.of rfl rfl rfl (makes_make 1 (el := 4) (z := .bool false) (by kernel_rfl) (by kernel_rfl) rfl rfl rfl (by omega) (by omega)) (Nat.le_of_ble_eq_true rfl) rfl
   ·exact ALok.of rfl rfl rfl (makes_make 1 (el := 4) (z := .bool false) (by kernel_rfl) (by kernel_rfl) rfl rfl rfl (by omega) (by omega)) (Nat.le_of_ble_eq_true rfl) rfl
  have hs2 : sub = [4, 8, 12] := by simpa using hex
  have er : ∀ n : Nat, List.replicate n (Value.bool false) = boolCells (List.replicate n false) := fun n => by simp [boolCells]
  have hi : i < 2 := by have h' : (i : Int) < 2 := h; omega
  have hlen := hcs.len
  subst hs2
  dsimp only [envA, hpA, markA, List.map, List.foldr, List.cons_append, List.nil_append, List.length_cons, List.length_nil, Nat.reduceAdd, Nat.reduceSub]
  refine XA.do_ 13 rfl rfl rfl (by decide) (does_buildS (zs := [.slice none 0 0, .slice none 0 0, .slice none 0 0]) (L := [(0, 1), (1, 1), (2, 1)]) (zeroB_of (by kernel_rfl)) (by kernel_rfl) rfl (by simp [fillL, setN, Value.cells]; rfl)) (by kernel_rfl) (fun _ _ _ h => h) (fun _ h => h.tail.tail.tail) ?_
  refine XA.next 15 rfl (by kernel_rfl) ?_
  refine xk_atA i (i * 3) (el := 91) (sz := 3) (by kernel_rfl) (by kernel_rfl) rfl rfl rfl hi (by omega) (by decide) ?_
  refine XA.bt ?_
  refine XA.next 16 rfl (by kernel_rfl) ?_
  refine xk_storeN 3 rfl rfl rfl (by kernel_rfl) (by simp [Value.cells, Value.oneCell']) (by simp [Value.cells]; omega) ?_
  dsimp only [List.set]
  rw [show (Value.agg [.slice (some ⟨g 4, 0, none⟩) s.domains.length s.domains.length, .slice (some ⟨g 8, 0, none⟩) s.clocks.length s.clocks.length, .slice (some ⟨g 12, 0, none⟩) s.resets.length s.resets.length].toArray).cells.toList = [.slice (some ⟨g 4, 0, none⟩) s.domains.length s.domains.length, .slice (some ⟨g 8, 0, none⟩) s.clocks.length s.clocks.length, .slice (some ⟨g 12, 0, none⟩) s.resets.length s.resets.length] from rfl]
  refine XA.bt ?_
  refine XA.done (by kernel_rfl) ?_
  refine XK.norm ?_
  refine XK.region ?_
  refine xk_add rfl rfl (wrap_in (by omega)) (by decide) ?_
  refine xk_move rfl (by decide) ?_
  refine XK.nilN ?_
  refine XK.still [qs] [0, 1, 2] [3, 4, 5] (by simp) rfl (by decide) (by decide) fun qn hqn hle hfr => ?_
  have hfn := hfr (by simp) (fun p hp => by simp only [List.mem_cons, List.not_mem_nil, or_false] at hp; subst hp; exact hfrs)
  have b1 : SlS qn 1 (some ⟨g 4, 0, none⟩) (s.domains.length) (List.replicate (s.domains.length) (Value.bool false)) := SlS.of_blk (n := s.domains.length) (sz := 1) (c := 0) (hqn 0 _ (by simp) rfl).choose_spec.1 (hqn 0 _ (by simp) rfl).choose_spec.2 (by simp)
  have b2 : SlS qn 1 (some ⟨g 8, 0, none⟩) (s.clocks.length) (List.replicate (s.clocks.length) (Value.bool false)) := SlS.of_blk (n := s.clocks.length) (sz := 1) (c := 0) (hqn 1 _ (by simp) rfl).choose_spec.1 (hqn 1 _ (by simp) rfl).choose_spec.2 (by simp)
  have b3 : SlS qn 1 (some ⟨g 12, 0, none⟩) (s.resets.length) (List.replicate (s.resets.length) (Value.bool false)) := SlS.of_blk (n := s.resets.length) (sz := 1) (c := 0) (hqn 2 _ (by simp) rfl).choose_spec.1 (hqn 2 _ (by simp) rfl).choose_spec.2 (by simp)
  rw [er] at b1 b2 b3
  have hww : WshR qn (zeroW s) (.agg #[.slice (some ⟨g 4, 0, none⟩) s.domains.length s.domains.length, .slice (some ⟨g 8, 0, none⟩) s.clocks.length s.clocks.length, .slice (some ⟨g 12, 0, none⟩) s.resets.length s.resets.length]) := by
   unfold WshR zeroW
   simp only [List.length_replicate]
   exact ⟨_, _, _, _, _, _, rfl, b1, b2, b3⟩
  refine XK.weakR (R' := [qn, all w]) (by simp) ?_
  exact XK.envS [(5, .int .i64 ((i : Int) + 1)), (3, .pointer (some ⟨g3, 0, none⟩)), (2, .pointer (some ⟨g2, 0, none⟩)), (1, .pointer (some ⟨g1, 0, none⟩))] (XK.round (2 - (i + 1)) (by omega) ⟨i + 1, _, qn, by omega, rfl, StC.next (hle qs (by simp)) hww hi hcs, hfn, rfl, rfl, rfl⟩)
 ·
  refine XK.exit ?_
  refine XK.norm ?_
  refine XK.seq ?_
  have hie : i = 2 := by have h' : ¬ (i : Int) < 2 := h; omega
  subst hie
  obtain ⟨a, b, c, a', b', c', rfl, hw1, hw2⟩ := hcs
  obtain ⟨D1, d1, D2, d2, D3, d3, e1, x1, x2, x3⟩ := hw1
  obtain ⟨F1, f1, F2, f2, F3, f3, e2, y1, y2, y3⟩ := hw2
  cases e1
  cases e2
  refine XK.region ?_
  refine xk_ldN 6 rfl ?_
  refine xk_stN rfl rfl ?_; simp only [putN, Value.cells, List.set, List.take, List.drop, List.nil_append, List.append_nil, List.length_cons, List.length_nil, List.cons_append, Nat.reduceAdd]
  refine XK.nilN ?_
  refine XK.ret ?_
  refine XK.norm ?_
  exact XK.retC rfl (by kernel_rfl) rfl rfl (RdN.whole 1 rfl) fun w1 st => ⟨⟨_, rfl, by
   have hl := st.fresh_le (by simp) hfrs
   exact ⟨_, _, _, _, _, _, _, _, _, _, _, _, rfl, x1.le hl, x2.le hl, x3.le hl, y1.le hl, y2.le hl, y3.le hl⟩⟩, st.below (by simp)⟩
end
section
open Go.RowKit Go.Shelf
attribute [local go_sem] Oper.semAt_some
structure Ev where
 kind : Int
 task : Int
 ck : Int
 dev : Int
 reg : Int
 cv : Int
 err : Int
 rv : Int
 aid : Int
 adev : Int
 adead : Bool
 av : Int
 alive : Bool
 wA : Option Addr
 wc : Nat
 ws : List Int
def Ev.cells (e : Ev) : List Value :=
 [.int .u8 e.kind, .int .i64 e.task, .int .u8 e.ck, .int .i64 e.dev, .int .i64 e.reg, .int .u32 e.cv, .int .i64 e.err, .int .u32 e.rv, .int .i64 e.aid, .int .i64 e.adev, .bool e.adead, .int .u32 e.av, .bool e.alive, .slice e.wA e.ws.length e.wc]
theorem Ev.cells_len (e : Ev) : e.cells.length = 14 := rfl
def EvAt (w : World) (b o : Nat) (e : Ev) : Prop := ∀ f u, e.cells[f]? = some u → w.cell? ⟨b, o + f, none⟩ = some u
def u32Cells (zs : List Int) : List Value := zs.map (Value.int .u32)
def EvWs (w : World) (B : Nat) (e : Ev) : Prop := Sl w B 1 e.wA e.ws.length (u32Cells e.ws)
def Evs (w : World) (B : Nat) (A : Option Addr) (evs : List Ev) : Prop := Sl w B 14 A evs.length (evs.flatMap Ev.cells) ∧ ∀ e ∈ evs, EvWs w B e
theorem Evs.at_ {w : World} {B : Nat} {A : Option Addr} {evs : List Ev} (h : Evs w B A evs) {k : Nat} {e : Ev} (hk : evs[k]? = some e) :
  ∃ b off, A = some ⟨b, off, none⟩ ∧ b < B ∧ EvAt w b (off + k * 14) e := by
 have hlt : k < evs.length := by
  rcases Nat.lt_or_ge k evs.length with h | h
  ·exact h
  ·rw [List.getElem?_eq_none h] at hk; cases hk
 obtain ⟨b, off, hA, hb, hc⟩ := Sl.at_ h.1 hlt
 refine ⟨b, off, hA, hb, fun f u hu => ?_⟩
 have hf : f < 14 := by
  rcases Nat.lt_or_ge f 14 with h | h
  ·exact h
  ·rw [List.getElem?_eq_none (by rw [Ev.cells_len]; exact h)] at hu; cases hu
 exact hc f u (by rw [flat_get Ev.cells 14 evs (fun _ _ => rfl) k f e hk hf]; exact hu)
theorem Evs.below {w w' : World} {B : Nat} {A : Option Addr} {evs : List Ev} (h : Evs w B A evs) (hb : Below B w w') : Evs w' B A evs := ⟨h.1.below hb, fun e he => (h.2 e he).below hb⟩
theorem Evs.thn {w w' : World} {A : Option Addr} {evs : List Ev} (h : Evs w w.heap.size A evs) (hb : Below w.heap.size w w') : Evs w' w'.heap.size A evs := ⟨h.1.thn hb, fun e he => (h.2 e he).thn hb⟩
end
section
section
variable {P : Program} {N : Frm} {w0 : World} {e : Env} {R : List Piece} {H : List HP} {Q : Exit → Act → World → Prop} {ops : Array Oper} {rest : List Oper}
variable {d : Nat} {ty : TypeId} {pos : String} {aft : Array Edge}
end
def EvS (p : Piece) (A : Option Addr) (evs : List Ev) : Prop := SlS p 14 A evs.length (evs.flatMap Ev.cells)
theorem EvS.le {p q : Piece} {A : Option Addr} {evs : List Ev} (h : EvS p A evs) (hl : p.Le q) : EvS q A evs := SlS.le h hl
theorem EvS.ev {p : Piece} {b off : Nat} {evs : List Ev} (h : EvS p (some ⟨b, off, none⟩) evs) {k : Nat} {x : Ev} (hk : evs[k]? = some x) : p.Z b ∧ ∀ f u, x.cells[f]? = some u → p.w.cell? ⟨b, off + k * 14 + f, none⟩ = some u := by
 have hlt := (List.getElem?_eq_some_iff.1 hk).1
 obtain ⟨b', off', hA, hb, hc⟩ := SlS.at_ h hlt
 cases hA
 refine ⟨hb, fun f u hu => hc f u ?_⟩
 have hf : f < 14 := by
  rw [← Ev.cells_len x]
  rcases Nat.lt_or_ge f x.cells.length with h | h
  ·exact h
  ·rw [List.getElem?_eq_none h] at hu; cases hu
 rw [flat_get Ev.cells 14 evs (fun _ _ => Ev.cells_len _) k f x hk hf, hu]
def cntL (l : List (Int × Int)) : List (Int × Value) := l.map fun p => (p.1, .int .i64 p.2)
end
section
set_option maxHeartbeats 4000000
set_option maxRecDepth 20000
theorem ROc.thn {w w' : World} {g o : Nat} {v : Value} (h : ROc w g o v) (hb : Below w.heap.size w w') : ROc w' g o v := ⟨Nat.lt_of_lt_of_le h.1 hb.size, (hb.cell (p := ⟨g, o, none⟩) h.1).trans h.2⟩
def WshM (w : World) (g o : Nat) (x : Wsh) : Prop := ∃ A1 k1 A2 k2 A3 k3, ROc w g o (.slice A1 x.d.length k1) ∧ ROc w g (o + 1) (.slice A2 x.c.length k2) ∧ ROc w g (o + 2) (.slice A3 x.l.length k3) ∧
 SlS (all w) 1 A1 x.d.length (boolCells x.d) ∧ SlS (all w) 1 A2 x.c.length (boolCells x.c) ∧ SlS (all w) 1 A3 x.l.length (boolCells x.l)
end
section
set_option maxHeartbeats 4000000
set_option maxRecDepth 20000
def StM (w : World) (g : Nat) (x y : Wsh) : Prop := ∀ i, i < 2 → WshM w g (i * 3) (if i = 0 then x else y)
theorem WshM.thn {w w' : World} {g o : Nat} {x : Wsh} (h : WshM w g o x) (hb : Below w.heap.size w w') : WshM w' g o x := by
 obtain ⟨A1, k1, A2, k2, A3, k3, h1, h2, h3, s1, s2, s3⟩ := h
 have hl : (all w).Le (all w') := fun b hb' => ⟨Nat.lt_of_lt_of_le hb' hb.size, hb.block b hb'⟩
 exact ⟨A1, k1, A2, k2, A3, k3, h1.thn hb, h2.thn hb, h3.thn hb, s1.le hl, s2.le hl, s3.le hl⟩
theorem StM.thn {w w' : World} {g : Nat} {x y : Wsh} (h : StM w g x y) (hb : Below w.heap.size w w') : StM w' g x y := fun i hi => (h i hi).thn hb
end
section
def kP (p : Int × Int) : Value := .agg #[.int .i64 p.1, .int .i64 p.2]
def MapV (w : World) (r : Nat) (l : List ((Int × Int) × Value)) : Prop := ∃ es clock, w.heap[r]? = some (.map es clock) ∧ es.toList.map (fun x => (x.key, x.val)) = l.map fun p => (kP p.1, p.2)
section
variable {P : Program} {w : World} {kt : TypeId}
end
structure PairK (P : Program) (kt : TypeId) : Prop where
 st : ∃ f0 f1 k0 k1, P.underlying kt = some (.struct #[f0, f1]) ∧ P.underlying f0.type = some (.int k0) ∧ P.underlying f1.type = some (.int k1) ∧ f0.offset = 0 ∧ f1.offset = 1
 fl : ∀ a b c d : Int, flatB P kt [.int .i64 a, .int .i64 b] [.int .i64 c, .int .i64 d] = true
theorem PairK.of {P : Program} {kt : TypeId} {f0 f1 : Field} {k0 k1 : IntKind} (h : P.underlying kt = some (.struct #[f0, f1])) (h0 : P.underlying f0.type = some (.int k0)) (h1 : P.underlying f1.type = some (.int k1)) (o0 : f0.offset = 0) (o1 : f1.offset = 1) (fl : ∀ a b c d : Int, flatB P kt [.int .i64 a, .int .i64 b] [.int .i64 c, .int .i64 d] = true) : PairK P kt := ⟨⟨f0, f1, k0, k1, h, h0, h1, o0, o1⟩, fl⟩
section
variable {P : Program} {w : World} {t kt et : TypeId} {r : Nat} {l : List ((Int × Int) × Value)}
end
theorem MapV.lt {w : World} {r : Nat} {l : List ((Int × Int) × Value)} (h : MapV w r l) : r < w.heap.size := by
 obtain ⟨es, c, h1, _⟩ := h
 rcases Nat.lt_or_ge r w.heap.size with h | h
 ·exact h
 ·rw [Array.getElem?_eq_none h] at h1; cases h1
section
variable {P : Program} {N : Frm} {w0 w : World} {e : Env} {R : List Piece} {H : List HP} {Q : Exit → Act → World → Prop} {ops : Array Oper} {rest : List Oper}
variable {d : Nat} {ty : TypeId} {pos : String} {aft : Array Edge}
end
end
section
section
variable {P : Program} {N : Frm} {w0 : World} {e : Env} {R : List Piece} {H : List HP} {d : Nat} {ty : TypeId} {pos : String} {aft : Array Edge}
end
def frm (n m a b c : Int) : Value := .agg #[.int .i64 n, .int .i64 m, .int .u8 a, .int .u8 b, .int .u8 c]
end
section
structure FrmT where
 n : Int
 m : Int
 a : Int
 b : Int
 c : Int
def FrmT.v (f : FrmT) : Value := frm f.n f.m f.a f.b f.c
def FrmT.act (f : FrmT) (v : Int) : Int := if v = 0 then f.a else if v = 1 then f.b else f.c
def U32s (l : List Int) : Prop := ∀ x ∈ l, 0 ≤ x ∧ x < 4294967296
theorem SlS.u32 {w : World} {A : Option Addr} {n : Nat} {l : List Int} (h : SlS (all w) 1 A n (u32Cells l)) (hn : 0 < n) : ∃ b off, A = some ⟨b, off, none⟩ ∧ ∀ (i : Nat) (x : Int), l[i]? = some x → ROc w b (off + i) (.int .u32 x) := by
 obtain ⟨b, off, hA, hb, hc⟩ := h.2 hn
 refine ⟨b, off, hA, fun i x hx => ⟨hb, hc i _ ?_⟩⟩
 simp only [u32Cells, List.getElem?_map, hx, Option.map_some]
section
variable {P : Program} {N : FrmT} {w0 : World} {e : Env} {R : List Piece} {H : List HP}
end
end
section
def IntsOk (l : List Nat) (v : Value) (w w' : World) : Prop := ∃ A c, v = .slice A l.length c ∧ SlS (fresh w w') 1 A l.length (intCells (natI l))
theorem natI_get {l : List Nat} {k i : Nat} (h : l[k]? = some i) : (intCells (natI l))[k]? = some (.int .i64 (i : Int)) := by simp [intCells, natI, h]
theorem chain_any (q : Piece) (s : Soc) (A1 A2 A3 A4 : Option Addr) (n1 k1 n2 k2 n3 k3 n4 k4 : Nat) (c : Nat) (w : World) (hSP : SocP q s A1 n1 A2 n2 A3 n3 A4 n4) (hm : s.okT) (hq : q.Le (all w)) (hc : c < s.clocks.length) :
  Calls Tryz.prog 55 #[.agg #[.slice A1 n1 k1, .slice A2 n2 k2, .slice A3 n3 k3, .slice A4 n4 k4], .int .i64 (c : Int)] w (RtW (IntsOk (chainL s c)) w) := by
 obtain ⟨rfl, rfl, rfl, rfl⟩ := hSP.len
 refine XK.enter (vs := [.agg #[.slice A1 s.clocks.length k1, .slice A2 s.domains.length k2, .slice A3 s.resets.length k3, .slice A4 s.devs.length k4], .int .i64 (c : Int)]) Tryz.func55 rfl Tryz.ntmps55 (by simp) ?_
 refine XK.piece q (by simp) hq ?_
 refine XK.seq ?_
 refine XK.region ?_
 refine xk_box rfl (by decide) fun g1 => ?_
 refine xk_assign rfl (by decide) ?_
 refine XK.nilN ?_
 refine XK.seq ?_
 refine XK.region ?_
 refine xk_assign rfl (by decide) ?_
 refine XK.nilN ?_
 refine XK.seq ?_
 refine XK.nilrow 3 1 ?_
 refine XK.envS [(1, .int .i64 (c : Int)), (5, .slice none 0 0), (2, .pointer (some ⟨g1, 0, none⟩))] ?_
 refine XK.block ?_
 refine XK.loop (fun m e R H => ∃ (cur : Nat) (l : List Nat) (A : Option Addr) (k : Nat), cur < s.clocks.length ∧ l.length ≤ s.clocks.length ∧ m = s.clocks.length - l.length ∧ chainL s c = l ++ chainN s (s.clocks.length - l.length) cur ∧ e = [(1, .int .i64 (cur : Int)), (5, .slice A l.length k), (2, .pointer (some ⟨g1, 0, none⟩))] ∧ R = [q, all w] ∧ H = [HP.own 3 1 (.slice A l.length k) l.length (intCells (natI l)), HP.blk g1 34 [.slice A1 s.clocks.length k1, .slice A2 s.domains.length k2, .slice A3 s.resets.length k3, .slice A4 s.devs.length k4]]) s.clocks.length ⟨c, [], none, 0, hc, by simp, rfl, rfl, rfl, rfl, rfl⟩ fun m e R H hI => ?_
 obtain ⟨cur, l, A, k, hcur, hll, rfl, hch, rfl, rfl, rfl⟩ := hI
 refine XK.seq ?_
 refine XK.cutB 22 (l.length < s.clocks.length) ?_ ?_
 ·skip
  refine XK.region ?_
  refine xk_move rfl (by decide) ?_
  refine xk_geq rfl rfl (by decide) ?_
  refine xk_move rfl (by decide) ?_
  refine xk_split (t := 8) rfl (fun hg => ?_) (fun hg => ?_)
  ·
   refine xk_guardT rfl rfl ?_; refine xk_move rfl (by decide) ?_
   refine xk_guardT rfl rfl ?_; refine xk_field (off := 0) (by kernel_rfl) rfl (by decide) ?_
   refine xk_guardT rfl rfl ?_; refine xk_ld rfl ?_
   refine xk_guardT rfl rfl ?_; refine xk_len (el := 64) (by kernel_rfl) rfl (by decide) ?_
   refine xk_guardT rfl rfl ?_; refine xk_lss rfl rfl (by decide) ?_
   (first | refine xk_pickT rfl rfl (by decide) ?_ | refine xk_pickF rfl rfl (by decide) ?_)
   refine xk_move rfl (by decide) ?_
   refine xk_split (t := 15) rfl (fun hg => ?_) (fun hg => ?_)
   ·
    refine xk_guardT rfl rfl ?_; refine xk_move rfl (by decide) ?_
    refine xk_guardT rfl rfl ?_; refine xk_len (el := 3) (by kernel_rfl) rfl (by decide) ?_
    refine xk_guardT rfl rfl ?_; refine xk_field (off := 0) (by kernel_rfl) rfl (by decide) ?_
    refine xk_guardT rfl rfl ?_; refine xk_ld rfl ?_
    refine xk_guardT rfl rfl ?_; refine xk_len (el := 64) (by kernel_rfl) rfl (by decide) ?_
    refine xk_guardT rfl rfl ?_; refine xk_lss rfl rfl (by decide) ?_
    (first | refine xk_pickT rfl rfl (by decide) ?_ | refine xk_pickF rfl rfl (by decide) ?_)
    refine XK.nilN ?_
    exact XK.meetB (by repeat (first | exact trivial | refine ⟨rfl, ?_⟩)) (get_iff rfl (by omega))
   ·
    refine xk_guardF rfl rfl rfl (by decide) ?_
    refine xk_guardF rfl rfl rfl (by decide) ?_
    refine xk_guardF rfl rfl rfl (by decide) ?_
    refine xk_guardF rfl rfl rfl (by decide) ?_
    refine xk_guardF rfl rfl rfl (by decide) ?_
    refine xk_guardF rfl rfl rfl (by decide) ?_
    (first | refine xk_pickT rfl rfl (by decide) ?_ | refine xk_pickF rfl rfl (by decide) ?_)
    refine XK.nilN ?_
    exact XK.meetB (by repeat (first | exact trivial | refine ⟨rfl, ?_⟩)) (get_false rfl (by omega))
  ·
   refine xk_guardF rfl rfl rfl (by decide) ?_
   refine xk_guardF rfl rfl rfl (by decide) ?_
   refine xk_guardF rfl rfl rfl (by decide) ?_
   refine xk_guardF rfl rfl rfl (by decide) ?_
   refine xk_guardF rfl rfl rfl (by decide) ?_
   (first | refine xk_pickT rfl rfl (by decide) ?_ | refine xk_pickF rfl rfl (by decide) ?_)
   refine xk_move rfl (by decide) ?_
   refine xk_guardF rfl rfl rfl (by decide) ?_
   refine xk_guardF rfl rfl rfl (by decide) ?_
   refine xk_guardF rfl rfl rfl (by decide) ?_
   refine xk_guardF rfl rfl rfl (by decide) ?_
   refine xk_guardF rfl rfl rfl (by decide) ?_
   refine xk_guardF rfl rfl rfl (by decide) ?_
   (first | refine xk_pickT rfl rfl (by decide) ?_ | refine xk_pickF rfl rfl (by decide) ?_)
   refine XK.nilN ?_
   exact XK.meetB (by repeat (first | exact trivial | refine ⟨rfl, ?_⟩)) (get_false rfl (by omega))
 refine XK.if_ rfl (fun h => ?_) (fun h => ?_)
 ·
  refine XK.skip ?_
  refine XK.norm ?_
  refine XK.block ?_
  refine XK.seq ?_
  have hlt : l.length < s.clocks.length := h
  obtain ⟨x, hx⟩ : ∃ x, s.clocks[cur]? = some x := ⟨_, List.getElem?_eq_getElem hcur⟩
  obtain ⟨k0, hk0⟩ : ∃ k0, s.clocks.length - l.length = k0 + 1 := ⟨s.clocks.length - l.length - 1, by omega⟩
  rw [hk0, chainN_cons hx] at hch
  have hn9 := hm.nc
  have hfit := (hm.clocks cur x hx).1
  refine XK.region ?_
  refine xk_move rfl (by decide) ?_
  refine xk_move rfl (by decide) ?_
  refine xk_slice (el := 3) (sz := 1) (zs := [.int .i64 0]) (by kernel_rfl) (zeroB_of (by kernel_rfl)) (by kernel_rfl) rfl (by decide) (by decide) rfl (by simp [fillL, setN, Value.cells, List.range_succ, List.set]; rfl) (by decide) fun g2 => ?_
  refine xk_appendT 1 1 8 1 (n' := l.length + 1) (el := 3) (by kernel_rfl) (by kernel_rfl) (by decide) rfl rfl rfl (sl_blk 0 rfl rfl) (by simp [Value.oneCell']) rfl (by omega) (by omega) (by decide) fun A' k' => ?_
  dsimp only [List.set]
  rw [show intCells (natI l) ++ [Value.int .i64 (cur : Int)] = intCells (natI (l ++ [cur])) by simp [intCells, natI]]
  refine XK.weak [1, 2] rfl (by decide) (R' := [q, all w]) (by simp) ?_
  refine xk_assign rfl (by decide) ?_
  refine XK.nilN ?_
  refine XK.seq ?_
  refine XK.seq ?_
  obtain ⟨bC, oC, rC, rfl, hzC, _, hR, hcC⟩ := hSP.clk.rowP hx
  obtain ⟨As, ns, ks, rfl, rfl, hsr⟩ := hR
  refine XK.region ?_
  refine xk_field (off := 0) (by kernel_rfl) rfl (by decide) ?_
  refine xk_ld rfl ?_
  refine xk_move rfl (by decide) ?_
  refine xk_at (cur) (oC + cur * 6) (el := 64) (sz := 6) (by kernel_rfl) (by kernel_rfl) rfl rfl (by omega) (by omega) (by omega) (by decide) ?_
  refine xk_field (off := 1) (by kernel_rfl) rfl (by decide) ?_
  refine xk_load (by kernel_rfl) rfl (Rd.ro (p := q) (by simp) hzC (hcC 1 _ rfl)) (by decide) ?_
  refine xk_len (el := 3) (by kernel_rfl) rfl (by decide) ?_
  refine xk_eql rfl rfl (by decide) ?_
  refine XK.nilN ?_
  refine XK.if_ rfl (fun h0 => ?_) (fun h0 => ?_)
  ·
   refine XK.exit ?_
   refine XK.norm ?_
   refine XK.seq ?_
   refine XK.region ?_
   refine xk_move rfl (by decide) ?_
   refine xk_assign rfl (by decide) ?_
   refine XK.nilN ?_
   refine XK.ret ?_
   refine XK.norm ?_
   have hs0 : x.src = [] := List.eq_nil_of_length_eq_zero (by have : ((x.src.length : Nat) : Int) = 0 := h0; omega)
   rw [hs0] at hch
   have hfin : (l ++ [cur]) = chainL s c := hch.symm
   refine XK.still [] [0] [] (by simp) rfl (by decide) (by decide) fun qf hqf _ hfr => ?_
   obtain ⟨Ff, sf, zf⟩ := hqf 0 _ (by simp) rfl
   obtain ⟨Av, cv, hv, hsv⟩ := SlS.of_own (Y := qf.Z) sf zf
   exact XK.ret1 rfl rfl fun w1 st => ⟨⟨_, rfl, by
    rw [← hfin]
    unfold IntsOk
    rw [hv]
    exact ⟨Av, cv, by simp, by simpa using SlS.le hsv (st.fresh_le (by simp) (hfr (by simp) (by simp)))⟩⟩, st.below (by simp)⟩
  ·
   refine XK.skip ?_
   refine XK.norm ?_
   obtain ⟨f, fs, hs0⟩ : ∃ f fs, x.src = f :: fs := by
    cases hs0 : x.src with
    | nil => exact absurd (by rw [hs0]; rfl) h0
    | cons f fs => exact ⟨f, fs, rfl⟩
   have hf := hfit f (by rw [hs0]; simp)
   obtain ⟨f', rfl⟩ : ∃ f' : Nat, f = (f' : Int) := ⟨f.toNat, by omega⟩
   rw [hs0] at hch
   obtain ⟨bS, oS, rfl, hzS, hcS⟩ := hsr.2 (by rw [hs0]; simp)
   refine XK.region ?_
   refine xk_field (off := 0) (by kernel_rfl) rfl (by decide) ?_
   refine xk_ld rfl ?_
   refine xk_move rfl (by decide) ?_
   refine xk_at (cur) (oC + cur * 6) (el := 64) (sz := 6) (by kernel_rfl) (by kernel_rfl) rfl rfl (by omega) (by omega) (by omega) (by decide) ?_
   refine xk_field (off := 1) (by kernel_rfl) rfl (by decide) ?_
   refine xk_load (by kernel_rfl) rfl (Rd.ro (p := q) (by simp) hzC (hcC 1 _ rfl)) (by decide) ?_
   refine xk_at 0 oS (el := 3) (sz := 1) (by kernel_rfl) (by kernel_rfl) rfl rfl rfl (by rw [hs0]; simp) (by omega) (by decide) ?_
   refine xk_load (by kernel_rfl) rfl (Rd.ro (p := q) (by simp) hzS (hcS 0 _ (by rw [hs0]; rfl))) (by decide) ?_
   refine xk_assign rfl (by decide) ?_
   refine XK.nilN ?_
   exact XK.envS [(1, .int .i64 (f' : Int)), (5, .slice A' (l.length + 1) k'), (2, .pointer (some ⟨g1, 0, none⟩))] (XK.round (s.clocks.length - (l.length + 1)) (by omega) ⟨f', l ++ [cur], A', k', by omega, by simp; omega, by simp, by rw [hch]; simp [show s.clocks.length - (l.length + 1) = k0 by omega], by simp, rfl, by simp⟩)
 ·
  refine XK.exit ?_
  refine XK.norm ?_
  refine XK.seq ?_
  refine XK.region ?_
  refine xk_move rfl (by decide) ?_
  refine xk_assign rfl (by decide) ?_
  refine XK.nilN ?_
  refine XK.ret ?_
  refine XK.norm ?_
  have hge : ¬ l.length < s.clocks.length := h
  rw [show s.clocks.length - l.length = 0 by omega] at hch
  have hfin : l = chainL s c := by rw [hch]; simp [chainN]
  refine XK.still [] [0] [] (by simp) rfl (by decide) (by decide) fun qf hqf _ hfr => ?_
  obtain ⟨Ff, sf, zf⟩ := hqf 0 _ (by simp) rfl
  obtain ⟨Av, cv, hv, hsv⟩ := SlS.of_own (Y := qf.Z) sf zf
  exact XK.ret1 rfl rfl fun w1 st => ⟨⟨_, rfl, by
   rw [← hfin]
   unfold IntsOk
   rw [hv]
   exact ⟨Av, cv, rfl, SlS.le hsv (st.fresh_le (by simp) (hfr (by simp) (by simp)))⟩⟩, st.below (by simp)⟩
end
section
theorem SlS.int {w : World} {A : Option Addr} {n : Nat} {l : List Int} (h : SlS (all w) 1 A n (intCells l)) (hn : 0 < n) : ∃ b off, A = some ⟨b, off, none⟩ ∧ ∀ (i : Nat) (x : Int), l[i]? = some x → ROc w b (off + i) (.int .i64 x) := by
 obtain ⟨b, off, hA, hb, hc⟩ := h.2 hn
 refine ⟨b, off, hA, fun i x hx => ⟨hb, hc i _ ?_⟩⟩
 simp only [intCells, List.getElem?_map, hx, Option.map_some]
theorem SocW.P {w : World} {s : Soc} {A1 A2 A3 A4 : Option Addr} {n1 n2 n3 n4 : Nat} (h : SocW w s A1 n1 A2 n2 A3 n3 A4 n4) : SocP (all w) s A1 n1 A2 n2 A3 n3 A4 n4 := ⟨h.clk, h.dom, h.rst, h.dev⟩
end
section
set_option maxHeartbeats 4000000
set_option maxRecDepth 20000
theorem StR.box {q : Piece} {x y : Wsh} {A1 A2 A3 B1 B2 B3 : Option Addr} {n1 k1 n2 k2 n3 k3 m1 l1 m2 l2 m3 l3 : Nat} {w : World} {g : Nat}
  (hx : StR q x y (.agg #[.slice A1 n1 k1, .slice A2 n2 k2, .slice A3 n3 k3, .slice B1 m1 l1, .slice B2 m2 l2, .slice B3 m3 l3])) (hq : q.Le (all w)) (hg : ROn w g 0 [.slice A1 n1 k1, .slice A2 n2 k2, .slice A3 n3 k3, .slice B1 m1 l1, .slice B2 m2 l2, .slice B3 m3 l3]) : StM w g x y := by
 obtain ⟨C1, j1, C2, j2, C3, j3, D1, i1, D2, i2, D3, i3, he, s1, s2, s3, s4, s5, s6⟩ := hx
 simp only [Value.agg.injEq, Array.mk.injEq, List.cons.injEq, Value.slice.injEq] at he
 obtain ⟨⟨rfl, rfl, rfl⟩, ⟨rfl, rfl, rfl⟩, ⟨rfl, rfl, rfl⟩, ⟨rfl, rfl, rfl⟩, ⟨rfl, rfl, rfl⟩, ⟨rfl, rfl, rfl⟩, _⟩ := he
 intro i hi
 rcases (by omega : i = 0 ∨ i = 1) with rfl | rfl
 ·exact ⟨A1, k1, A2, k2, A3, k3, by simpa using hg.at_ (j := 0) rfl, by simpa using hg.at_ (j := 1) rfl, by simpa using hg.at_ (j := 2) rfl, s1.le hq, s2.le hq, s3.le hq⟩
 ·exact ⟨B1, l1, B2, l2, B3, l3, by simpa using hg.at_ (j := 3) rfl, by simpa using hg.at_ (j := 4) rfl, by simpa using hg.at_ (j := 5) rfl, s4.le hq, s5.le hq, s6.le hq⟩
end
section
section
variable {N : Frm} {w0 w : World} {e : Env} {R : List Piece} {H : List HP} {K : Act → World → Prop}
theorem St.ownRd (st : St w0 R H w) {i n c sz : Nat} {t : TypeId} {A : Option Addr} {xs : List Value} (hi : H[i]? = some (HP.own t sz (.slice A n c) n xs)) (hn : 0 < n) : ∃ g, A = some ⟨g, 0, none⟩ := by
 obtain ⟨_, h2⟩ := st.own hi
 rcases h2 with ⟨h2, h3⟩ | ⟨g', cap, cur, hv, _⟩
 ·omega
 ·injection hv with h4 h5 h6
  exact ⟨g', h4⟩
theorem XK.ownAt (i : Nat) {n c sz : Nat} {t : TypeId} {A : Option Addr} {xs : List Value} (hi : H[i]? = some (HP.own t sz (.slice A n c) n xs)) (hn : 0 < n) (h : (∃ g, A = some ⟨g, 0, none⟩) → XK N w0 K e R H) : XK N w0 K e R H := fun a w hr st => h (st.ownRd hi hn) a w hr st
end
end
section
set_option maxHeartbeats 4000000
set_option maxRecDepth 20000
def CloneOk_reg (n : Nat) (xs : List Value) (v : Value) (hs : List HP) (_ : Piece) : Prop := ∃ A c, v = .slice A n c ∧ hs = [HP.own 68 2 (.slice A n c) n xs]
theorem clone_reg (A : Option Addr) (n c : Nat) (xs : List Value) (w : World) (hs : SlS (all w) 2 A n xs) (h1 : ∀ u ∈ xs, u.oneCell' = true) (hn : n ≤ 1000000) :
  Calls Tryz.prog 85 #[.slice A n c] w (fun y w' => (∃ v hs q, y = .returned v ∧ q.w = w' ∧ CloneOk_reg n xs v hs q ∧ New w hs q) ∧ Below w.heap.size w w') := by
 refine XK.enter (vs := [.slice A n c]) Tryz.func85 rfl Tryz.ntmps85 (by simp) ?_
 refine XK.go ?_
 refine xk_eqNil (el := 68) (by kernel_rfl) rfl (by decide) ?_
 refine XK.nilN ?_
 refine XK.cond rfl (fun hA => ?_) (fun hA => ?_)
 ·refine XK.go ?_
  have hn0 : n = 0 := by
   rcases Nat.eq_zero_or_pos n with h | h
   ·exact h
   ·obtain ⟨b, off, rfl, _⟩ := hs.2 h
    cases hA
  subst hn0
  have hx : xs = [] := List.eq_nil_of_length_eq_zero (by simpa using hs.1)
  subst hx
  refine XK.nilrow 68 2 ?_
  refine XK.still [] [] [0] (by simp) rfl (by decide) (by decide) fun q _ _ hfr => ?_
  exact XK.ret1 rfl rfl fun w1 st => ⟨⟨_, _, ⟨w1, q.Z⟩, rfl, rfl, ⟨_, _, rfl, rfl⟩, st.newR (by simp) (by simp) (hfr (by simp) (by simp))⟩, st.below (by simp)⟩
 ·refine XK.go ?_
  refine xk_slice0 (el := 68) (sz := 2) (by kernel_rfl) (by kernel_rfl) (by decide) fun g => ?_
  refine XK.asOwn 0 2 0 rfl rfl (by omega) ?_
  dsimp only [List.set]
  refine XK.go ?_
  refine xk_appendT 0 2 8 n (n' := n) (el := 68) (by kernel_rfl) (by kernel_rfl) (by decide) rfl rfl rfl (sl_ro (by simp) hs) h1 (by omega) (by omega) (by omega) (by decide) fun A' k' => ?_
  dsimp only [List.set, List.nil_append]
  refine XK.go ?_
  refine XK.still [] [] [0] (by simp) rfl (by decide) (by decide) fun q _ _ hfr => ?_
  exact XK.ret1 rfl rfl fun w1 st => ⟨⟨_, _, ⟨w1, q.Z⟩, rfl, rfl, ⟨_, _, rfl, rfl⟩, st.newR (by simp) (by simp) (hfr (by simp) (by simp))⟩, st.below (by simp)⟩
end
section
set_option maxHeartbeats 4000000
set_option maxRecDepth 20000
def u32C (l : List Int) : List Value := l.map (Value.int .u32)
theorem u32C_len (l : List Int) : (u32C l).length = l.length := by simp [u32C]
theorem u32C_set (l : List Int) (i : Nat) (v : Int) : (u32C l).set i (.int .u32 v) = u32C (l.set i v) := by simp [u32C, List.map_set]
structure FL where
 f : Nat
 gn : Nat
 gs : Nat
 A : Option Addr
 c : Nat
def RegP (d : Dev) (A : Option Addr) (p : Piece) : Prop := SlS p 2 A d.regs.length (d.regs.flatMap Rg.cells)
theorem RegP.le {d : Dev} {A : Option Addr} (p q : Piece) (hl : p.Le q) (h : RegP d A p) : RegP d A q := SlS.le h hl
def fileC (L : FL) (d : Dev) (k : Bool) : List Value := [.slice L.A d.regs.length L.c, .slice (some ⟨L.gn, 0, none⟩) d.regs.length d.regs.length, .slice (some ⟨L.gs, 0, none⟩) d.regs.length d.regs.length, .bool k]
def FileH (L : FL) (d : Dev) (x : FlS) : HP := HP.many [HP.blk L.f 246 (fileC L d x.kept), HP.blk L.gn 23 (u32C x.now), HP.blk L.gs 23 (u32C x.saved), HP.pic (RegP d L.A) (RegP.le (d := d) (A := L.A))]
structure FileR (w : World) (L : FL) (d : Dev) (x : FlS) : Prop where
 r0 : ROn w L.f 0 (fileC L d x.kept)
 now : ROn w L.gn 0 (u32C x.now)
 saved : ROn w L.gs 0 (u32C x.saved)
 made : SlS (all w) 2 L.A d.regs.length (d.regs.flatMap Rg.cells)
theorem FileR.below {w w' : World} {L : FL} {d : Dev} {x : FlS} (h : FileR w L d x) (hb : Below w.heap.size w w') : FileR w' L d x := ⟨h.r0.below hb, h.now.below hb, h.saved.below hb, h.made.le (all_le hb)⟩
theorem blk_ron {w : World} {g : Nat} {t : TypeId} {cs : List Value} (h : Blk w g t cs.toArray) : ROn w g 0 cs := ⟨h.lt, fun j v hv => by rw [h.cell, Nat.zero_add]; simpa using hv⟩
theorem FileH.reads {L : FL} {d : Dev} {x : FlS} {F : Nat → Prop} {w : World} (h : (FileH L d x).sat F w) (hF : ∀ b, F b → b < w.heap.size) : FileR w L d x := by
 obtain ⟨G, g1, g2, _⟩ := h
 exact ⟨blk_ron (g1 0 _ rfl).2, blk_ron (g1 1 _ rfl).2, blk_ron (g1 2 _ rfl).2, SlS.le (g1 3 _ rfl) (fun b hb => ⟨hF b (g2 3 b hb), rfl⟩)⟩
section
variable {N : Frm} {w0 w : World} {e : Env} {R : List Piece} {H : List HP} {K : Act → World → Prop} {L : FL} {d : Dev} {x : FlS}
theorem St.fileR (t : St w0 R H w) (i : Nat) (hi : H[i]? = some (FileH L d x)) : FileR w L d x := by
 obtain ⟨F, h1, h2, _⟩ := t.chunk hi
 exact FileH.reads h1 h2
theorem XK.openFile (i : Nat) (hi : H[i]? = some (FileH L d x)) (h : XK N w0 K e R (HP.blk L.gs 23 (u32C x.saved) :: HP.blk L.gn 23 (u32C x.now) :: HP.blk L.f 246 (fileC L d x.kept) :: H.set i (HP.many [HP.emp, HP.emp, HP.emp, HP.pic (RegP d L.A) (RegP.le (d := d) (A := L.A))]))) : XK N w0 K e R H := by
 have hlt := hlt_of hi
 refine XK.take i 0 hi rfl ?_
 refine XK.take (i + 1) 1 (by rw [List.getElem?_cons_succ, List.getElem?_set_self hlt]) rfl ?_
 refine XK.take (i + 2) 2 (by simp [hlt]; rfl) rfl ?_
 simpa [List.set_cons_succ, List.set_set] using h
theorem XK.closeFile (i : Nat) (hi : H[i]? = some (HP.many [HP.emp, HP.emp, HP.emp, HP.pic (RegP d L.A) (RegP.le (d := d) (A := L.A))])) (h : XK N w0 K e R (H.set i (FileH L d x))) : XK N w0 K e R (HP.blk L.gs 23 (u32C x.saved) :: HP.blk L.gn 23 (u32C x.now) :: HP.blk L.f 246 (fileC L d x.kept) :: H) := by
 have hlt := hlt_of hi
 refine XK.give (i + 2) 2 (by simpa using hi) rfl ?_
 dsimp only [List.set]
 refine XK.give (i + 1) 1 (by simp [hlt]; rfl) rfl ?_
 dsimp only [List.set]
 refine XK.give i 0 (by simp [hlt]; rfl) rfl ?_
 simpa [List.set_set, FileH] using h
end
theorem regsMany_any (L : FL) (d : Dev) (x : FlS) (w : World) (hR : FileR w L d x) :
  Calls Tryz.prog 33 #[.pointer (some ⟨L.f, 0, none⟩)] w (Rt (.int .i64 d.regs.length) w) := by
 have h0 := hR.r0.at_ (j := 0) rfl
 refine XK.enter (vs := [.pointer (some ⟨L.f, 0, none⟩)]) Tryz.func33 rfl Tryz.ntmps33 (by simp) ?_
 refine XK.go ?_
 exact XK.retE (by simp) rfl
theorem regsEach_m (p : Piece) (S : Nat → HP) (L : FL) (d : Dev) (hrl : d.regs.length ≤ 100) (f : FuncId) (hf : callB Tryz.prog f = true) (ca : List Value)
  (hread : ∀ i, i ≤ d.regs.length → ∀ w F, (S i).sat F w → (∀ b, F b → b < w.heap.size) → ∃ x, FileR w L d x)
  (hstep : ∀ i r, d.regs[i]? = some r → ∀ w F, (S i).sat F w → (∀ b, F b → b < w.heap.size) → p.Le ⟨w, fun b => b < w.heap.size ∧ ¬ F b⟩ →
   Calls Tryz.prog f (([.int .i64 (i : Int), .agg r.cells.toArray] : List Value) ++ ca).toArray w (fun y w' => y = .returned (.tuple #[]) ∧ ∃ F', (S (i + 1)).sat F' w' ∧ Turns w w' F F'))
  (w : World) (F : Nat → Prop) (hp : (S 0).sat F w) (hF : ∀ b, F b → b < w.heap.size) (hpw : p.Le ⟨w, fun b => b < w.heap.size ∧ ¬ F b⟩) :
  Calls Tryz.prog 126 #[.pointer (some ⟨L.f, 0, none⟩), .func (.func f) #[] ca.toArray] w (fun y w' => y = .returned (.tuple #[]) ∧ ∃ F', (S d.regs.length).sat F' w' ∧ Turns w w' F F') := by
 have hfr : ∀ {i : Nat} {R : List Piece} {H : List HP} {w1 : World}, i ≤ d.regs.length → St w R (S i :: H) w1 → ∃ x, FileR w1 L d x := fun hi t => by
  obtain ⟨G, g1, g2, _⟩ := t.chunk (i := 0) rfl
  exact hread _ hi _ G g1 g2
 refine XK.enterM (p := S 0) (F := F) (vs := [.pointer (some ⟨L.f, 0, none⟩), .func (.func f) #[] ca.toArray]) Tryz.func126 rfl Tryz.ntmps126 (by simp) hp hF ?_
 refine XK.go ?_
 refine kcall (v := .int .i64 d.regs.length) (fun w1 t => by
  obtain ⟨x, hx⟩ := hfr (Nat.zero_le _) t
  exact regsMany_any L d x w1 hx) ?_
 refine XK.go ?_
 refine XK.envS [(7, .int .i64 0), (6, .int .i64 d.regs.length), (1, .func (.func f) #[] ca.toArray), (0, .pointer (some ⟨L.f, 0, none⟩))] ?_
 refine XK.loop (fun m e R H => ∃ i : Nat, i ≤ d.regs.length ∧ m = d.regs.length - i ∧ e = [(7, .int .i64 i), (6, .int .i64 d.regs.length), (1, .func (.func f) #[] ca.toArray), (0, .pointer (some ⟨L.f, 0, none⟩))] ∧ R = [⟨w, fun b => b < w.heap.size ∧ ¬ F b⟩] ∧ H = [S i]) d.regs.length ⟨0, by omega, rfl, rfl, rfl, rfl⟩ fun m e R H hI => ?_
 obtain ⟨i, hi, rfl, rfl, rfl, rfl⟩ := hI
 refine XK.go ?_
 refine XK.if_ rfl (fun hlt => ?_) (fun hge => ?_)
 ·have hlt : i < d.regs.length := by omega
  obtain ⟨r, hr⟩ := get_some hlt
  have hb0 : ∃ b off, L.A = some ⟨b, off, none⟩ := by
   obtain ⟨x, hx⟩ := hread 0 (Nat.zero_le _) w F hp hF
   obtain ⟨b, off, h, _⟩ := hx.made.2 (by omega)
   exact ⟨b, off, h⟩
  obtain ⟨b, off, hA⟩ := hb0
  have hrd0 : Rd w [⟨w, fun b => b < w.heap.size ∧ ¬ F b⟩] [S i] L.f 0 (.slice (some ⟨b, off, none⟩) d.regs.length L.c) := fun w1 t => by
   obtain ⟨x, hx⟩ := hfr hi t
   rw [← hA]
   exact (hx.r0.at_ (j := 0) rfl).2
  have hrdN : RdN w [⟨w, fun b => b < w.heap.size ∧ ¬ F b⟩] [S i] b (off + i * 2) r.cells := fun w1 t => by
   obtain ⟨x, hx⟩ := hfr hi t
   obtain ⟨b', off', hA', hro⟩ := SlS.row (rows := d.regs.map Rg.cells) (by rw [← List.flatMap_def]; exact hx.made) (fun r hr => by obtain ⟨q, _, rfl⟩ := List.mem_map.1 hr; rfl) (by rw [List.getElem?_map, hr]; rfl) hlt
   rw [hA] at hA'
   cases hA'
   exact hro.2
  refine XK.go ?_
  refine kd (dat i (off + i * 2)) ?_
  refine XK.go ?_
  refine xk_callE 0 (fi := []) (ca := ca) (vs := [.int .i64 (i : Int), .agg r.cells.toArray]) (p := S i) (S (i + 1)) hf rfl rfl rfl ⟨(by decide), rfl⟩ (fun w1 G t hG hlt1 hle => by
   have hpl := Piece.Le.trans hpw (hle _ (by simp))
   simpa using hstep i r hr w1 G hG hlt1 hpl) ?_
  dsimp only [List.set]
  refine XK.go ?_
  refine XK.envS [(7, .int .i64 (i + 1 : Nat)), (6, .int .i64 d.regs.length), (1, .func (.func f) #[] ca.toArray), (0, .pointer (some ⟨L.f, 0, none⟩))] ?_
  exact XK.round (d.regs.length - (i + 1)) (by omega) ⟨i + 1, hlt, rfl, rfl, rfl, rfl⟩
 ·obtain rfl : i = d.regs.length := by omega
  refine XK.go ?_
  exact XK.ret0 (.inr rfl) rfl fun w1 t => ⟨rfl, t.turns hF (by simp) (i := 0) rfl⟩
end
section
set_option maxHeartbeats 4000000
set_option maxRecDepth 20000
def midN (vs old : List Int) (i : Nat) : List Int := vs.take i ++ old.drop i
theorem midN_zero (vs old : List Int) : midN vs old 0 = old := by simp [midN]
theorem midN_all {vs old : List Int} {n : Nat} (h1 : vs.length = n) (h2 : old.length = n) : midN vs old n = vs := by
 rw [midN, List.drop_eq_nil_of_le (by omega), List.append_nil, List.take_of_length_le (by omega)]
theorem midN_len {vs old : List Int} {i n : Nat} (h1 : vs.length = n) (h2 : old.length = n) (hi : i ≤ n) : (midN vs old i).length = n := by simp [midN]; omega
theorem midN_set {vs old : List Int} {i : Nat} {v : Int} (h1 : vs.length = old.length) (hv : vs[i]? = some v) : (midN vs old i).set i v = midN vs old (i + 1) := by
 have hi := (List.getElem?_eq_some_iff.1 hv).1
 refine List.ext_getElem? fun j => ?_
 rw [List.getElem?_set]
 unfold midN
 by_cases he : i = j
 ·subst he
  rw [if_pos rfl, if_pos (by simp; omega), List.getElem?_append_left (by simp; omega), List.getElem?_take_of_lt (by omega), hv]
 ·rw [if_neg he]
  rcases Nat.lt_or_ge j i with hj | hj
  ·rw [List.getElem?_append_left (by simp; omega), List.getElem?_append_left (by simp; omega), List.getElem?_take_of_lt hj, List.getElem?_take_of_lt (by omega)]
  ·rw [List.getElem?_append_right (by simp; omega), List.getElem?_append_right (by simp; omega), List.getElem?_drop, List.getElem?_drop]
   congr 1
   simp
   omega
theorem regsBecome1_m (p : Piece) (L : FL) (d : Dev) (x : FlS) (f : FuncId) (hf : callB Tryz.prog f = true) (ca : List Value) (g2 g3 i : Nat) (r : Rg) (v : Int) (hr : d.regs[i]? = some r) (hln : x.now.length = d.regs.length)
  (h2 : p.Z g2 ∧ p.w.cell? ⟨g2, 0, none⟩ = some (.pointer (some ⟨L.f, 0, none⟩))) (h3 : p.Z g3 ∧ p.w.cell? ⟨g3, 0, none⟩ = some (.func (.func f) #[] ca.toArray))
  (hw : ∀ w F, (FileH L d x).sat F w → (∀ b, F b → b < w.heap.size) → p.Le (all w) → Calls Tryz.prog f (([.int .i64 (i : Int), .agg r.cells.toArray] : List Value) ++ ca).toArray w (Rt (.int .u32 v) w))
  (w : World) (F : Nat → Prop) (hp : (FileH L d x).sat F w) (hF : ∀ b, F b → b < w.heap.size) (hpw : p.Le ⟨w, fun b => b < w.heap.size ∧ ¬ F b⟩) :
  Calls Tryz.prog 127 #[.int .i64 (i : Int), .agg r.cells.toArray, .pointer (some ⟨g3, 0, none⟩), .pointer (some ⟨g2, 0, none⟩)] w (fun y w' => y = .returned (.tuple #[]) ∧ ∃ F', (FileH L d ⟨x.now.set i v, x.saved, x.kept⟩).sat F' w' ∧ Turns w w' F F') := by
 have hlt := (List.getElem?_eq_some_iff.1 hr).1
 obtain ⟨c2, e2⟩ := hpw g2 h2.1
 obtain ⟨c3, e3⟩ := hpw g3 h3.1
 have k2 : w.cell? ⟨g2, 0, none⟩ = some (.pointer (some ⟨L.f, 0, none⟩)) := (World.cell?_of_block (w := p.w) e2).trans h2.2
 have k3 : w.cell? ⟨g3, 0, none⟩ = some (.func (.func f) #[] ca.toArray) := (World.cell?_of_block (w := p.w) e3).trans h3.2
 refine XK.enterM (p := FileH L d x) (F := F) (vs := [.int .i64 (i : Int), .agg r.cells.toArray, .pointer (some ⟨g3, 0, none⟩), .pointer (some ⟨g2, 0, none⟩)]) Tryz.func127 rfl Tryz.ntmps127 (by simp) hp hF ?_
 refine XK.go ?_
 refine xk_box rfl (by decide) fun g1 => ?_
 refine XK.go ?_
 have r2 : Rd w [⟨w, fun b => b < w.heap.size ∧ ¬ F b⟩] [HP.blk g1 68 r.cells, FileH L d x] g2 0 (.pointer (some ⟨L.f, 0, none⟩)) := Rd.ro (List.mem_singleton.2 rfl) c2 k2
 have r3 : Rd w [⟨w, fun b => b < w.heap.size ∧ ¬ F b⟩] [HP.blk g1 68 r.cells, FileH L d x] g3 0 (.func (.func f) #[] ca.toArray) := Rd.ro (List.mem_singleton.2 rfl) c3 k3
 have r4 : Rd w [⟨w, fun b => b < w.heap.size ∧ ¬ F b⟩] [HP.blk g1 68 r.cells, FileH L d x] L.f 1 (.slice (some ⟨L.gn, 0, none⟩) d.regs.length d.regs.length) := fun w1 t => ((t.fileR 1 rfl).r0.at_ (j := 1) rfl).2
 refine XK.draw 9 (by kernel_rfl) (by kernel_rfl) ?_
 refine XA.q 0 ?_
 refine XA.q 1 ?_
 refine XA.q 2 ?_
 refine XA.q 3 ?_
 refine XA.q 4 ?_
 refine XA.q 5 ?_
 refine XA.q 6 ?_
 refine XA.q 7 ?_
 refine XA.next 8 rfl (by kernel_rfl) ?_
 refine kcallC (fi := []) (ca := ca) (vs := [.int .i64 (i : Int), .agg r.cells.toArray]) (v := .int .u32 v) (hf := hf) (fun w1 t => by
  obtain ⟨G, g1', g2', g3', _⟩ := t.chunk (i := 1) rfl
  have hle : p.Le (all w1) := fun b hb => by
   obtain ⟨a1, a2⟩ := (Piece.Le.trans hpw (g3' _ (List.mem_singleton.2 rfl))) b hb
   exact ⟨a1.1, a2⟩
  simpa using hw w1 G g1' g2' hle) ?_
 refine XA.bk ?_
 refine XA.next 9 rfl (by kernel_rfl) ?_
 refine kd (dat i i) ?_
 refine XA.bt ?_
 refine XA.next 10 rfl (by kernel_rfl) ?_
 refine XK.openFile 1 rfl ?_
 dsimp only [List.set]
 have hul := u32C_len x.now
 refine kst rfl rfl ?_
 dsimp only [List.set]
 rw [u32C_set]
 refine XK.closeFile (x := ⟨x.now.set i v, x.saved, x.kept⟩) 1 rfl ?_
 refine XA.bt ?_
 refine XA.done (by kernel_rfl) ?_
 refine XK.go ?_
 exact XK.ret0 (.inr rfl) rfl fun w1 t => ⟨rfl, t.turns hF (by simp) (i := 1) rfl⟩
theorem regsBecome_m (L : FL) (d : Dev) (x : FlS) (hrl : d.regs.length ≤ 100) (f : FuncId) (hf : callB Tryz.prog f = true) (ca : List Value) (p : Piece) (vs : List Int) (hvl : vs.length = d.regs.length) (hln : x.now.length = d.regs.length)
  (hw : ∀ (i : Nat) (r : Rg) (v : Int), d.regs[i]? = some r → vs[i]? = some v → ∀ (now : List Int) w F, (FileH L d ⟨now, x.saved, x.kept⟩).sat F w → (∀ b, F b → b < w.heap.size) → p.Le (all w) → Calls Tryz.prog f (([.int .i64 (i : Int), .agg r.cells.toArray] : List Value) ++ ca).toArray w (Rt (.int .u32 v) w))
  (w : World) (F : Nat → Prop) (hp : (FileH L d x).sat F w) (hF : ∀ b, F b → b < w.heap.size) (hpw : p.Le ⟨w, fun b => b < w.heap.size ∧ ¬ F b⟩) :
  Calls Tryz.prog 116 #[.pointer (some ⟨L.f, 0, none⟩), .func (.func f) #[] ca.toArray] w (fun y w' => y = .returned (.tuple #[]) ∧ ∃ F', (FileH L d ⟨vs, x.saved, x.kept⟩).sat F' w' ∧ Turns w w' F F') := by
 refine XK.enterM (p := FileH L d x) (F := F) (vs := [.pointer (some ⟨L.f, 0, none⟩), .func (.func f) #[] ca.toArray]) Tryz.func116 rfl Tryz.ntmps116 (by simp) hp hF ?_
 refine XK.go ?_
 refine xk_box rfl (by decide) fun g2 => ?_
 refine xk_box rfl (by decide) fun g3 => ?_
 refine XK.go ?_
 refine xk_func (vf := []) (vc := [.pointer (some ⟨g3, 0, none⟩), .pointer (some ⟨g2, 0, none⟩)]) rfl rfl (by decide) ?_
 refine XK.still [⟨w, fun b => b < w.heap.size ∧ ¬ F b⟩] [0, 1] [2] (by simp) rfl (by decide) (by decide) fun q hq hLe _ => ?_
 obtain ⟨F3, s3, z3⟩ := hq 0 _ (by simp) rfl
 obtain ⟨F2, s2, z2⟩ := hq 1 _ (by simp) rfl
 have hpq : p.Le q := Piece.Le.trans hpw (hLe _ (by simp))
 refine kcallW 0 (FileH L d ⟨vs, x.saved, x.kept⟩) (fun w1 G t hG hlt1 hle => by
  have key := regsEach_m q (fun i => FileH L d ⟨midN vs x.now i, x.saved, x.kept⟩) L d hrl 127 (by kernel_rfl) [.pointer (some ⟨g3, 0, none⟩), .pointer (some ⟨g2, 0, none⟩)]
   (fun i _ w F h1 h2 => ⟨_, FileH.reads h1 h2⟩) (fun i r hr w2 F2' h1 h2 h3 => by
    have hlt := (List.getElem?_eq_some_iff.1 hr).1
    obtain ⟨v, hv⟩ := get_some (l := vs) (i := i) (by omega)
    have := regsBecome1_m q L d ⟨midN vs x.now i, x.saved, x.kept⟩ f hf ca g2 g3 i r v hr (midN_len hvl hln (by omega))
     ⟨z2 _ s2.1, by rw [s2.2.cell]; rfl⟩ ⟨z3 _ s3.1, by rw [s3.2.cell]; rfl⟩ (fun w3 F3 a1 a2 a3 => hw i r v hr hv _ w3 F3 a1 a2 (Piece.Le.trans hpq a3)) w2 F2' h1 h2 h3
    try dsimp only at this
    rw [midN_set (by omega) hv] at this
    exact this) w1 G (by show (FileH L d ⟨midN vs x.now 0, x.saved, x.kept⟩).sat G w1; rw [midN_zero]; exact hG) hlt1 (hle q (by simp))
  try dsimp only at key
  rw [midN_all hvl hln] at key
  exact key) ?_
 dsimp only [List.set]
 refine XK.go ?_
 exact XK.ret0 (.inr rfl) rfl fun w1 t => ⟨rfl, t.turns hF (by simp) (i := 0) rfl⟩
end
section
set_option maxHeartbeats 4000000
set_option maxRecDepth 20000
def evC (p : Int × Nat) : List Value := [.int .u8 p.1, .int .i64 (p.2 : Int)]
end
section
set_option maxHeartbeats 4000000
set_option maxRecDepth 20000
theorem emp_le' (w : World) (q : Piece) : (⟨w, fun _ => False⟩ : Piece).Le q := fun _ h => h.elim
theorem clear1_any (i : Nat) (r : Rg) (w : World) :
  Calls Tryz.prog 117 #[.int .i64 (i : Int), .agg r.cells.toArray] w (Rt (.int .u32 r.reset) w) := by
 refine XK.enter (vs := [.int .i64 (i : Int), .agg r.cells.toArray]) Tryz.func117 rfl Tryz.ntmps117 (by simp) ?_
 refine XK.go ?_
 refine xk_box rfl (by decide) fun g1 => ?_
 dsimp only [Value.cells, Rg.cells]
 refine XK.go ?_
 exact XK.retE (by simp) rfl
theorem regsClear_m (L : FL) (d : Dev) (x : FlS) (hrl : d.regs.length ≤ 100) (hok : FlOk d x) (w : World) (F : Nat → Prop) (hp : (FileH L d x).sat F w) (hF : ∀ b, F b → b < w.heap.size) :
  Calls Tryz.prog 86 #[.pointer (some ⟨L.f, 0, none⟩)] w (fun y w' => y = .returned (.tuple #[]) ∧ ∃ F', (FileH L d (clearF d x)).sat F' w' ∧ Turns w w' F F') := by
 refine XK.enterM (p := FileH L d x) (F := F) (vs := [.pointer (some ⟨L.f, 0, none⟩)]) Tryz.func86 rfl Tryz.ntmps86 (by simp) hp hF ?_
 refine XK.go ?_
 refine kcallW 0 (FileH L d ⟨d.regs.map (·.reset), x.saved, x.kept⟩) (fun w1 G t hG hlt1 hle => by
  have := regsBecome_m L d x hrl 117 (by kernel_rfl) [] ⟨w1, fun _ => False⟩ (d.regs.map (·.reset)) (by simp) hok.now (fun i r v hr hv now w2 F2 _ _ _ => by
   rw [List.getElem?_map, hr] at hv
   cases hv
   exact clear1_any i r w2) w1 G hG hlt1 (emp_le' _ _)
  exact this) ?_
 dsimp only [List.set]
 refine XK.openFile 0 rfl ?_
 dsimp only [List.set, fileC]
 refine XK.go ?_
 refine XK.closeFile (x := clearF d x) 0 rfl ?_
 exact XK.ret0 (.inr rfl) rfl fun w1 t => ⟨rfl, t.turns hF (by simp) (i := 0) rfl⟩
end
section
set_option maxHeartbeats 4000000
set_option maxRecDepth 20000
theorem XK.four {N : Frm} {w0 : World} {e : Env} {R : List Piece} {H : List HP} {K : Act → World → Prop} {p q r s : HP} (h : XK N w0 K e R (HP.many [p, q, r, s] :: H)) : XK N w0 K e R (p :: q :: r :: s :: H) := by
 refine XK.pair ?_
 refine fun a w hr st => ?_
 have swap : ∀ {x y : HP} {H : List HP} {w : World}, St w0 R (x :: y :: H) w → St w0 R (y :: x :: H) w := fun st => st.weak (fun _ h => h) (fun i => match i with
  | 0 => 1
  | 1 => 0
  | i + 2 => i + 2) (fun i j _ _ he => by
   match i, j with
   | 0, 0 => rfl
   | 0, 1 => simp at he
   | 0, j + 2 => simp at he
   | 1, 0 => simp at he
   | 1, 1 => rfl
   | 1, j + 2 => simp at he
   | i + 2, 0 => simp at he
   | i + 2, 1 => simp at he
   | i + 2, j + 2 => simpa using he) (fun i p hi => by
   match i, hi with
   | 0, hi => simpa using hi
   | 1, hi => simpa using hi
   | i + 2, hi => simpa using hi)
 refine (XK.push (ps := [p, q]) (p := r) (H := s :: H) (fun a w hr st => ?_)) a w hr (swap st)
 exact (XK.push (ps := [p, q, r]) (p := s) h) a w hr (swap st)
def FileOk (d : Dev) (v : Value) (hs : List HP) (_ : Piece) : Prop := ∃ L : FL, v = .tuple #[.pointer (some ⟨L.f, 0, none⟩), .int .i64 0] ∧ hs = [FileH L d (fl0 d)]
theorem rep_u32 (l : List Rg) : List.replicate l.length (Value.int .u32 0) = u32C (l.map fun _ => 0) := by
 refine List.ext_getElem? fun j => ?_
 simp only [u32C, List.map_map, List.getElem?_replicate, List.getElem?_map]
 by_cases h : j < l.length
 ·rw [if_pos h, List.getElem?_eq_getElem h]; rfl
 ·rw [if_neg h, List.getElem?_eq_none (by omega)]; rfl
theorem regsNew_ok (d : Dev) (hrl : d.regs.length ≤ 8) (hrr : ∀ r ∈ d.regs, 0 ≤ r.reset ∧ r.reset < 4294967296) (A : Option Addr) (c : Nat) (w : World) (hs : SlS (all w) 2 A d.regs.length (d.regs.flatMap Rg.cells)) :
  Calls Tryz.prog 32 #[.slice A d.regs.length c] w (fun y w' => (∃ v hs q, y = .returned v ∧ q.w = w' ∧ FileOk d v hs q ∧ New w hs q) ∧ Below w.heap.size w w') := by
 refine XK.enter (vs := [.slice A d.regs.length c]) Tryz.func32 rfl Tryz.ntmps32 (by simp) ?_
 refine XK.seq ?_
 refine XK.region ?_
 refine kdo ?_
 refine kdo ?_
 refine XK.nilN ?_
 refine XK.seq ?_
 refine XK.seq ?_
 refine XK.region ?_
 refine kdo ?_
 refine kdo ?_
 refine kdo ?_
 refine XK.nilN ?_
 refine XK.if_ rfl (fun h => absurd h (by omega)) (fun _ => ?_)
 refine XK.skip ?_
 refine XK.norm ?_
 refine XK.cut (fun e R H => ∃ B j gn gs g3, e = [(4, .pointer (some ⟨g3, 0, none⟩))] ∧ R = [all w] ∧ H = [HP.blk g3 246 [.slice B d.regs.length j, .slice (some ⟨gn, 0, none⟩) d.regs.length d.regs.length, .slice (some ⟨gs, 0, none⟩) d.regs.length d.regs.length, .bool false], HP.blk gn 23 (u32C (d.regs.map fun _ => 0)), HP.blk gs 23 (u32C (d.regs.map fun _ => 0)), HP.own 68 2 (.slice B d.regs.length j) d.regs.length (d.regs.flatMap Rg.cells)]) ?_ ?_
 ·refine XK.draw 8 (by kernel_rfl) (by kernel_rfl) ?_
  refine XA.q 0 ?_
  refine XA.q 2 ?_
  refine XA.q 3 ?_
  refine XA.q 5 ?_
  refine XA.q 6 ?_
  refine XA.three 1 4 7 rfl rfl rfl (by kernel_rfl) ?_ ?_ ?_
  ·skip
   refine xk_callN (f := 85) (fi := []) (ca := []) (by kernel_rfl) rfl rfl (by decide) (CloneOk_reg d.regs.length (d.regs.flatMap Rg.cells)) (fun w1 st => clone_reg A _ c _ w1 (hs.le (st.le (by simp))) regs_one (by omega)) ?_
   rintro _ _ q ⟨B, j, rfl, rfl⟩ _
   dsimp only [List.cons_append, List.nil_append]
   refine XA.bk ?_ (hS := (fun _ h => h.tailR.tail))
   refine XA.either 4 7 rfl rfl (by kernel_rfl) ?_ ?_
   ·skip
    refine xk_makeT (n := d.regs.length) 4 (el := 23) (z := .int .u32 0) (by kernel_rfl) (by kernel_rfl) rfl rfl rfl (by omega) (by omega) (by decide) fun gn => ?_
    rw [rep_u32 d.regs]
    refine XA.bk ?_ (hS := (fun _ h => h.tail.tailR.tail))
    refine XA.next 7 rfl (by kernel_rfl) ?_
    refine xk_makeT (n := d.regs.length) 4 (el := 23) (z := .int .u32 0) (by kernel_rfl) (by kernel_rfl) rfl rfl rfl (by omega) (by omega) (by decide) fun gs => ?_
    rw [rep_u32 d.regs]
    refine XA.bk ?_ (hS := (fun _ h => h.tail.tail.tailR.tail))
    refine XA.next 8 rfl (by kernel_rfl) ?_
    refine xk_buildS (zs := [.slice none 0 0, .slice none 0 0, .slice none 0 0, .bool false]) (L := [(0, 1), (1, 1), (2, 1), (3, 1)]) (zeroB_of (by kernel_rfl)) (by kernel_rfl) rfl (by simp [fillL, setN, Value.cells]; rfl) (by decide) ?_
    refine XA.bt ?_
    refine XA.next 9 rfl (by kernel_rfl) ?_
    refine xk_box rfl (by decide) fun g3 => ?_
    dsimp only [Value.cells]
    refine XA.bt ?_
    refine XA.next 10 rfl (by kernel_rfl) ?_
    refine kdo ?_
    refine XA.bt ?_
    refine XA.done (by kernel_rfl) ?_
    refine XK.norm ?_
    exact XK.weak [0, 2, 1, 3] rfl (by decide) (by simp) (XK.envS [(4, .pointer (some ⟨g3, 0, none⟩))] (XK.meet ⟨B, j, gn, gs, g3, rfl, rfl, rfl⟩))
   ·skip
    refine xk_makeT (n := d.regs.length) 4 (el := 23) (z := .int .u32 0) (by kernel_rfl) (by kernel_rfl) rfl rfl rfl (by omega) (by omega) (by decide) fun gs => ?_
    rw [rep_u32 d.regs]
    refine XA.bk ?_ (hS := (fun _ h => h.tail.tailR.tail))
    refine XA.next 4 rfl (by kernel_rfl) ?_
    refine xk_makeT (n := d.regs.length) 4 (el := 23) (z := .int .u32 0) (by kernel_rfl) (by kernel_rfl) rfl rfl rfl (by omega) (by omega) (by decide) fun gn => ?_
    rw [rep_u32 d.regs]
    refine XA.bk ?_ (hS := (fun _ h => h.tail.tail.tailR.tail))
    refine XA.next 8 rfl (by kernel_rfl) ?_
    refine xk_buildS (zs := [.slice none 0 0, .slice none 0 0, .slice none 0 0, .bool false]) (L := [(0, 1), (1, 1), (2, 1), (3, 1)]) (zeroB_of (by kernel_rfl)) (by kernel_rfl) rfl (by simp [fillL, setN, Value.cells]; rfl) (by decide) ?_
    refine XA.bt ?_
    refine XA.next 9 rfl (by kernel_rfl) ?_
    refine xk_box rfl (by decide) fun g3 => ?_
    dsimp only [Value.cells]
    refine XA.bt ?_
    refine XA.next 10 rfl (by kernel_rfl) ?_
    refine kdo ?_
    refine XA.bt ?_
    refine XA.done (by kernel_rfl) ?_
    refine XK.norm ?_
    exact XK.weak [0, 1, 2, 3] rfl (by decide) (by simp) (XK.envS [(4, .pointer (some ⟨g3, 0, none⟩))] (XK.meet ⟨B, j, gn, gs, g3, rfl, rfl, rfl⟩))
  ·skip
   refine xk_makeT (n := d.regs.length) 4 (el := 23) (z := .int .u32 0) (by kernel_rfl) (by kernel_rfl) rfl rfl rfl (by omega) (by omega) (by decide) fun gn => ?_
   rw [rep_u32 d.regs]
   refine XA.bk ?_ (hS := (fun _ h => h.tail))
   refine XA.either 1 7 rfl rfl (by kernel_rfl) ?_ ?_
   ·skip
    refine xk_callN (f := 85) (fi := []) (ca := []) (by kernel_rfl) rfl rfl (by decide) (CloneOk_reg d.regs.length (d.regs.flatMap Rg.cells)) (fun w1 st => clone_reg A _ c _ w1 (hs.le (st.le (by simp))) regs_one (by omega)) ?_
    rintro _ _ q ⟨B, j, rfl, rfl⟩ _
    dsimp only [List.cons_append, List.nil_append]
    refine XA.bk ?_ (hS := (fun _ h => h.tailR.tail.tail))
    refine XA.next 7 rfl (by kernel_rfl) ?_
    refine xk_makeT (n := d.regs.length) 4 (el := 23) (z := .int .u32 0) (by kernel_rfl) (by kernel_rfl) rfl rfl rfl (by omega) (by omega) (by decide) fun gs => ?_
    rw [rep_u32 d.regs]
    refine XA.bk ?_ (hS := (fun _ h => h.tail.tailR.tail.tail))
    refine XA.next 8 rfl (by kernel_rfl) ?_
    refine xk_buildS (zs := [.slice none 0 0, .slice none 0 0, .slice none 0 0, .bool false]) (L := [(0, 1), (1, 1), (2, 1), (3, 1)]) (zeroB_of (by kernel_rfl)) (by kernel_rfl) rfl (by simp [fillL, setN, Value.cells]; rfl) (by decide) ?_
    refine XA.bt ?_
    refine XA.next 9 rfl (by kernel_rfl) ?_
    refine xk_box rfl (by decide) fun g3 => ?_
    dsimp only [Value.cells]
    refine XA.bt ?_
    refine XA.next 10 rfl (by kernel_rfl) ?_
    refine kdo ?_
    refine XA.bt ?_
    refine XA.done (by kernel_rfl) ?_
    refine XK.norm ?_
    exact XK.weak [0, 3, 1, 2] rfl (by decide) (by simp) (XK.envS [(4, .pointer (some ⟨g3, 0, none⟩))] (XK.meet ⟨B, j, gn, gs, g3, rfl, rfl, rfl⟩))
   ·skip
    refine xk_makeT (n := d.regs.length) 4 (el := 23) (z := .int .u32 0) (by kernel_rfl) (by kernel_rfl) rfl rfl rfl (by omega) (by omega) (by decide) fun gs => ?_
    rw [rep_u32 d.regs]
    refine XA.bk ?_ (hS := (fun _ h => h.tail.tail))
    refine XA.next 1 rfl (by kernel_rfl) ?_
    refine xk_callN (f := 85) (fi := []) (ca := []) (by kernel_rfl) rfl rfl (by decide) (CloneOk_reg d.regs.length (d.regs.flatMap Rg.cells)) (fun w1 st => clone_reg A _ c _ w1 (hs.le (st.le (by simp))) regs_one (by omega)) ?_
    rintro _ _ q ⟨B, j, rfl, rfl⟩ _
    dsimp only [List.cons_append, List.nil_append]
    refine XA.bk ?_ (hS := (fun _ h => h.tailR.tail.tail.tail))
    refine XA.next 8 rfl (by kernel_rfl) ?_
    refine xk_buildS (zs := [.slice none 0 0, .slice none 0 0, .slice none 0 0, .bool false]) (L := [(0, 1), (1, 1), (2, 1), (3, 1)]) (zeroB_of (by kernel_rfl)) (by kernel_rfl) rfl (by simp [fillL, setN, Value.cells]; rfl) (by decide) ?_
    refine XA.bt ?_
    refine XA.next 9 rfl (by kernel_rfl) ?_
    refine xk_box rfl (by decide) fun g3 => ?_
    dsimp only [Value.cells]
    refine XA.bt ?_
    refine XA.next 10 rfl (by kernel_rfl) ?_
    refine kdo ?_
    refine XA.bt ?_
    refine XA.done (by kernel_rfl) ?_
    refine XK.norm ?_
    exact XK.weak [0, 3, 2, 1] rfl (by decide) (by simp) (XK.envS [(4, .pointer (some ⟨g3, 0, none⟩))] (XK.meet ⟨B, j, gn, gs, g3, rfl, rfl, rfl⟩))
  ·skip
   refine xk_makeT (n := d.regs.length) 4 (el := 23) (z := .int .u32 0) (by kernel_rfl) (by kernel_rfl) rfl rfl rfl (by omega) (by omega) (by decide) fun gs => ?_
   rw [rep_u32 d.regs]
   refine XA.bk ?_ (hS := (fun _ h => h.tail))
   refine XA.either 1 4 rfl rfl (by kernel_rfl) ?_ ?_
   ·skip
    refine xk_callN (f := 85) (fi := []) (ca := []) (by kernel_rfl) rfl rfl (by decide) (CloneOk_reg d.regs.length (d.regs.flatMap Rg.cells)) (fun w1 st => clone_reg A _ c _ w1 (hs.le (st.le (by simp))) regs_one (by omega)) ?_
    rintro _ _ q ⟨B, j, rfl, rfl⟩ _
    dsimp only [List.cons_append, List.nil_append]
    refine XA.bk ?_ (hS := (fun _ h => h.tailR.tail.tail))
    refine XA.next 4 rfl (by kernel_rfl) ?_
    refine xk_makeT (n := d.regs.length) 4 (el := 23) (z := .int .u32 0) (by kernel_rfl) (by kernel_rfl) rfl rfl rfl (by omega) (by omega) (by decide) fun gn => ?_
    rw [rep_u32 d.regs]
    refine XA.bk ?_ (hS := (fun _ h => h.tail.tailR.tail.tail))
    refine XA.next 8 rfl (by kernel_rfl) ?_
    refine xk_buildS (zs := [.slice none 0 0, .slice none 0 0, .slice none 0 0, .bool false]) (L := [(0, 1), (1, 1), (2, 1), (3, 1)]) (zeroB_of (by kernel_rfl)) (by kernel_rfl) rfl (by simp [fillL, setN, Value.cells]; rfl) (by decide) ?_
    refine XA.bt ?_
    refine XA.next 9 rfl (by kernel_rfl) ?_
    refine xk_box rfl (by decide) fun g3 => ?_
    dsimp only [Value.cells]
    refine XA.bt ?_
    refine XA.next 10 rfl (by kernel_rfl) ?_
    refine kdo ?_
    refine XA.bt ?_
    refine XA.done (by kernel_rfl) ?_
    refine XK.norm ?_
    exact XK.weak [0, 1, 3, 2] rfl (by decide) (by simp) (XK.envS [(4, .pointer (some ⟨g3, 0, none⟩))] (XK.meet ⟨B, j, gn, gs, g3, rfl, rfl, rfl⟩))
   ·skip
    refine xk_makeT (n := d.regs.length) 4 (el := 23) (z := .int .u32 0) (by kernel_rfl) (by kernel_rfl) rfl rfl rfl (by omega) (by omega) (by decide) fun gn => ?_
    rw [rep_u32 d.regs]
    refine XA.bk ?_ (hS := (fun _ h => h.tail.tail))
    refine XA.next 1 rfl (by kernel_rfl) ?_
    refine xk_callN (f := 85) (fi := []) (ca := []) (by kernel_rfl) rfl rfl (by decide) (CloneOk_reg d.regs.length (d.regs.flatMap Rg.cells)) (fun w1 st => clone_reg A _ c _ w1 (hs.le (st.le (by simp))) regs_one (by omega)) ?_
    rintro _ _ q ⟨B, j, rfl, rfl⟩ _
    dsimp only [List.cons_append, List.nil_append]
    refine XA.bk ?_ (hS := (fun _ h => h.tailR.tail.tail.tail))
    refine XA.next 8 rfl (by kernel_rfl) ?_
    refine xk_buildS (zs := [.slice none 0 0, .slice none 0 0, .slice none 0 0, .bool false]) (L := [(0, 1), (1, 1), (2, 1), (3, 1)]) (zeroB_of (by kernel_rfl)) (by kernel_rfl) rfl (by simp [fillL, setN, Value.cells]; rfl) (by decide) ?_
    refine XA.bt ?_
    refine XA.next 9 rfl (by kernel_rfl) ?_
    refine xk_box rfl (by decide) fun g3 => ?_
    dsimp only [Value.cells]
    refine XA.bt ?_
    refine XA.next 10 rfl (by kernel_rfl) ?_
    refine kdo ?_
    refine XA.bt ?_
    refine XA.done (by kernel_rfl) ?_
    refine XK.norm ?_
    exact XK.weak [0, 2, 3, 1] rfl (by decide) (by simp) (XK.envS [(4, .pointer (some ⟨g3, 0, none⟩))] (XK.meet ⟨B, j, gn, gs, g3, rfl, rfl, rfl⟩))
 rintro _ _ _ ⟨B, j, gn, gs, g3, rfl, rfl, rfl⟩
 refine XK.ownPic 3 (Φ := RegP d B) (hm := RegP.le (d := d) (A := B)) rfl (fun p h => h) ?_
 dsimp only [List.set]
 refine XK.four ?_
 refine XK.go ?_
 refine kcallW 0 (FileH ⟨g3, gn, gs, B, j⟩ d (clearF d ⟨d.regs.map fun _ => 0, d.regs.map fun _ => 0, false⟩)) (fun w1 G t hG hlt1 hle => regsClear_m ⟨g3, gn, gs, B, j⟩ d ⟨d.regs.map fun _ => 0, d.regs.map fun _ => 0, false⟩ (by omega) ⟨by simp, by simp, fun v hv => by
  obtain ⟨r, hr, rfl⟩ := List.mem_map.1 hv
  decide, fun v hv => by
  obtain ⟨r, hr, rfl⟩ := List.mem_map.1 hv
  decide⟩ w1 G hG hlt1) ?_
 dsimp only [List.set]
 refine XK.go ?_
 refine XK.still [] [] [0] (by simp) rfl (by decide) (by decide) fun q _ _ hfr => ?_
 exact XK.ret2 rfl rfl rfl fun w1 t => ⟨⟨_, _, ⟨w1, q.Z⟩, rfl, rfl, ⟨⟨g3, gn, gs, B, j⟩, rfl, rfl⟩, t.newR (by simp) (by simp) (hfr (by simp) (by simp))⟩, t.below (by simp)⟩
theorem quietNew_ok (w : World) :
  Calls Tryz.prog 34 #[] w (fun y w' => (∃ v hs q, y = .returned v ∧ q.w = w' ∧ (∃ g, v = .pointer (some ⟨g, 0, none⟩) ∧ hs = [HP.blk g 248 [.int .i64 0, .int .i64 0]]) ∧ New w hs q) ∧ Below w.heap.size w w') := by
 refine XK.enter (vs := []) Tryz.func34 rfl Tryz.ntmps34 (by simp) ?_
 refine XK.go ?_
 refine xk_buildS (zs := [.int .i64 0, .int .i64 0]) (L := [(0, 1), (1, 1)]) (zeroB_of (by kernel_rfl)) (by kernel_rfl) rfl (by simp [fillL, setN, Value.cells]; rfl) (by decide) ?_
 refine xk_box rfl (by decide) fun g => ?_
 dsimp only [Value.cells]
 refine XK.go ?_
 refine XK.still [] [] [0] (by simp) rfl (by decide) (by decide) fun q _ _ hfr => ?_
 exact XK.ret1 rfl rfl fun w1 t => ⟨⟨_, _, ⟨w1, q.Z⟩, rfl, rfl, ⟨g, rfl, rfl⟩, t.newR (by simp) (by simp) (hfr (by simp) (by simp))⟩, t.below (by simp)⟩
end
section
set_option maxHeartbeats 4000000
set_option maxRecDepth 20000
theorem rg_at {l : List Rg} {i k : Nat} {a : Rg} {v : Value} (h : l[i]? = some a) (hk : k < 2) (hv : a.cells[k]? = some v) : (l.flatMap Rg.cells)[i * 2 + k]? = some v := (flat_get Rg.cells 2 l (fun _ _ => rfl) i k a h hk).trans hv
theorem ref9Clear_m (f n kR : Nat) (RA : Option Addr) (v1 v2 v3 : Value) (regs : List Rg) (hn : n = regs.length) (hn8 : n ≤ 8) (w : World) (F : Nat → Prop) (hp : (HP.many [HP.blk f 268 [.slice RA n kR, v1, v2, v3], HP.own 68 2 (.slice RA n kR) n (regs.flatMap Rg.cells)]).sat F w) (hF : ∀ b, F b → b < w.heap.size) :
  Calls Tryz.prog 87 #[.pointer (some ⟨f, 0, none⟩)] w (fun y w' => y = .returned (.tuple #[]) ∧ ∃ F', (HP.many [HP.emp, HP.emp]).sat F' w' ∧ Turns w w' F F') := by
 subst hn
 refine XK.enterM (p := HP.many [HP.blk f 268 [.slice RA regs.length kR, v1, v2, v3], HP.own 68 2 (.slice RA regs.length kR) regs.length (regs.flatMap Rg.cells)]) (F := F) (vs := [.pointer (some ⟨f, 0, none⟩)]) Tryz.func87 rfl Tryz.ntmps87 (by simp) hp hF ?_
 generalize hR0 : (⟨w, fun b => b < w.heap.size ∧ ¬ F b⟩ : Piece) = R0
 refine XK.take 0 0 rfl rfl ?_
 dsimp only [List.set]
 refine XK.take 1 1 rfl rfl ?_
 dsimp only [List.set]
 refine XK.gw ?_
 refine XK.nilrow 23 1 ?_
 refine XK.lp (α := (Option Addr × Nat) × List Value) (fun i _ => [(2, .int .i64 i), (0, .pointer (some ⟨f, 0, none⟩))]) (fun i x => [HP.own 23 1 (.slice x.1.1 i x.1.2) i x.2, HP.own 68 2 (.slice RA regs.length kR) regs.length (regs.flatMap Rg.cells), HP.blk f 268 [.slice RA regs.length kR, .slice x.1.1 i x.1.2, v2, v3], HP.many [HP.emp, HP.emp]]) (fun _ _ => True) regs.length ((none, 0), []) trivial fun i x hi _ => ?_
 obtain ⟨⟨L1, L2⟩, L3⟩ := x
 dsimp only
 refine XK.gw ?_
 refine XK.if_ rfl (fun hlt => ?_) (fun hge => ?_)
 ·have hlt : i < regs.length := by omega
  obtain ⟨r, hr⟩ := get_some hlt
  have hx := rg_at (k := 0) hr (by omega) rfl
  refine XK.ownAt 1 rfl (by omega) fun ⟨gR, hgR⟩ => ?_
  subst hgR
  refine XK.gw ?_
  refine XK.dr ?_
  refine XB.nx 13 ?_
  refine ksl fun g3 => ?_
  refine XB.bk ?_
  refine XB.tl [14, 15, 16, 17] ?_
  refine XK.gw ?_
  refine kap 1 fun A' k' => ?_
  dsimp only [List.set]
  refine XK.gw ?_
  exact XK.ag ((_, _), _)
 ·refine XK.gw ?_
  subst hR0
  exact XK.ret0 (.inr rfl) rfl fun w1 t => ⟨rfl, t.turns hF (by simp) (i := 3) rfl⟩
theorem rg_one (l : List Rg) : ∀ v ∈ l.flatMap Rg.cells, v.oneCell' = true := fun v hv => by
 obtain ⟨r, _, hv⟩ := List.mem_flatMap.1 hv
 simp only [Rg.cells, List.mem_cons, List.not_mem_nil, or_false] at hv
 rcases hv with rfl | rfl <;> rfl
theorem ref9New_any (regs : List Rg) (hl : regs.length ≤ 8) (A : Option Addr) (c : Nat) (w : World) (hs : SlS (all w) 2 A regs.length (regs.flatMap Rg.cells)) :
  Calls Tryz.prog 40 #[.slice A regs.length c] w (fun y w' => (∃ v, y = .returned v ∧ PtrE' v) ∧ Below w.heap.size w w') := by
 refine XK.enter (vs := [.slice A regs.length c]) Tryz.func40 rfl Tryz.ntmps40 (by simp) ?_
 refine XK.gw ?_
 refine XK.if_ rfl (fun h => absurd h (by omega)) (fun _ => ?_)
 refine XK.gw ?_
 refine xk_slice0 (el := 68) (sz := 2) (by kernel_rfl) (by kernel_rfl) (by decide) fun g => ?_
 refine XK.asOwn 0 2 0 rfl rfl (by omega) ?_
 dsimp only [List.set]
 refine XK.gw ?_
 refine xk_appendT 0 2 8 regs.length (n' := regs.length) (el := 68) (by kernel_rfl) (by kernel_rfl) (by decide) rfl rfl rfl (sl_ro (by simp) hs) (rg_one _) (by omega) (by omega) (by omega) (by decide) fun A' k' => ?_
 dsimp only [List.set, List.nil_append]
 refine XK.gw ?_
 refine kbx fun g2 => ?_
 refine XK.gw ?_
 refine XK.pair ?_
 refine kcallW 0 (HP.many [HP.emp, HP.emp]) (fun w1 F1 t h1 h2 h3 => ref9Clear_m g2 regs.length k' A' _ _ _ regs rfl hl w1 F1 h1 h2) ?_
 dsimp only [List.set]
 refine XK.gw ?_
 exact XK.ret2 rfl rfl rfl fun w1 t => ⟨⟨_, rfl, ⟨_, _, rfl⟩⟩, t.below (by simp)⟩
end
section
set_option maxHeartbeats 4000000
set_option maxRecDepth 20000
def QtC (x : QtS) : List Value := [.int .i64 x.at_, .int .i64 x.denied]
def QtH (g : Nat) (x : QtS) : HP := HP.blk g 248 (QtC x)
def Letters (w : World) : Prop := ∀ i v, [(114 : Int), 97, 115, 100][i]? = some v → ROc w 0 i (.int .u8 v)
theorem Letters.below {w w' : World} (h : Letters w) (hb : Below w.heap.size w w') : Letters w' := fun i v hv =>
 ⟨Nat.lt_of_lt_of_le (h i v hv).1 hb.size, (hb.cell (p := ⟨0, i, none⟩) (h i v hv).1).trans (h i v hv).2⟩
section
variable {g : Nat} {x : QtS} {w : World} {F : Nat → Prop}
end
end
end Go.Proofs.YtcoifdhdhglioaaGreat
