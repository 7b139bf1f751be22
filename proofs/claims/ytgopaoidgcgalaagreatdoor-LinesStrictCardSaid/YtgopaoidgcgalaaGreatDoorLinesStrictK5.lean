/- Chapter 5's laws: digits, shown. -/
import Derived.KernelRfl
import Derived.Laws.Strings3
import Derived.Test.YtgopaoidgcgalaaGreatDoorProg
import Derived.Test.YtgopaoidgcgalaaGreatDoorLinesStrictK4
namespace Go.Proofs.YtgopaoidgcgalaaGreatDoor
set_option linter.all false
open Go.RowKit
def shownT : List UInt8 := [99, 108, 111, 99, 107, 32, 111, 32, 53, 10, 100, 111, 109, 97, 105, 110, 32, 45, 32, 48, 32, 108, 111, 115, 101, 10, 114, 101, 115, 101, 116, 32, 49, 10, 100, 101, 118, 105, 99, 101, 32, 48, 32, 48, 32, 48, 32, 55, 10, 114, 101, 103, 32, 51, 32, 107, 101, 101, 112, 10]
def shownS : Soc := ⟨[⟨111, [], 5, 0, 0, 0⟩], [⟨-1, 0, false⟩], [1], [⟨0, 0, 0, 7, [⟨3, true⟩], []⟩]⟩
theorem shown_parse : parseF (strOf shownT) = (0, shownS) := by
  have h : readF (strOf shownT) = some shownS := by rfl
  unfold parseF
  rw [h]
  rfl
theorem RsR.rowP {α : Type} {p : Piece} {R : α → List Value → Prop} {t : TypeId} {sz n : Nat} {A : Option Addr} {es : List α} (h : RsR (slq p) R t sz A n es) {k : Nat} {e : α} (hk : es[k]? = some e) :
    ∃ b off r, A = some ⟨b, off, none⟩ ∧ r.length = sz ∧ R e r ∧ p.Z b ∧ ∀ f u, r[f]? = some u → p.w.cell? ⟨b, off + k * sz + f, none⟩ = some u := by
  obtain ⟨rows, h1, h2, h3⟩ := h
  have hke := (List.getElem?_eq_some_iff.1 hk).1
  have hl := h1.len.1
  obtain ⟨r, hr⟩ : ∃ r, rows[k]? = some r := ⟨_, List.getElem?_eq_getElem (by omega)⟩
  obtain ⟨e', he, hrl, hR⟩ := h1.at_ hr
  rw [hk] at he
  cases he
  obtain ⟨b, off, hA, hz, hc⟩ := SlS.at_ h3 (k := k) (by omega)
  refine ⟨b, off, r, hA, hrl, hR, hz, fun f u hu => hc f u ?_⟩
  have hf : f < sz := by rw [← hrl]; exact (List.getElem?_eq_some_iff.1 hu).1
  have := flat_get (fun x : List Value => x) sz rows h1.all_len k f r hr hf
  rw [List.flatMap_id'] at this
  rw [this]; exact hu
theorem RsR.len {α : Type} {S : SlP} {R : α → List Value → Prop} {t : TypeId} {sz n : Nat} {A : Option Addr} {es : List α} (h : RsR S R t sz A n es) : n = es.length := by obtain ⟨_, _, h, _⟩ := h; exact h

theorem xk_eqlV {P : Program} {N : Frm} {w0 : World} {e : Env} {R : List Piece} {H : List HP} {Q : Exit → Act → World → Prop} {ops : Array Oper} {rest : List Oper} {d : Nat} {ty : TypeId} {pos : String} {aft : Array Edge} {x y : Operand} {t u : TypeId} {a b : Value} (r : Bool) (hx : e.ev x = some a) (hy : e.ev y = some b)
    (hrun : ∀ (ev : Operand → Value) (w : World), ev x = a → ev y = b → (execOp ev ⟨some d, .binOp .eql t x y u, ty, pos, aft, none⟩).run P w = .ok (.value (.bool r)) w) (hd : d < N.n) (k : XK N w0 (wpList P ops Q rest) ((d, .bool r) :: e) R H) :
    XK N w0 (wpList P ops Q (⟨some d, .binOp .eql t x y u, ty, pos, aft, none⟩ :: rest)) e R H := xk_pure hd (fun a' w hr => hrun _ w (hr.ev hx) (hr.ev hy)) k
theorem shown5_ok (mm : Int) (w : World) (hM : ROc w 0 0 (.int .i64 mm)) :
    Calls Tryz.prog 10 #[] w (Rt (.bool true) w) := by
  refine XK.enter (vs := []) Tryz.func10 rfl Tryz.ntmps10 (by simp) ?_
  refine XK.seq ?_

  refine XK.region ?_
  refine xk_assign rfl (by decide) ?_
  refine XK.nilN ?_
  refine XK.seq ?_

  refine XK.region ?_
  refine xk_call [] (f := 11) (fi := []) (ca := []) (by kernel_rfl) rfl rfl (by decide) (by simp) (fun v w w' => ∃ cs, v = .tuple #[.agg cs, .int .i64 0] ∧ SocR (slq (fresh w w')) shownS cs) (fun w1 st => (parse_ok (strOf shownT) mm w1 ⟨Nat.lt_of_lt_of_le hM.1 (st.below (by simp)).size, hM.go (st.below (by simp))⟩).mono fun y w' h => by
    obtain ⟨⟨cs, h1, h2⟩, h3⟩ := h
    rw [shown_parse] at h1 h2
    exact ⟨⟨_, h1, cs, rfl, h2⟩, h3⟩) ?_
  rintro _ w1 q ⟨_, rfl, A1, n1, c1, A2, n2, c2, A3, n3, c3, A4, n4, c4, rfl, r1, r2, r3, r4⟩ hq _ _
  have hl := slq_le hq
  have r1 := r1.mono hl (fun _ _ => ClkR.mono hl)
  have r2 := r2.mono hl (fun _ _ h => h)
  have r3 := r3.mono hl (fun _ _ h => h)
  have r4 := r4.mono hl (fun _ _ => DevR.mono hl)
  obtain rfl : n1 = 1 := r1.len
  obtain rfl : n2 = 1 := r2.len
  obtain rfl : n3 = 1 := r3.len
  obtain rfl : n4 = 1 := r4.len
  obtain ⟨b1, o1, row1, rfl, _, ⟨Af, nf, kf, rfl, _, _⟩, hz1, hc1⟩ := RsR.rowP r1 (k := 0) rfl
  obtain ⟨b4, o4, row4, rfl, _, ⟨Ar, nr, kr, An, nn, kn, rfl, rfl, _, hreg, _⟩, hz4, hc4⟩ := RsR.rowP r4 (k := 0) rfl
  obtain ⟨br, orr, rfl, hzr, hcr⟩ := hreg.2 (by decide)
  refine xk_move rfl (by decide) ?_
  refine xk_extract rfl rfl (by decide) ?_
  refine xk_extract rfl rfl (by decide) ?_
  refine xk_alloc (cs := [.slice none 0 0, .slice none 0 0, .slice none 0 0, .slice none 0 0]) (zeroB_of (by kernel_rfl)) (by decide) fun g1 => ?_
  (first | (refine xk_storeN 0 rfl rfl rfl (by kernel_rfl) (by simp [Value.cells, Value.oneCell']) (by simp [Value.cells]) ?_) | (refine xk_storeN 1 rfl rfl rfl (by kernel_rfl) (by simp [Value.cells, Value.oneCell']) (by simp [Value.cells]) ?_) | (refine xk_storeN 2 rfl rfl rfl (by kernel_rfl) (by simp [Value.cells, Value.oneCell']) (by simp [Value.cells]) ?_) | (refine xk_storeN 3 rfl rfl rfl (by kernel_rfl) (by simp [Value.cells, Value.oneCell']) (by simp [Value.cells]) ?_) | (refine xk_storeN 4 rfl rfl rfl (by kernel_rfl) (by simp [Value.cells, Value.oneCell']) (by simp [Value.cells]) ?_) | (refine xk_storeN 5 rfl rfl rfl (by kernel_rfl) (by simp [Value.cells, Value.oneCell']) (by simp [Value.cells]) ?_) | (refine xk_storeN 6 rfl rfl rfl (by kernel_rfl) (by simp [Value.cells, Value.oneCell']) (by simp [Value.cells]) ?_) | (refine xk_storeN 7 rfl rfl rfl (by kernel_rfl) (by simp [Value.cells, Value.oneCell']) (by simp [Value.cells]) ?_) | (refine xk_storeN 8 rfl rfl rfl (by kernel_rfl) (by simp [Value.cells, Value.oneCell']) (by simp [Value.cells]) ?_)); simp only [putN, Value.cells, List.set, List.take, List.drop, List.nil_append, List.append_nil, List.length_cons, List.length_nil, List.cons_append, Nat.reduceAdd]
  refine xk_assign rfl (by decide) ?_
  refine XK.nilN ?_
  refine XK.seq ?_

  refine XK.region ?_
  refine xk_move rfl (by decide) ?_
  refine xk_eql rfl rfl (by decide) ?_
  refine xk_move rfl (by decide) ?_
  refine xk_isV (t := 9) true rfl (by first | (exact decide_eq_true (by omega)) | (exact decide_eq_false (by omega)) | rfl | assumption | (simp_all; done)) ?_
  refine xk_guardT rfl rfl ?_; refine xk_field (off := 0) (by kernel_rfl) rfl (by decide) ?_
  refine xk_guardT rfl rfl ?_; refine xk_ld rfl ?_
  refine xk_guardT rfl rfl ?_; refine xk_len (el := 55) (by kernel_rfl) rfl (by decide) ?_
  refine xk_guardT rfl rfl ?_; refine xk_eql rfl rfl (by decide) ?_
  (first | refine xk_pickT rfl rfl (by decide) ?_ | refine xk_pickF rfl rfl (by decide) ?_)
  refine xk_move rfl (by decide) ?_
  refine xk_isV (t := 15) true rfl (by first | (exact decide_eq_true (by omega)) | (exact decide_eq_false (by omega)) | rfl | assumption | (simp_all; done)) ?_
  refine xk_guardT rfl rfl ?_; refine xk_field (off := 0) (by kernel_rfl) rfl (by decide) ?_
  refine xk_guardT rfl rfl ?_; refine xk_ld rfl ?_
  refine xk_guardT rfl rfl ?_; refine xk_at 0 (o1 + 0 * 6) (el := 55) (sz := 6) (by kernel_rfl) (by kernel_rfl) rfl rfl rfl (by decide) (by omega) (by decide) ?_
  refine xk_guardT rfl rfl ?_; refine xk_field (off := 2) (by kernel_rfl) rfl (by decide) ?_
  refine xk_guardT rfl rfl ?_; refine xk_load (by kernel_rfl) rfl (Rd.ro (p := q) (by simp) hz1 (hc1 2 _ rfl)) (by decide) ?_
  refine xk_guardT rfl rfl ?_; refine xk_eql rfl rfl (by decide) ?_
  (first | refine xk_pickT rfl rfl (by decide) ?_ | refine xk_pickF rfl rfl (by decide) ?_)
  refine xk_move rfl (by decide) ?_
  refine xk_isV (t := 23) true rfl (by first | (exact decide_eq_true (by omega)) | (exact decide_eq_false (by omega)) | rfl | assumption | (simp_all; done)) ?_
  refine xk_guardT rfl rfl ?_; refine xk_field (off := 1) (by kernel_rfl) rfl (by decide) ?_
  refine xk_guardT rfl rfl ?_; refine xk_ld rfl ?_
  refine xk_guardT rfl rfl ?_; refine xk_len (el := 69) (by kernel_rfl) rfl (by decide) ?_
  refine xk_guardT rfl rfl ?_; refine xk_eql rfl rfl (by decide) ?_
  (first | refine xk_pickT rfl rfl (by decide) ?_ | refine xk_pickF rfl rfl (by decide) ?_)
  refine xk_move rfl (by decide) ?_
  refine xk_isV (t := 29) true rfl (by first | (exact decide_eq_true (by omega)) | (exact decide_eq_false (by omega)) | rfl | assumption | (simp_all; done)) ?_
  refine xk_guardT rfl rfl ?_; refine xk_field (off := 2) (by kernel_rfl) rfl (by decide) ?_
  refine xk_guardT rfl rfl ?_; refine xk_ld rfl ?_
  refine xk_guardT rfl rfl ?_; refine xk_len (el := 71) (by kernel_rfl) rfl (by decide) ?_
  refine xk_guardT rfl rfl ?_; refine xk_eql rfl rfl (by decide) ?_
  (first | refine xk_pickT rfl rfl (by decide) ?_ | refine xk_pickF rfl rfl (by decide) ?_)
  refine xk_move rfl (by decide) ?_
  refine xk_isV (t := 35) true rfl (by first | (exact decide_eq_true (by omega)) | (exact decide_eq_false (by omega)) | rfl | assumption | (simp_all; done)) ?_
  refine xk_guardT rfl rfl ?_; refine xk_field (off := 3) (by kernel_rfl) rfl (by decide) ?_
  refine xk_guardT rfl rfl ?_; refine xk_ld rfl ?_
  refine xk_guardT rfl rfl ?_; refine xk_len (el := 51) (by kernel_rfl) rfl (by decide) ?_
  refine xk_guardT rfl rfl ?_; refine xk_eql rfl rfl (by decide) ?_
  (first | refine xk_pickT rfl rfl (by decide) ?_ | refine xk_pickF rfl rfl (by decide) ?_)
  refine xk_move rfl (by decide) ?_
  refine xk_isV (t := 41) true rfl (by first | (exact decide_eq_true (by omega)) | (exact decide_eq_false (by omega)) | rfl | assumption | (simp_all; done)) ?_
  refine xk_guardT rfl rfl ?_; refine xk_field (off := 3) (by kernel_rfl) rfl (by decide) ?_
  refine xk_guardT rfl rfl ?_; refine xk_ld rfl ?_
  refine xk_guardT rfl rfl ?_; refine xk_at 0 (o4 + 0 * 6) (el := 51) (sz := 6) (by kernel_rfl) (by kernel_rfl) rfl rfl rfl (by decide) (by omega) (by decide) ?_
  refine xk_guardT rfl rfl ?_; refine xk_field (off := 3) (by kernel_rfl) rfl (by decide) ?_
  refine xk_guardT rfl rfl ?_; refine xk_load (by kernel_rfl) rfl (Rd.ro (p := q) (by simp) hz4 (hc4 3 _ rfl)) (by decide) ?_
  refine xk_guardT rfl rfl ?_; refine xk_eql rfl rfl (by decide) ?_
  (first | refine xk_pickT rfl rfl (by decide) ?_ | refine xk_pickF rfl rfl (by decide) ?_)
  refine xk_move rfl (by decide) ?_
  refine xk_isV (t := 49) true rfl (by first | (exact decide_eq_true (by omega)) | (exact decide_eq_false (by omega)) | rfl | assumption | (simp_all; done)) ?_
  refine xk_guardT rfl rfl ?_; refine xk_field (off := 3) (by kernel_rfl) rfl (by decide) ?_
  refine xk_guardT rfl rfl ?_; refine xk_ld rfl ?_
  refine xk_guardT rfl rfl ?_; refine xk_at 0 (o4 + 0 * 6) (el := 51) (sz := 6) (by kernel_rfl) (by kernel_rfl) rfl rfl rfl (by decide) (by omega) (by decide) ?_
  refine xk_guardT rfl rfl ?_; refine xk_field (off := 4) (by kernel_rfl) rfl (by decide) ?_
  refine xk_guardT rfl rfl ?_; refine xk_load (by kernel_rfl) rfl (Rd.ro (p := q) (by simp) hz4 (hc4 4 _ rfl)) (by decide) ?_
  refine xk_guardT rfl rfl ?_; refine xk_len (el := 57) (by kernel_rfl) rfl (by decide) ?_
  refine xk_guardT rfl rfl ?_; refine xk_eql rfl rfl (by decide) ?_
  (first | refine xk_pickT rfl rfl (by decide) ?_ | refine xk_pickF rfl rfl (by decide) ?_)
  refine xk_move rfl (by decide) ?_
  refine xk_isV (t := 58) true rfl (by first | (exact decide_eq_true (by omega)) | (exact decide_eq_false (by omega)) | rfl | assumption | (simp_all; done)) ?_
  refine xk_guardT rfl rfl ?_; refine xk_field (off := 3) (by kernel_rfl) rfl (by decide) ?_
  refine xk_guardT rfl rfl ?_; refine xk_ld rfl ?_
  refine xk_guardT rfl rfl ?_; refine xk_at 0 (o4 + 0 * 6) (el := 51) (sz := 6) (by kernel_rfl) (by kernel_rfl) rfl rfl rfl (by decide) (by omega) (by decide) ?_
  refine xk_guardT rfl rfl ?_; refine xk_field (off := 4) (by kernel_rfl) rfl (by decide) ?_
  refine xk_guardT rfl rfl ?_; refine xk_load (by kernel_rfl) rfl (Rd.ro (p := q) (by simp) hz4 (hc4 4 _ rfl)) (by decide) ?_
  refine xk_guardT rfl rfl ?_; refine xk_at 0 (orr + 0 * 2) (el := 57) (sz := 2) (by kernel_rfl) (by kernel_rfl) rfl rfl rfl (by decide) (by omega) (by decide) ?_
  refine xk_guardT rfl rfl ?_; refine xk_loadN 2 (by kernel_rfl) rfl (RdN.of (vs := [.int .u32 3, .bool true]) fun j v hv => Rd.ro (p := q) (by simp) hzr (by rw [Nat.add_assoc]; exact hcr (0 * 2 + j) v (by rw [Nat.zero_mul, Nat.zero_add]; exact hv))) rfl (by decide) ?_
  refine xk_guardT rfl rfl ?_; refine xk_buildS (zs := [.int .u32 0, .bool false]) (L := [(0, 1), (1, 1)]) (zeroB_of (by kernel_rfl)) (by kernel_rfl) rfl (by simp [fillL, setN, Value.cells]; rfl) (by decide) ?_
  refine xk_guardT rfl rfl ?_; refine xk_eqlV true rfl rfl (fun ev w h1 h2 => by simp [execOp, h1, h2, run_eqGuard_agg (hm := (by kernel_rfl)), run_eql_struct, run_equalIn_agg (ht := (by kernel_rfl)) (hp := (by kernel_rfl)), go_sem]) (by decide) ?_
  (first | refine xk_pickT rfl rfl (by decide) ?_ | refine xk_pickF rfl rfl (by decide) ?_)
  refine xk_assign rfl (by decide) ?_
  refine XK.nilN ?_
  refine XK.ret ?_
  refine XK.norm ?_
  exact XK.ret1 rfl rfl fun w1 st => ⟨rfl, st.below (by simp)⟩

end Go.Proofs.YtgopaoidgcgalaaGreatDoor
/- chip: a description that is right, of any raw numbers. No condition of ours. -/
namespace Go.Proofs.YtgopaoidgcgalaaGreatDoor
set_option linter.all false
open Go.RowKit

theorem pick5_any (c n : Int) (w : World) (hc : -9223372036854775808 ≤ c ∧ c ≤ 9223372036854775807) (hn : 0 < n) :
    Calls Tryz.prog 20 #[.int .i64 c, .int .i64 n] w fun x w' => (∃ v, x = .returned v ∧ ∃ r : Int, v = .int .i64 r ∧ 0 ≤ r ∧ r < n) ∧ Below w.heap.size w w' := by
  refine XK.enter (vs := [.int .i64 c, .int .i64 n]) Tryz.func20 rfl Tryz.ntmps20 (by simp) ?_
  refine XK.seq ?_
  refine XK.region ?_
  refine xk_assign rfl (by decide) ?_
  refine XK.nilN ?_
  refine XK.cut (fun e R H => ∃ c : Int, 0 ≤ c ∧ e = [(0, .int .i64 c), (1, .int .i64 n)] ∧ R = [all w] ∧ H = []) ?_ ?_
  · refine XK.seq ?_
    refine XK.region ?_
    refine xk_move rfl (by decide) ?_
    refine xk_lss rfl rfl (by decide) ?_
    refine XK.nilN ?_
    refine XK.if_ rfl (fun h => ?_) (fun h => ?_)
    · refine XK.region ?_
      refine xk_move rfl (by decide) ?_
      refine xk_add rfl rfl (wrap_in (by omega)) (by decide) ?_
      refine xk_neg rfl (wrap_in (by omega)) (by decide) ?_
      refine xk_assign rfl (by decide) ?_
      refine XK.nilN ?_
      exact XK.envS [(0, .int .i64 (0 - (c + 1))), (1, .int .i64 n)] (XK.meet ⟨_, by omega, rfl, rfl, rfl⟩)
    · refine XK.skip ?_
      refine XK.norm ?_
      exact XK.envS [(0, .int .i64 c), (1, .int .i64 n)] (XK.meet ⟨_, by omega, rfl, rfl, rfl⟩)
  rintro _ _ _ ⟨c, hc0, rfl, rfl, rfl⟩
  refine XK.seq ?_
  refine XK.region ?_
  refine xk_move rfl (by decide) ?_
  refine xk_move rfl (by decide) ?_
  refine xk_rem rfl rfl (by omega) (rem_in (by omega)) (by decide) ?_
  refine xk_assign rfl (by decide) ?_
  refine XK.nilN ?_
  refine XK.ret ?_
  refine XK.norm ?_
  exact XK.ret1 rfl rfl fun w' st => ⟨⟨_, rfl, _, rfl, Int.emod_nonneg _ (by omega), Int.emod_lt_of_pos _ hn⟩, st.below (by simp)⟩

set_option maxRecDepth 100000 in
set_option maxHeartbeats 4000000 in
theorem chip5_any (A : Option Addr) (n c : Nat) (zs : List Int) (w : World) (h0 : SlS (all w) 1 A n (intCells zs)) (hz : I64s zs) (hn : n = zs.length) (hn2 : n ≤ 9223372036854775807) :
    Calls Tryz.prog 19 #[.slice A n c] w fun x w' => (∃ v, x = .returned v ∧ ∃ cs s, v = .agg cs ∧ SocR (slq (fresh w w')) s cs ∧ s.made) ∧ Below w.heap.size w w' := by
  refine XK.enter (vs := [.slice A n c]) Tryz.func19 rfl Tryz.ntmps19 (by simp) ?_
  refine XK.seq ?_

  refine XK.region ?_
  refine xk_alloc (cs := [.slice none 0 0, .slice none 0 0, .slice none 0 0, .slice none 0 0]) (zeroB_of (by kernel_rfl)) (by decide) fun g1 => ?_
  refine XK.nilN ?_
  refine XK.seq ?_

  refine XK.region ?_
  refine xk_assign rfl (by decide) ?_
  refine XK.nilN ?_
  refine XK.seq ?_

  refine XK.region ?_
  refine xk_makeT 8 (n := 120) (el := 3) (z := .int .i64 0) (by kernel_rfl) (by kernel_rfl) rfl rfl rfl (by omega) (by omega) (by decide) fun g2 => ?_
  refine xk_assign rfl (by decide) ?_
  refine XK.nilN ?_
  refine XK.cut (fun e R H => ∃ ds, Draw ds ∧ e = [(4, .slice (some ⟨g2, 0, none⟩) 120 120), (2, .pointer (some ⟨g1, 0, none⟩))] ∧ R = [all w] ∧ H = [HP.blk g2 3 (intCells ds), HP.blk g1 28 [.slice none 0 0, .slice none 0 0, .slice none 0 0, .slice none 0 0]]) ?_ ?_
  ·
    refine XK.seq ?_

    refine XK.region ?_
    refine xk_assign rfl (by decide) ?_
    refine XK.nilN ?_
    refine XK.envS [(5, .int .i64 0), (4, .slice (some ⟨g2, 0, none⟩) 120 120), (2, .pointer (some ⟨g1, 0, none⟩)), (0, .slice A n c)] ?_
    refine XK.block ?_
    refine XK.loop (fun m e R H => ∃ (k : Nat) (ds : List Int), Draw ds ∧ k ≤ 120 ∧ m = 120 - k ∧ e = [(5, .int .i64 k), (4, .slice (some ⟨g2, 0, none⟩) 120 120), (2, .pointer (some ⟨g1, 0, none⟩)), (0, .slice A n c)] ∧ R = [all w] ∧ H = [HP.blk g2 3 (intCells ds), HP.blk g1 28 [.slice none 0 0, .slice none 0 0, .slice none 0 0, .slice none 0 0]]) 120 ⟨0, List.replicate 120 0, Draw.zero, by omega, rfl, rfl, rfl, by simp [intCells]⟩ fun m e R H hI => ?_
    obtain ⟨k, ds, hd, hk, rfl, rfl, rfl, rfl⟩ := hI
    refine XK.seq ?_
    refine XK.seq ?_

    refine XK.region ?_
    refine xk_move rfl (by decide) ?_
    refine xk_move rfl (by decide) ?_
    refine xk_len (el := 3) (by kernel_rfl) rfl (by decide) ?_
    refine xk_lss rfl rfl (by decide) ?_
    refine xk_move rfl (by decide) ?_
    refine xk_split (t := 23) rfl (fun hg => ?_) (fun hg => ?_)
    ·
      refine xk_guardT rfl rfl ?_; refine xk_move rfl (by decide) ?_
      refine xk_guardT rfl rfl ?_; refine xk_len (el := 3) (by kernel_rfl) rfl (by decide) ?_
      refine xk_guardT rfl rfl ?_; refine xk_gtr rfl rfl (by decide) ?_
      (first | refine xk_pickT rfl rfl (by decide) ?_ | refine xk_pickF rfl rfl (by decide) ?_)
      refine XK.nilN ?_
      refine XK.if_ rfl (fun h => ?_) (fun h => ?_)
      ·
        refine XK.skip ?_
        refine XK.norm ?_
        refine XK.seq ?_
        refine XK.block ?_
        have hk2 : k < 120 := by omega
        have hn0 : 0 < n := by omega
        obtain ⟨b, off, rfl, hzb, hc⟩ := h0.2 hn0
        have hkn : ((k % n : Nat) : Int) = (k : Int) % (n : Int) := Int.natCast_emod k n
        have hkl : k % n < n := Nat.mod_lt _ hn0
        have hdv : ((k / n : Nat) : Int) = (k : Int) / (n : Int) := Int.natCast_ediv k n
        have hdl : k / n ≤ k := Nat.div_le_self _ _
        have hdb : 0 ≤ (k : Int) / (n : Int) ∧ (k : Int) / (n : Int) ≤ k := ⟨Int.ediv_nonneg (by omega) (by omega), by have h2 : ((k / n : Nat) : Int) ≤ (k : Int) := Int.ofNat_le.2 hdl; rwa [hdv] at h2⟩
        have hrd : ∀ H, Rd w [all w] H b (off + k % n) (.int .i64 (zs[k % n]?.getD 0)) := fun H => Rd.ro (p := all w) (by simp) hzb (by exact hc _ _ (intCells_get zs _ (by omega)))
        have hzz := hz (k % n)
        have hyb := tdiv_bd (z := zs[k % n]?.getD 0) (d := 1 + (k : Int) / (n : Int)) (lo := -9223372036854775808) (hi := 9223372036854775807) (by omega) (by omega) (by omega) hzz

        refine XK.draw 16 (by kernel_rfl) (by kernel_rfl) ?_
        refine XA.dA 0 rfl rfl rfl (does_move rfl) ?_
        refine XA.dA 1 rfl rfl rfl (does_move rfl) ?_
        refine XA.dA 2 rfl rfl rfl (does_move rfl) ?_
        refine XA.dA 3 rfl rfl rfl (does_move rfl) ?_
        refine XA.dA 4 rfl rfl rfl (does_move rfl) ?_
        refine XA.dA 5 rfl rfl rfl (does_len (el := 3) (by kernel_rfl) rfl) ?_
        refine XA.dA 6 rfl rfl rfl (does_rem rfl rfl (by omega) (rem_in (by omega))) ?_
        refine XA.dA 7 rfl rfl rfl (does_at (k % n) (off + k % n) (el := 3) (sz := 1) (by kernel_rfl) (by kernel_rfl) rfl rfl hkn.symm hkl (by omega)) ?_
        refine XA.dA 8 rfl rfl rfl (does_load (by kernel_rfl) rfl (hrd _)) ?_
        refine XA.dA 9 rfl rfl rfl (does_move rfl) ?_
        refine XA.dA 10 rfl rfl rfl (does_move rfl) ?_
        refine XA.dA 11 rfl rfl rfl (does_len (el := 3) (by kernel_rfl) rfl) ?_
        refine XA.dA 12 rfl rfl rfl (does_quo rfl rfl (by omega) (quo_in (by omega) (by omega) (by omega))) ?_
        refine XA.dA 13 rfl rfl rfl (does_add rfl rfl (wrap_in (by omega))) ?_
        refine XA.dA 14 rfl rfl rfl (does_quo rfl rfl (by omega) (wrap_in hyb)) ?_
        refine XA.next 15 rfl (by kernel_rfl) ?_
        refine xk_callV (f := 20) (fi := []) (ca := []) (by kernel_rfl) rfl rfl (by decide) (fun v => ∃ r : Int, v = .int .i64 r ∧ 0 ≤ r ∧ r < 1000000) (fun w1 st => pick5_any _ _ w1 hyb (by omega)) fun v hv => ?_
        obtain ⟨r, rfl, hr0, hr1⟩ := hv
        refine XA.bk ?_
        refine XA.next 16 rfl (by kernel_rfl) ?_
        refine xk_at k k (el := 3) (sz := 1) (by kernel_rfl) (by kernel_rfl) rfl rfl rfl hk2 (by omega) (by decide) ?_
        refine XA.bt ?_
        refine XA.next 17 rfl (by kernel_rfl) ?_
        refine xk_store 0 rfl (by kernel_rfl) rfl rfl rfl (by simp [intCells, hd.1]; omega) ?_
        refine XA.bt ?_
        refine XA.done (by kernel_rfl) ?_
        refine XK.norm ?_

        refine XK.region ?_
        refine xk_move rfl (by decide) ?_
        refine xk_add rfl rfl (wrap_in (by omega)) (by decide) ?_
        refine xk_assign rfl (by decide) ?_
        refine XK.nilN ?_
        exact XK.envS [(5, .int .i64 (k + 1)), (4, .slice (some ⟨g2, 0, none⟩) 120 120), (2, .pointer (some ⟨g1, 0, none⟩)), (0, .slice (some ⟨b, off, none⟩) n c)] (XK.round (120 - (k + 1)) (by omega) ⟨k + 1, ds.set k r, hd.set_ k hr0 hr1, by omega, rfl, rfl, rfl, by simp [intCells, List.map_set]⟩)
      ·
        refine XK.exit ?_
        refine XK.norm ?_
        exact XK.envS [(4, .slice (some ⟨g2, 0, none⟩) 120 120), (2, .pointer (some ⟨g1, 0, none⟩))] (XK.meet ⟨ds, hd, rfl, rfl, rfl⟩)
    ·
      refine xk_guardF rfl rfl rfl (by decide) ?_
      refine xk_guardF rfl rfl rfl (by decide) ?_
      refine xk_guardF rfl rfl rfl (by decide) ?_
      (first | refine xk_pickT rfl rfl (by decide) ?_ | refine xk_pickF rfl rfl (by decide) ?_)
      refine XK.nilN ?_
      refine XK.cond rfl (fun h => by cases h) (fun _ => ?_)
      refine XK.exit ?_
      refine XK.norm ?_
      exact XK.envS [(4, .slice (some ⟨g2, 0, none⟩) 120 120), (2, .pointer (some ⟨g1, 0, none⟩))] (XK.meet ⟨ds, hd, rfl, rfl, rfl⟩)
  rintro _ _ _ ⟨ds, hd, rfl, rfl, rfl⟩
  have dd := hd.at_
  have b0 := hd.bd 0
  have b1 := hd.bd 1
  refine XK.seq ?_

  refine XK.region ?_
  refine xk_move rfl (by decide) ?_
  refine xk_at 0 0 (el := 3) (sz := 1) (by kernel_rfl) (by kernel_rfl) rfl rfl (by rfl) (by omega) (by omega) (by decide) ?_
  refine xk_load (by kernel_rfl) rfl (by first | assumption | exact Rd.blk 0 rfl (dd _ (by omega)) | exact Rd.blk 1 rfl (dd _ (by omega)) | exact Rd.blk 2 rfl (dd _ (by omega)) | exact Rd.blk 3 rfl (dd _ (by omega)) | exact Rd.blk 4 rfl (dd _ (by omega)) | exact Rd.blk 5 rfl (dd _ (by omega)) | exact Rd.blk 6 rfl (dd _ (by omega)) | exact Rd.blk 7 rfl (dd _ (by omega)) | exact Rd.blk 8 rfl (dd _ (by omega)) | exact Rd.blk 9 rfl (dd _ (by omega)) | exact Rd.blk 0 rfl rfl | exact Rd.blk 1 rfl rfl | exact Rd.blk 2 rfl rfl | exact Rd.blk 3 rfl rfl | exact Rd.blk 4 rfl rfl | exact Rd.blk 5 rfl rfl | exact Rd.blk 6 rfl rfl | exact Rd.blk 7 rfl rfl | exact Rd.blk 8 rfl rfl | exact Rd.blk 9 rfl rfl) (by decide) ?_
  refine xk_add rfl rfl (wrap_in (by omega)) (by decide) ?_
  refine xk_conv (ds := .int .i64) (by kernel_rfl) (by kernel_rfl) rfl (wrap_u64 (by omega)) (by decide) ?_
  refine xk_buildS (zs := [.int .u8 0, .slice none 0 0, .int .u64 0, .int .i64 0, .int .i64 0, .int .i64 0]) (L := [(0, 1), (1, 1), (2, 1), (3, 1), (4, 1), (5, 1)]) (zeroB_of (by kernel_rfl)) (by kernel_rfl) rfl (by simp [fillL, setN, Value.cells]; rfl) (by decide) ?_
  refine xk_slice (el := 55) (sz := 6) (zs := [.int .u8 0, .slice none 0 0, .int .u64 0, .int .i64 0, .int .i64 0, .int .i64 0]) (by kernel_rfl) (zeroB_of (by kernel_rfl)) (by kernel_rfl) rfl (by decide) (by decide) rfl (by simp [fillL, setN, Value.cells, List.range_succ, List.set]; rfl) (by decide) fun g3 => ?_
  refine xk_buildS (zs := [.slice none 0 0, .slice none 0 0, .slice none 0 0, .slice none 0 0]) (L := [(0, 1), (1, 1), (2, 1), (3, 1)]) (zeroB_of (by kernel_rfl)) (by kernel_rfl) rfl (by simp [fillL, setN, Value.cells]; rfl) (by decide) ?_
  refine xk_alloc (cs := [.slice none 0 0, .slice none 0 0, .slice none 0 0, .slice none 0 0]) (zeroB_of (by kernel_rfl)) (by decide) fun g4 => ?_
  (first | (refine xk_storeN 0 rfl rfl rfl (by kernel_rfl) (by simp [Value.cells, Value.oneCell']) (by simp [Value.cells]) ?_) | (refine xk_storeN 1 rfl rfl rfl (by kernel_rfl) (by simp [Value.cells, Value.oneCell']) (by simp [Value.cells]) ?_) | (refine xk_storeN 2 rfl rfl rfl (by kernel_rfl) (by simp [Value.cells, Value.oneCell']) (by simp [Value.cells]) ?_) | (refine xk_storeN 3 rfl rfl rfl (by kernel_rfl) (by simp [Value.cells, Value.oneCell']) (by simp [Value.cells]) ?_) | (refine xk_storeN 4 rfl rfl rfl (by kernel_rfl) (by simp [Value.cells, Value.oneCell']) (by simp [Value.cells]) ?_) | (refine xk_storeN 5 rfl rfl rfl (by kernel_rfl) (by simp [Value.cells, Value.oneCell']) (by simp [Value.cells]) ?_) | (refine xk_storeN 6 rfl rfl rfl (by kernel_rfl) (by simp [Value.cells, Value.oneCell']) (by simp [Value.cells]) ?_) | (refine xk_storeN 7 rfl rfl rfl (by kernel_rfl) (by simp [Value.cells, Value.oneCell']) (by simp [Value.cells]) ?_) | (refine xk_storeN 8 rfl rfl rfl (by kernel_rfl) (by simp [Value.cells, Value.oneCell']) (by simp [Value.cells]) ?_)); simp only [putN, Value.cells, List.set, List.take, List.drop, List.nil_append, List.append_nil, List.length_cons, List.length_nil, List.cons_append, Nat.reduceAdd]
  refine XK.nilN ?_
  refine XK.seq ?_

  refine XK.region ?_
  refine xk_assign rfl (by decide) ?_
  refine XK.nilN ?_
  refine XK.seq ?_

  refine XK.region ?_
  refine xk_assign rfl (by decide) ?_
  refine XK.nilN ?_
  refine XK.cut (fun e R H => ∃ (cs : List Clk) (A1 : Option Addr) (c1 : Nat) (q : Piece) (rows1 : List (List Value)), 1 ≤ cs.length ∧ cs.length ≤ 9 ∧ Fits Clk.fit cs ∧ Rows (ClkR (slq q)) 6 cs rows1 ∧ Fresh w q ∧ e = [(6, .pointer (some ⟨g4, 0, none⟩)), (4, .slice (some ⟨g2, 0, none⟩) 120 120), (2, .pointer (some ⟨g1, 0, none⟩))] ∧ R = [q, all w] ∧ H = [HP.blk g4 28 [.slice A1 cs.length c1, .slice none 0 0, .slice none 0 0, .slice none 0 0], HP.own 55 6 (.slice A1 cs.length c1) cs.length rows1.flatten, HP.blk g2 3 (intCells ds), HP.blk g1 28 [.slice none 0 0, .slice none 0 0, .slice none 0 0, .slice none 0 0]]) ?_ ?_
  ·
    refine XK.seq ?_

    refine XK.region ?_
    refine xk_assign rfl (by decide) ?_
    refine XK.nilN ?_
    refine XK.asOwn 1 6 1 rfl rfl (by omega) ?_
    refine XK.still [] [] [0, 1, 2, 3] (by simp) rfl (by decide) (by simp) fun q _ _ hqn => ?_
    have hq := hqn (by simp) (by simp)
    refine XK.envS [(8, .int .i64 0), (3, .int .i64 1), (7, .string ⟨#[112, 100, 103, 109, 103]⟩), (6, .pointer (some ⟨g4, 0, none⟩)), (4, .slice (some ⟨g2, 0, none⟩) 120 120), (2, .pointer (some ⟨g1, 0, none⟩))] ?_
    refine XK.block ?_
    refine XK.loop (fun m e R H => ∃ (k : Nat) (cs : List Clk) (A1 : Option Addr) (c1 : Nat) (q : Piece) (rows1 : List (List Value)), (k : Int) ≤ dv ds 1 % 9 ∧ m = 9 - k ∧ cs.length = k + 1 ∧ Fits Clk.fit cs ∧ Rows (ClkR (slq q)) 6 cs rows1 ∧ Fresh w q ∧ e = [(8, .int .i64 k), (3, .int .i64 1), (7, .string ⟨#[112, 100, 103, 109, 103]⟩), (6, .pointer (some ⟨g4, 0, none⟩)), (4, .slice (some ⟨g2, 0, none⟩) 120 120), (2, .pointer (some ⟨g1, 0, none⟩))] ∧ R = [q, all w] ∧ H = [HP.blk g4 28 [.slice A1 cs.length c1, .slice none 0 0, .slice none 0 0, .slice none 0 0], HP.own 55 6 (.slice A1 cs.length c1) cs.length rows1.flatten, HP.blk g2 3 (intCells ds), HP.blk g1 28 [.slice none 0 0, .slice none 0 0, .slice none 0 0, .slice none 0 0]]) 9 ⟨0, [⟨111, [], 1 + dv ds 0, 0, 0, 0⟩], some ⟨g3, 0, none⟩, 1, q, [[.int .u8 111, .slice none 0 0, .int .u64 (1 + dv ds 0), .int .i64 0, .int .i64 0, .int .i64 0]], by omega, rfl, rfl, (Fits.nil Clk.fit).snoc ⟨by simp, .inl ⟨rfl, rfl, by dsimp only; omega, by dsimp only; omega, rfl, rfl, rfl⟩⟩, ⟨rfl, ⟨none, 0, 0, rfl, rfl, SlS.nil _ _⟩, trivial⟩, hq, rfl, rfl, rfl⟩ fun m e R H hI => ?_
    obtain ⟨k, cs, A1, c1, q, rows1, hk, rfl, hcl, hcf, hcr, hq, rfl, rfl, rfl⟩ := hI
    refine XK.seq ?_
    refine XK.seq ?_

    refine XK.region ?_
    refine xk_move rfl (by decide) ?_
    refine xk_move rfl (by decide) ?_
    refine xk_move rfl (by decide) ?_
    refine xk_at 1 1 (el := 3) (sz := 1) (by kernel_rfl) (by kernel_rfl) rfl rfl (by omega) (by omega) (by omega) (by decide) ?_
    refine xk_load (by kernel_rfl) rfl (by first | assumption | exact Rd.blk 0 rfl (dd _ (by omega)) | exact Rd.blk 1 rfl (dd _ (by omega)) | exact Rd.blk 2 rfl (dd _ (by omega)) | exact Rd.blk 3 rfl (dd _ (by omega)) | exact Rd.blk 4 rfl (dd _ (by omega)) | exact Rd.blk 5 rfl (dd _ (by omega)) | exact Rd.blk 6 rfl (dd _ (by omega)) | exact Rd.blk 7 rfl (dd _ (by omega)) | exact Rd.blk 8 rfl (dd _ (by omega)) | exact Rd.blk 9 rfl (dd _ (by omega)) | exact Rd.blk 0 rfl rfl | exact Rd.blk 1 rfl rfl | exact Rd.blk 2 rfl rfl | exact Rd.blk 3 rfl rfl | exact Rd.blk 4 rfl rfl | exact Rd.blk 5 rfl rfl | exact Rd.blk 6 rfl rfl | exact Rd.blk 7 rfl rfl | exact Rd.blk 8 rfl rfl | exact Rd.blk 9 rfl rfl) (by decide) ?_
    refine xk_rem rfl rfl (by omega) (rem_in (by omega)) (by decide) ?_
    refine xk_lss rfl rfl (by decide) ?_
    refine XK.nilN ?_
    refine XK.if_ rfl (fun h => ?_) (fun h => ?_)
    ·
      refine XK.skip ?_
      refine XK.norm ?_
      refine XK.seq ?_
      have hk2 : k < 9 := by omega
      have hcp : (0 : Int) < cs.length := by omega
      have b2 := hd.bd (10 + 3 * k)
      have b3 := hd.bd (11 + 3 * k)
      have b4 := hd.bd (12 + 3 * k)
      have f0 := emod_bd (dv ds (11 + 3 * k)) hcp
      have f1 := emod_bd (dv ds (12 + 3 * k)) hcp
      have m5 := emod_bd (dv ds (10 + 3 * k)) (n := 5) (by omega)
      obtain ⟨kb, hkb, hkb2⟩ := kinds_at (q := (dv ds (10 + 3 * k) % 5).toNat) (by omega)
      refine XK.block ?_
      refine XK.seq ?_

      refine XK.region ?_
      refine xk_move rfl (by decide) ?_
      refine xk_mul rfl rfl (wrap_in (by omega)) (by decide) ?_
      refine xk_add rfl rfl (wrap_in (by omega)) (by decide) ?_
      refine xk_assign rfl (by decide) ?_
      refine XK.nilN ?_
      refine XK.cut (fun e R H => ∃ gC gF, e = [(10, .pointer (some ⟨gC, 0, none⟩)), (9, .int .i64 (10 + 3 * k)), (8, .int .i64 k), (3, .int .i64 1), (7, .string ⟨#[112, 100, 103, 109, 103]⟩), (6, .pointer (some ⟨g4, 0, none⟩)), (4, .slice (some ⟨g2, 0, none⟩) 120 120), (2, .pointer (some ⟨g1, 0, none⟩))] ∧ R = [q, all w] ∧ H = [HP.blk gC 55 [.int .u8 kb.toNat, .slice (some ⟨gF, 0, none⟩) 1 1, .int .u64 0, .int .i64 0, .int .i64 0, .int .i64 0], HP.blk gF 3 [.int .i64 (dv ds (11 + 3 * k) % cs.length)], HP.blk g4 28 [.slice A1 cs.length c1, .slice none 0 0, .slice none 0 0, .slice none 0 0], HP.own 55 6 (.slice A1 cs.length c1) cs.length rows1.flatten, HP.blk g2 3 (intCells ds), HP.blk g1 28 [.slice none 0 0, .slice none 0 0, .slice none 0 0, .slice none 0 0]]) ?_ ?_
      ·

        refine XK.draw 19 (by kernel_rfl) (by kernel_rfl) ?_
        refine XA.dA 0 rfl rfl rfl (does_move rfl) ?_
        refine XA.dA 1 rfl rfl rfl (does_move rfl) ?_
        refine XA.dA 2 rfl rfl rfl (does_move rfl) ?_
        refine XA.dA 3 rfl rfl rfl (does_at (10 + 3 * k) (10 + 3 * k) (el := 3) (sz := 1) (by kernel_rfl) (by kernel_rfl) rfl rfl (by omega) (by omega) (by omega)) ?_
        refine XA.dA 4 rfl rfl rfl (does_load (by kernel_rfl) rfl (by first | assumption | exact Rd.blk 0 rfl (dd _ (by omega)) | exact Rd.blk 1 rfl (dd _ (by omega)) | exact Rd.blk 2 rfl (dd _ (by omega)) | exact Rd.blk 3 rfl (dd _ (by omega)) | exact Rd.blk 4 rfl (dd _ (by omega)) | exact Rd.blk 5 rfl (dd _ (by omega)) | exact Rd.blk 6 rfl (dd _ (by omega)) | exact Rd.blk 7 rfl (dd _ (by omega)) | exact Rd.blk 8 rfl (dd _ (by omega)) | exact Rd.blk 9 rfl (dd _ (by omega)) | exact Rd.blk 0 rfl rfl | exact Rd.blk 1 rfl rfl | exact Rd.blk 2 rfl rfl | exact Rd.blk 3 rfl rfl | exact Rd.blk 4 rfl rfl | exact Rd.blk 5 rfl rfl | exact Rd.blk 6 rfl rfl | exact Rd.blk 7 rfl rfl | exact Rd.blk 8 rfl rfl | exact Rd.blk 9 rfl rfl)) ?_
        refine XA.dA 5 rfl rfl rfl (does_rem rfl rfl (by omega) (rem_in (by omega))) ?_
        refine XA.dA 6 rfl rfl rfl (does_byte (dv ds (10 + 3 * k) % 5).toNat (by kernel_rfl) rfl rfl (by omega) hkb) ?_
        refine XA.dA 7 rfl rfl rfl (does_move rfl) ?_
        refine XA.dA 8 rfl rfl rfl (does_move rfl) ?_
        refine XA.dA 9 rfl rfl rfl (does_add rfl rfl (wrap_in (by omega))) ?_
        refine XA.dA 10 rfl rfl rfl (does_at (11 + 3 * k) (11 + 3 * k) (el := 3) (sz := 1) (by kernel_rfl) (by kernel_rfl) rfl rfl (by omega) (by omega) (by omega)) ?_
        refine XA.dA 11 rfl rfl rfl (does_load (by kernel_rfl) rfl (by first | assumption | exact Rd.blk 0 rfl (dd _ (by omega)) | exact Rd.blk 1 rfl (dd _ (by omega)) | exact Rd.blk 2 rfl (dd _ (by omega)) | exact Rd.blk 3 rfl (dd _ (by omega)) | exact Rd.blk 4 rfl (dd _ (by omega)) | exact Rd.blk 5 rfl (dd _ (by omega)) | exact Rd.blk 6 rfl (dd _ (by omega)) | exact Rd.blk 7 rfl (dd _ (by omega)) | exact Rd.blk 8 rfl (dd _ (by omega)) | exact Rd.blk 9 rfl (dd _ (by omega)) | exact Rd.blk 0 rfl rfl | exact Rd.blk 1 rfl rfl | exact Rd.blk 2 rfl rfl | exact Rd.blk 3 rfl rfl | exact Rd.blk 4 rfl rfl | exact Rd.blk 5 rfl rfl | exact Rd.blk 6 rfl rfl | exact Rd.blk 7 rfl rfl | exact Rd.blk 8 rfl rfl | exact Rd.blk 9 rfl rfl)) ?_
        refine XA.dA 12 rfl rfl rfl (does_field (off := 0) (by kernel_rfl) rfl) ?_
        refine XA.dA 13 rfl rfl rfl (does_load (by kernel_rfl) rfl (by first | assumption | exact Rd.blk 0 rfl (dd _ (by omega)) | exact Rd.blk 1 rfl (dd _ (by omega)) | exact Rd.blk 2 rfl (dd _ (by omega)) | exact Rd.blk 3 rfl (dd _ (by omega)) | exact Rd.blk 4 rfl (dd _ (by omega)) | exact Rd.blk 5 rfl (dd _ (by omega)) | exact Rd.blk 6 rfl (dd _ (by omega)) | exact Rd.blk 7 rfl (dd _ (by omega)) | exact Rd.blk 8 rfl (dd _ (by omega)) | exact Rd.blk 9 rfl (dd _ (by omega)) | exact Rd.blk 0 rfl rfl | exact Rd.blk 1 rfl rfl | exact Rd.blk 2 rfl rfl | exact Rd.blk 3 rfl rfl | exact Rd.blk 4 rfl rfl | exact Rd.blk 5 rfl rfl | exact Rd.blk 6 rfl rfl | exact Rd.blk 7 rfl rfl | exact Rd.blk 8 rfl rfl | exact Rd.blk 9 rfl rfl)) ?_
        refine XA.dA 14 rfl rfl rfl (does_len (el := 55) (by kernel_rfl) rfl) ?_
        refine XA.dA 15 rfl rfl rfl (does_rem rfl rfl (by omega) (rem_in (by omega))) ?_
        refine XA.either 16 18 rfl rfl (by kernel_rfl) ?_ ?_
        · refine xk_slice (el := 3) (sz := 1) (zs := [.int .i64 0]) (by kernel_rfl) (zeroB_of (by kernel_rfl)) (by kernel_rfl) rfl (by decide) (by decide) rfl (by simp [fillL, setN, Value.cells, List.range_succ, List.set]; rfl) (by decide) fun g5 => ?_
          refine XA.bk ?_
          refine XA.dA 17 rfl rfl rfl (does_buildS (zs := [.int .u8 0, .slice none 0 0, .int .u64 0, .int .i64 0, .int .i64 0, .int .i64 0]) (L := [(0, 1), (1, 1), (2, 1), (3, 1), (4, 1), (5, 1)]) (zeroB_of (by kernel_rfl)) (by kernel_rfl) rfl (by simp [fillL, setN, Value.cells]; rfl)) ?_
          refine XA.next 18 rfl (by kernel_rfl) ?_
          refine xk_alloc (cs := [.int .u8 0, .slice none 0 0, .int .u64 0, .int .i64 0, .int .i64 0, .int .i64 0]) (zeroB_of (by kernel_rfl)) (by decide) fun g6 => ?_
          refine XA.bk ?_
          refine XA.next 19 rfl (by kernel_rfl) ?_
          (first | (refine xk_storeN 0 rfl rfl rfl (by kernel_rfl) (by simp [Value.cells, Value.oneCell']) (by simp [Value.cells]) ?_) | (refine xk_storeN 1 rfl rfl rfl (by kernel_rfl) (by simp [Value.cells, Value.oneCell']) (by simp [Value.cells]) ?_) | (refine xk_storeN 2 rfl rfl rfl (by kernel_rfl) (by simp [Value.cells, Value.oneCell']) (by simp [Value.cells]) ?_) | (refine xk_storeN 3 rfl rfl rfl (by kernel_rfl) (by simp [Value.cells, Value.oneCell']) (by simp [Value.cells]) ?_) | (refine xk_storeN 4 rfl rfl rfl (by kernel_rfl) (by simp [Value.cells, Value.oneCell']) (by simp [Value.cells]) ?_) | (refine xk_storeN 5 rfl rfl rfl (by kernel_rfl) (by simp [Value.cells, Value.oneCell']) (by simp [Value.cells]) ?_) | (refine xk_storeN 6 rfl rfl rfl (by kernel_rfl) (by simp [Value.cells, Value.oneCell']) (by simp [Value.cells]) ?_) | (refine xk_storeN 7 rfl rfl rfl (by kernel_rfl) (by simp [Value.cells, Value.oneCell']) (by simp [Value.cells]) ?_) | (refine xk_storeN 8 rfl rfl rfl (by kernel_rfl) (by simp [Value.cells, Value.oneCell']) (by simp [Value.cells]) ?_)); simp only [putN, Value.cells, List.set, List.take, List.drop, List.nil_append, List.append_nil, List.length_cons, List.length_nil, List.cons_append, Nat.reduceAdd]
          refine XA.bt ?_
          refine XA.done (by kernel_rfl) ?_
          refine XK.norm ?_
          exact XK.envS [(10, .pointer (some ⟨g6, 0, none⟩)), (9, .int .i64 (10 + 3 * k)), (8, .int .i64 k), (3, .int .i64 1), (7, .string ⟨#[112, 100, 103, 109, 103]⟩), (6, .pointer (some ⟨g4, 0, none⟩)), (4, .slice (some ⟨g2, 0, none⟩) 120 120), (2, .pointer (some ⟨g1, 0, none⟩))] (XK.meet ⟨_, _, rfl, rfl, rfl⟩)
        · refine xk_alloc (cs := [.int .u8 0, .slice none 0 0, .int .u64 0, .int .i64 0, .int .i64 0, .int .i64 0]) (zeroB_of (by kernel_rfl)) (by decide) fun g6 => ?_
          refine XA.bk ?_
          refine XA.next 16 rfl (by kernel_rfl) ?_
          refine xk_slice (el := 3) (sz := 1) (zs := [.int .i64 0]) (by kernel_rfl) (zeroB_of (by kernel_rfl)) (by kernel_rfl) rfl (by decide) (by decide) rfl (by simp [fillL, setN, Value.cells, List.range_succ, List.set]; rfl) (by decide) fun g5 => ?_
          refine XA.bk ?_
          refine XA.dA 17 rfl rfl rfl (does_buildS (zs := [.int .u8 0, .slice none 0 0, .int .u64 0, .int .i64 0, .int .i64 0, .int .i64 0]) (L := [(0, 1), (1, 1), (2, 1), (3, 1), (4, 1), (5, 1)]) (zeroB_of (by kernel_rfl)) (by kernel_rfl) rfl (by simp [fillL, setN, Value.cells]; rfl)) ?_
          refine XA.next 19 rfl (by kernel_rfl) ?_
          (first | (refine xk_storeN 0 rfl rfl rfl (by kernel_rfl) (by simp [Value.cells, Value.oneCell']) (by simp [Value.cells]) ?_) | (refine xk_storeN 1 rfl rfl rfl (by kernel_rfl) (by simp [Value.cells, Value.oneCell']) (by simp [Value.cells]) ?_) | (refine xk_storeN 2 rfl rfl rfl (by kernel_rfl) (by simp [Value.cells, Value.oneCell']) (by simp [Value.cells]) ?_) | (refine xk_storeN 3 rfl rfl rfl (by kernel_rfl) (by simp [Value.cells, Value.oneCell']) (by simp [Value.cells]) ?_) | (refine xk_storeN 4 rfl rfl rfl (by kernel_rfl) (by simp [Value.cells, Value.oneCell']) (by simp [Value.cells]) ?_) | (refine xk_storeN 5 rfl rfl rfl (by kernel_rfl) (by simp [Value.cells, Value.oneCell']) (by simp [Value.cells]) ?_) | (refine xk_storeN 6 rfl rfl rfl (by kernel_rfl) (by simp [Value.cells, Value.oneCell']) (by simp [Value.cells]) ?_) | (refine xk_storeN 7 rfl rfl rfl (by kernel_rfl) (by simp [Value.cells, Value.oneCell']) (by simp [Value.cells]) ?_) | (refine xk_storeN 8 rfl rfl rfl (by kernel_rfl) (by simp [Value.cells, Value.oneCell']) (by simp [Value.cells]) ?_)); simp only [putN, Value.cells, List.set, List.take, List.drop, List.nil_append, List.append_nil, List.length_cons, List.length_nil, List.cons_append, Nat.reduceAdd]
          refine XA.bt ?_
          refine XA.done (by kernel_rfl) ?_
          refine XK.norm ?_
          exact XK.weak [1, 0, 2, 3, 4, 5] rfl (by decide) (fun _ h => h) (XK.envS [(10, .pointer (some ⟨g6, 0, none⟩)), (9, .int .i64 (10 + 3 * k)), (8, .int .i64 k), (3, .int .i64 1), (7, .string ⟨#[112, 100, 103, 109, 103]⟩), (6, .pointer (some ⟨g4, 0, none⟩)), (4, .slice (some ⟨g2, 0, none⟩) 120 120), (2, .pointer (some ⟨g1, 0, none⟩))] (XK.meet ⟨_, _, rfl, rfl, rfl⟩))

      rintro _ _ _ ⟨gC, gF, rfl, rfl, rfl⟩
      refine XK.asOwn 1 1 1 rfl rfl (by omega) ?_
      refine XK.cut (fun e R H => ∃ (cl : Clk) (Af : Option Addr) (cf gC : Nat), cl.fit cs.length ∧ e = [(10, .pointer (some ⟨gC, 0, none⟩)), (8, .int .i64 k), (3, .int .i64 1), (7, .string ⟨#[112, 100, 103, 109, 103]⟩), (6, .pointer (some ⟨g4, 0, none⟩)), (4, .slice (some ⟨g2, 0, none⟩) 120 120), (2, .pointer (some ⟨g1, 0, none⟩))] ∧ R = [q, all w] ∧ H = [HP.blk gC 55 [.int .u8 cl.kind, .slice Af cl.src.length cf, .int .u64 cl.rate, .int .i64 cl.mul, .int .i64 cl.div, .int .i64 cl.lock], HP.own 3 1 (.slice Af cl.src.length cf) cl.src.length (intCells cl.src), HP.blk g4 28 [.slice A1 cs.length c1, .slice none 0 0, .slice none 0 0, .slice none 0 0], HP.own 55 6 (.slice A1 cs.length c1) cs.length rows1.flatten, HP.blk g2 3 (intCells ds), HP.blk g1 28 [.slice none 0 0, .slice none 0 0, .slice none 0 0, .slice none 0 0]]) ?_ ?_
      ·
        refine XK.seq ?_

        refine XK.region ?_
        refine xk_field (off := 0) (by kernel_rfl) rfl (by decide) ?_
        refine xk_load (by kernel_rfl) rfl (by first | assumption | exact Rd.blk 0 rfl (dd _ (by omega)) | exact Rd.blk 1 rfl (dd _ (by omega)) | exact Rd.blk 2 rfl (dd _ (by omega)) | exact Rd.blk 3 rfl (dd _ (by omega)) | exact Rd.blk 4 rfl (dd _ (by omega)) | exact Rd.blk 5 rfl (dd _ (by omega)) | exact Rd.blk 6 rfl (dd _ (by omega)) | exact Rd.blk 7 rfl (dd _ (by omega)) | exact Rd.blk 8 rfl (dd _ (by omega)) | exact Rd.blk 9 rfl (dd _ (by omega)) | exact Rd.blk 0 rfl rfl | exact Rd.blk 1 rfl rfl | exact Rd.blk 2 rfl rfl | exact Rd.blk 3 rfl rfl | exact Rd.blk 4 rfl rfl | exact Rd.blk 5 rfl rfl | exact Rd.blk 6 rfl rfl | exact Rd.blk 7 rfl rfl | exact Rd.blk 8 rfl rfl | exact Rd.blk 9 rfl rfl) (by decide) ?_
        refine XK.nilN ?_
        refine XK.block ?_
        refine XK.seq ?_

        refine XK.region ?_
        refine xk_eql rfl rfl (by decide) ?_
        refine xk_assign rfl (by decide) ?_
        refine XK.nilN ?_
        refine XK.if_ rfl (fun h => ?_) (fun h => ?_)
        ·
          refine XK.seq ?_

          refine XK.region ?_
          refine xk_move rfl (by decide) ?_
          refine xk_move rfl (by decide) ?_
          refine xk_add rfl rfl (wrap_in (by omega)) (by decide) ?_
          refine xk_at (12 + 3 * k) (12 + 3 * k) (el := 3) (sz := 1) (by kernel_rfl) (by kernel_rfl) rfl rfl (by omega) (by omega) (by omega) (by decide) ?_
          refine xk_load (by kernel_rfl) rfl (by first | assumption | exact Rd.blk 0 rfl (dd _ (by omega)) | exact Rd.blk 1 rfl (dd _ (by omega)) | exact Rd.blk 2 rfl (dd _ (by omega)) | exact Rd.blk 3 rfl (dd _ (by omega)) | exact Rd.blk 4 rfl (dd _ (by omega)) | exact Rd.blk 5 rfl (dd _ (by omega)) | exact Rd.blk 6 rfl (dd _ (by omega)) | exact Rd.blk 7 rfl (dd _ (by omega)) | exact Rd.blk 8 rfl (dd _ (by omega)) | exact Rd.blk 9 rfl (dd _ (by omega)) | exact Rd.blk 0 rfl rfl | exact Rd.blk 1 rfl rfl | exact Rd.blk 2 rfl rfl | exact Rd.blk 3 rfl rfl | exact Rd.blk 4 rfl rfl | exact Rd.blk 5 rfl rfl | exact Rd.blk 6 rfl rfl | exact Rd.blk 7 rfl rfl | exact Rd.blk 8 rfl rfl | exact Rd.blk 9 rfl rfl) (by decide) ?_
          refine xk_rem rfl rfl (by omega) (rem_in (by omega)) (by decide) ?_
          refine xk_add rfl rfl (wrap_in (by omega)) (by decide) ?_
          refine xk_field (off := 3) (by kernel_rfl) rfl (by decide) ?_
          refine xk_st rfl rfl ?_; dsimp only [List.set]
          refine XK.nilN ?_
          refine XK.seq ?_

          refine XK.region ?_
          refine xk_move rfl (by decide) ?_
          refine xk_move rfl (by decide) ?_
          refine xk_add rfl rfl (wrap_in (by omega)) (by decide) ?_
          refine xk_at (12 + 3 * k) (12 + 3 * k) (el := 3) (sz := 1) (by kernel_rfl) (by kernel_rfl) rfl rfl (by omega) (by omega) (by omega) (by decide) ?_
          refine xk_load (by kernel_rfl) rfl (by first | assumption | exact Rd.blk 0 rfl (dd _ (by omega)) | exact Rd.blk 1 rfl (dd _ (by omega)) | exact Rd.blk 2 rfl (dd _ (by omega)) | exact Rd.blk 3 rfl (dd _ (by omega)) | exact Rd.blk 4 rfl (dd _ (by omega)) | exact Rd.blk 5 rfl (dd _ (by omega)) | exact Rd.blk 6 rfl (dd _ (by omega)) | exact Rd.blk 7 rfl (dd _ (by omega)) | exact Rd.blk 8 rfl (dd _ (by omega)) | exact Rd.blk 9 rfl (dd _ (by omega)) | exact Rd.blk 0 rfl rfl | exact Rd.blk 1 rfl rfl | exact Rd.blk 2 rfl rfl | exact Rd.blk 3 rfl rfl | exact Rd.blk 4 rfl rfl | exact Rd.blk 5 rfl rfl | exact Rd.blk 6 rfl rfl | exact Rd.blk 7 rfl rfl | exact Rd.blk 8 rfl rfl | exact Rd.blk 9 rfl rfl) (by decide) ?_
          refine xk_quo rfl rfl (by omega) (quo_in (by omega) (by omega) (by omega)) (by decide) ?_
          refine xk_rem rfl rfl (by omega) (rem_in (by omega)) (by decide) ?_
          refine xk_add rfl rfl (wrap_in (by omega)) (by decide) ?_
          refine xk_field (off := 4) (by kernel_rfl) rfl (by decide) ?_
          refine xk_st rfl rfl ?_; dsimp only [List.set]
          refine XK.nilN ?_

          refine XK.region ?_
          refine xk_move rfl (by decide) ?_
          refine xk_move rfl (by decide) ?_
          refine xk_add rfl rfl (wrap_in (by omega)) (by decide) ?_
          refine xk_at (12 + 3 * k) (12 + 3 * k) (el := 3) (sz := 1) (by kernel_rfl) (by kernel_rfl) rfl rfl (by omega) (by omega) (by omega) (by decide) ?_
          refine xk_load (by kernel_rfl) rfl (by first | assumption | exact Rd.blk 0 rfl (dd _ (by omega)) | exact Rd.blk 1 rfl (dd _ (by omega)) | exact Rd.blk 2 rfl (dd _ (by omega)) | exact Rd.blk 3 rfl (dd _ (by omega)) | exact Rd.blk 4 rfl (dd _ (by omega)) | exact Rd.blk 5 rfl (dd _ (by omega)) | exact Rd.blk 6 rfl (dd _ (by omega)) | exact Rd.blk 7 rfl (dd _ (by omega)) | exact Rd.blk 8 rfl (dd _ (by omega)) | exact Rd.blk 9 rfl (dd _ (by omega)) | exact Rd.blk 0 rfl rfl | exact Rd.blk 1 rfl rfl | exact Rd.blk 2 rfl rfl | exact Rd.blk 3 rfl rfl | exact Rd.blk 4 rfl rfl | exact Rd.blk 5 rfl rfl | exact Rd.blk 6 rfl rfl | exact Rd.blk 7 rfl rfl | exact Rd.blk 8 rfl rfl | exact Rd.blk 9 rfl rfl) (by decide) ?_
          refine xk_quo rfl rfl (by omega) (quo_in (by omega) (by omega) (by omega)) (by decide) ?_
          refine xk_rem rfl rfl (by omega) (rem_in (by omega)) (by decide) ?_
          refine xk_field (off := 5) (by kernel_rfl) rfl (by decide) ?_
          refine xk_st rfl rfl ?_; dsimp only [List.set]
          refine XK.nilN ?_
          exact XK.envS [(10, .pointer (some ⟨gC, 0, none⟩)), (8, .int .i64 k), (3, .int .i64 1), (7, .string ⟨#[112, 100, 103, 109, 103]⟩), (6, .pointer (some ⟨g4, 0, none⟩)), (4, .slice (some ⟨g2, 0, none⟩) 120 120), (2, .pointer (some ⟨g1, 0, none⟩))] (XK.meet ⟨⟨kb.toNat, [dv ds (11 + 3 * k) % cs.length], 0, 1 + dv ds (12 + 3 * k) % 8, 1 + dv ds (12 + 3 * k) / 8 % 4, dv ds (12 + 3 * k) / 32 % 4⟩, some ⟨gF, 0, none⟩, 1, gC, ⟨fun f hf => by simp at hf; subst hf; exact f0, .inr (.inl ⟨h, rfl, rfl, by dsimp only; omega, by dsimp only; omega, by dsimp only; omega, by dsimp only; omega, by dsimp only; omega, by dsimp only; omega⟩)⟩, rfl, rfl, rfl⟩)
        ·
          refine XK.seq ?_

          refine XK.region ?_
          refine xk_eql rfl rfl (by decide) ?_
          refine xk_assign rfl (by decide) ?_
          refine XK.nilN ?_
          refine XK.if_ rfl (fun h => ?_) (fun h => ?_)
          ·

            refine XK.region ?_
            refine xk_move rfl (by decide) ?_
            refine xk_move rfl (by decide) ?_
            refine xk_add rfl rfl (wrap_in (by omega)) (by decide) ?_
            refine xk_at (12 + 3 * k) (12 + 3 * k) (el := 3) (sz := 1) (by kernel_rfl) (by kernel_rfl) rfl rfl (by omega) (by omega) (by omega) (by decide) ?_
            refine xk_load (by kernel_rfl) rfl (by first | assumption | exact Rd.blk 0 rfl (dd _ (by omega)) | exact Rd.blk 1 rfl (dd _ (by omega)) | exact Rd.blk 2 rfl (dd _ (by omega)) | exact Rd.blk 3 rfl (dd _ (by omega)) | exact Rd.blk 4 rfl (dd _ (by omega)) | exact Rd.blk 5 rfl (dd _ (by omega)) | exact Rd.blk 6 rfl (dd _ (by omega)) | exact Rd.blk 7 rfl (dd _ (by omega)) | exact Rd.blk 8 rfl (dd _ (by omega)) | exact Rd.blk 9 rfl (dd _ (by omega)) | exact Rd.blk 0 rfl rfl | exact Rd.blk 1 rfl rfl | exact Rd.blk 2 rfl rfl | exact Rd.blk 3 rfl rfl | exact Rd.blk 4 rfl rfl | exact Rd.blk 5 rfl rfl | exact Rd.blk 6 rfl rfl | exact Rd.blk 7 rfl rfl | exact Rd.blk 8 rfl rfl | exact Rd.blk 9 rfl rfl) (by decide) ?_
            refine xk_rem rfl rfl (by omega) (rem_in (by omega)) (by decide) ?_
            refine xk_add rfl rfl (wrap_in (by omega)) (by decide) ?_
            refine xk_field (off := 4) (by kernel_rfl) rfl (by decide) ?_
            refine xk_st rfl rfl ?_; dsimp only [List.set]
            refine XK.nilN ?_
            exact XK.envS [(10, .pointer (some ⟨gC, 0, none⟩)), (8, .int .i64 k), (3, .int .i64 1), (7, .string ⟨#[112, 100, 103, 109, 103]⟩), (6, .pointer (some ⟨g4, 0, none⟩)), (4, .slice (some ⟨g2, 0, none⟩) 120 120), (2, .pointer (some ⟨g1, 0, none⟩))] (XK.meet ⟨⟨kb.toNat, [dv ds (11 + 3 * k) % cs.length], 0, 0, 1 + dv ds (12 + 3 * k) % 8, 0⟩, some ⟨gF, 0, none⟩, 1, gC, ⟨fun f hf => by simp at hf; subst hf; exact f0, .inr (.inr (.inl ⟨h, rfl, rfl, rfl, by dsimp only; omega, by dsimp only; omega, rfl⟩))⟩, rfl, rfl, rfl⟩)
          ·
            refine XK.seq ?_

            refine XK.region ?_
            refine xk_eql rfl rfl (by decide) ?_
            refine xk_assign rfl (by decide) ?_
            refine XK.nilN ?_
            refine XK.if_ rfl (fun h => ?_) (fun h => ?_)
            ·

              refine XK.draw 12 (by kernel_rfl) (by kernel_rfl) ?_
              refine XA.dA 0 rfl rfl rfl (does_field (off := 1) (by kernel_rfl) rfl) ?_
              refine XA.dA 1 rfl rfl rfl (does_load (by kernel_rfl) rfl (by first | assumption | exact Rd.blk 0 rfl (dd _ (by omega)) | exact Rd.blk 1 rfl (dd _ (by omega)) | exact Rd.blk 2 rfl (dd _ (by omega)) | exact Rd.blk 3 rfl (dd _ (by omega)) | exact Rd.blk 4 rfl (dd _ (by omega)) | exact Rd.blk 5 rfl (dd _ (by omega)) | exact Rd.blk 6 rfl (dd _ (by omega)) | exact Rd.blk 7 rfl (dd _ (by omega)) | exact Rd.blk 8 rfl (dd _ (by omega)) | exact Rd.blk 9 rfl (dd _ (by omega)) | exact Rd.blk 0 rfl rfl | exact Rd.blk 1 rfl rfl | exact Rd.blk 2 rfl rfl | exact Rd.blk 3 rfl rfl | exact Rd.blk 4 rfl rfl | exact Rd.blk 5 rfl rfl | exact Rd.blk 6 rfl rfl | exact Rd.blk 7 rfl rfl | exact Rd.blk 8 rfl rfl | exact Rd.blk 9 rfl rfl)) ?_
              refine XA.dA 2 rfl rfl rfl (does_move rfl) ?_
              refine XA.dA 3 rfl rfl rfl (does_move rfl) ?_
              refine XA.dA 4 rfl rfl rfl (does_add rfl rfl (wrap_in (by omega))) ?_
              refine XA.dA 5 rfl rfl rfl (does_at (12 + 3 * k) (12 + 3 * k) (el := 3) (sz := 1) (by kernel_rfl) (by kernel_rfl) rfl rfl (by omega) (by omega) (by omega)) ?_
              refine XA.dA 6 rfl rfl rfl (does_load (by kernel_rfl) rfl (by first | assumption | exact Rd.blk 0 rfl (dd _ (by omega)) | exact Rd.blk 1 rfl (dd _ (by omega)) | exact Rd.blk 2 rfl (dd _ (by omega)) | exact Rd.blk 3 rfl (dd _ (by omega)) | exact Rd.blk 4 rfl (dd _ (by omega)) | exact Rd.blk 5 rfl (dd _ (by omega)) | exact Rd.blk 6 rfl (dd _ (by omega)) | exact Rd.blk 7 rfl (dd _ (by omega)) | exact Rd.blk 8 rfl (dd _ (by omega)) | exact Rd.blk 9 rfl (dd _ (by omega)) | exact Rd.blk 0 rfl rfl | exact Rd.blk 1 rfl rfl | exact Rd.blk 2 rfl rfl | exact Rd.blk 3 rfl rfl | exact Rd.blk 4 rfl rfl | exact Rd.blk 5 rfl rfl | exact Rd.blk 6 rfl rfl | exact Rd.blk 7 rfl rfl | exact Rd.blk 8 rfl rfl | exact Rd.blk 9 rfl rfl)) ?_
              refine XA.dA 7 rfl rfl rfl (does_field (off := 0) (by kernel_rfl) rfl) ?_
              refine XA.dA 8 rfl rfl rfl (does_load (by kernel_rfl) rfl (by first | assumption | exact Rd.blk 0 rfl (dd _ (by omega)) | exact Rd.blk 1 rfl (dd _ (by omega)) | exact Rd.blk 2 rfl (dd _ (by omega)) | exact Rd.blk 3 rfl (dd _ (by omega)) | exact Rd.blk 4 rfl (dd _ (by omega)) | exact Rd.blk 5 rfl (dd _ (by omega)) | exact Rd.blk 6 rfl (dd _ (by omega)) | exact Rd.blk 7 rfl (dd _ (by omega)) | exact Rd.blk 8 rfl (dd _ (by omega)) | exact Rd.blk 9 rfl (dd _ (by omega)) | exact Rd.blk 0 rfl rfl | exact Rd.blk 1 rfl rfl | exact Rd.blk 2 rfl rfl | exact Rd.blk 3 rfl rfl | exact Rd.blk 4 rfl rfl | exact Rd.blk 5 rfl rfl | exact Rd.blk 6 rfl rfl | exact Rd.blk 7 rfl rfl | exact Rd.blk 8 rfl rfl | exact Rd.blk 9 rfl rfl)) ?_
              refine XA.dA 9 rfl rfl rfl (does_len (el := 55) (by kernel_rfl) rfl) ?_
              refine XA.dA 10 rfl rfl rfl (does_rem rfl rfl (by omega) (rem_in (by omega))) ?_
              refine XA.next 11 rfl (by kernel_rfl) ?_
              refine xk_slice (el := 3) (sz := 1) (zs := [.int .i64 0]) (by kernel_rfl) (zeroB_of (by kernel_rfl)) (by kernel_rfl) rfl (by decide) (by decide) rfl (by simp [fillL, setN, Value.cells, List.range_succ, List.set]; rfl) (by decide) fun g7 => ?_
              refine XA.bk ?_
              refine XA.next 12 rfl (by kernel_rfl) ?_
              refine xk_appendT 2 1 8 1 (n' := 2) (el := 3) (by kernel_rfl) (by kernel_rfl) (by decide) rfl rfl rfl (sl_blk 0 rfl rfl) (by simp [Value.oneCell']) rfl (by omega) (by omega) (by decide) fun Af cf => ?_
              refine XA.bt ?_
              refine XA.next 13 rfl (by kernel_rfl) ?_
              refine xk_field (off := 1) (by kernel_rfl) rfl (by decide) ?_
              refine XA.bt ?_
              refine XA.next 14 rfl (by kernel_rfl) ?_
              refine xk_st rfl rfl ?_; dsimp only [List.set]
              refine XA.bt ?_
              refine XA.done (by kernel_rfl) ?_
              refine XK.norm ?_
              exact XK.weak [1, 2, 3, 4, 5, 6] rfl (by decide) (fun _ h => h) (XK.envS [(10, .pointer (some ⟨gC, 0, none⟩)), (8, .int .i64 k), (3, .int .i64 1), (7, .string ⟨#[112, 100, 103, 109, 103]⟩), (6, .pointer (some ⟨g4, 0, none⟩)), (4, .slice (some ⟨g2, 0, none⟩) 120 120), (2, .pointer (some ⟨g1, 0, none⟩))] (XK.meet ⟨⟨kb.toNat, [dv ds (11 + 3 * k) % cs.length, dv ds (12 + 3 * k) % cs.length], 0, 0, 0, 0⟩, Af, cf, gC, ⟨fun f hf => by simp at hf; rcases hf with rfl | rfl; exact f0; exact f1, .inr (.inr (.inr (.inr ⟨h, rfl, rfl, rfl, rfl, rfl⟩)))⟩, rfl, rfl, rfl⟩))
            ·
              refine XK.skip ?_
              refine XK.norm ?_
              exact XK.envS [(10, .pointer (some ⟨gC, 0, none⟩)), (8, .int .i64 k), (3, .int .i64 1), (7, .string ⟨#[112, 100, 103, 109, 103]⟩), (6, .pointer (some ⟨g4, 0, none⟩)), (4, .slice (some ⟨g2, 0, none⟩) 120 120), (2, .pointer (some ⟨g1, 0, none⟩))] (XK.meet ⟨⟨kb.toNat, [dv ds (11 + 3 * k) % cs.length], 0, 0, 0, 0⟩, some ⟨gF, 0, none⟩, 1, gC, ⟨fun f hf => by simp at hf; subst hf; exact f0, .inr (.inr (.inr (.inl ⟨by dsimp only; omega, rfl, rfl, rfl, rfl, rfl⟩)))⟩, rfl, rfl, rfl⟩)
      rintro _ _ _ ⟨cl, Af, cf, gC, hclf, rfl, rfl, rfl⟩

      refine XK.region ?_
      refine xk_field (off := 0) (by kernel_rfl) rfl (by decide) ?_
      refine xk_load (by kernel_rfl) rfl (by first | assumption | exact Rd.blk 0 rfl (dd _ (by omega)) | exact Rd.blk 1 rfl (dd _ (by omega)) | exact Rd.blk 2 rfl (dd _ (by omega)) | exact Rd.blk 3 rfl (dd _ (by omega)) | exact Rd.blk 4 rfl (dd _ (by omega)) | exact Rd.blk 5 rfl (dd _ (by omega)) | exact Rd.blk 6 rfl (dd _ (by omega)) | exact Rd.blk 7 rfl (dd _ (by omega)) | exact Rd.blk 8 rfl (dd _ (by omega)) | exact Rd.blk 9 rfl (dd _ (by omega)) | exact Rd.blk 0 rfl rfl | exact Rd.blk 1 rfl rfl | exact Rd.blk 2 rfl rfl | exact Rd.blk 3 rfl rfl | exact Rd.blk 4 rfl rfl | exact Rd.blk 5 rfl rfl | exact Rd.blk 6 rfl rfl | exact Rd.blk 7 rfl rfl | exact Rd.blk 8 rfl rfl | exact Rd.blk 9 rfl rfl) (by decide) ?_
      refine xk_ldN 6 rfl ?_
      refine xk_slice (el := 55) (sz := 6) (zs := [.int .u8 0, .slice none 0 0, .int .u64 0, .int .i64 0, .int .i64 0, .int .i64 0]) (by kernel_rfl) (zeroB_of (by kernel_rfl)) (by kernel_rfl) rfl (by decide) (by decide) rfl (by simp [fillL, setN, Value.cells, List.range_succ, List.set]; rfl) (by decide) fun g8 => ?_
      refine xk_appendT 4 6 64 1 (n' := cs.length + 1) (el := 55) (by kernel_rfl) (by kernel_rfl) (by decide) rfl rfl rfl (sl_blk 0 rfl rfl) (by simp [Value.oneCell']) rfl (by omega) (by omega) (by decide) fun A1n c1n => ?_
      refine xk_field (off := 0) (by kernel_rfl) rfl (by decide) ?_
      refine xk_st rfl rfl ?_; dsimp only [List.set]
      refine XK.nilN ?_

      refine XK.region ?_
      refine xk_move rfl (by decide) ?_
      refine xk_add rfl rfl (wrap_in (by omega)) (by decide) ?_
      refine xk_assign rfl (by decide) ?_
      refine XK.nilN ?_
      refine XK.still [q] [2] [3, 4, 5, 6] (by simp) rfl (by decide) (by simp) fun q2 hqf hql hqn => ?_
      have hle := hql q (by simp)
      have hq2 := hqn (by simp) (by simp; exact hq)
      have hsl := SlS.own (hqf 2 _ (by simp) rfl)
      exact XK.weak [0, 1, 2, 3] rfl (by decide) (by simp) (XK.envS [(8, .int .i64 (k + 1)), (3, .int .i64 1), (7, .string ⟨#[112, 100, 103, 109, 103]⟩), (6, .pointer (some ⟨g4, 0, none⟩)), (4, .slice (some ⟨g2, 0, none⟩) 120 120), (2, .pointer (some ⟨g1, 0, none⟩))] (XK.round (9 - (k + 1)) (by omega) ⟨k + 1, cs ++ [cl], A1n, c1n, q2, rows1 ++ [_], by omega, rfl, by simp [hcl], hcf.snoc hclf, (hcr.mono (fun c r => ClkR.mono (slq_le hle))).snoc (r := [.int .u8 cl.kind, .slice Af cl.src.length cf, .int .u64 cl.rate, .int .i64 cl.mul, .int .i64 cl.div, .int .i64 cl.lock]) rfl ⟨Af, _, cf, rfl, rfl, hsl⟩, hq2, rfl, rfl, by simp⟩))
    ·
      refine XK.exit ?_
      refine XK.norm ?_
      exact XK.envS [(6, .pointer (some ⟨g4, 0, none⟩)), (4, .slice (some ⟨g2, 0, none⟩) 120 120), (2, .pointer (some ⟨g1, 0, none⟩))] (XK.meet ⟨cs, A1, c1, q, rows1, by omega, by omega, hcf, hcr, hq, rfl, rfl, rfl⟩)
  rintro _ _ _ ⟨cs, A1, c1, q, rows1, hc1, hc9, hcf, hcr, hq, rfl, rfl, rfl⟩
  have dd := hd.at_
  have b2 := hd.bd 2
  have b3 := hd.bd 3
  have b4 := hd.bd 4
  refine XK.cut (fun e R H => ∃ (dm : List Dom) (A2 : Option Addr) (c2 : Nat) (rows2 : List (List Value)), 1 ≤ dm.length ∧ dm.length ≤ 4 ∧ Fits Dom.fit dm ∧ Rows DomR 3 dm rows2 ∧ e = [(6, .pointer (some ⟨g4, 0, none⟩)), (4, .slice (some ⟨g2, 0, none⟩) 120 120), (2, .pointer (some ⟨g1, 0, none⟩))] ∧ R = [q, all w] ∧ H = [HP.blk g4 28 [.slice A1 cs.length c1, .slice A2 dm.length c2, .slice none 0 0, .slice none 0 0], HP.own 69 3 (.slice A2 dm.length c2) dm.length rows2.flatten, HP.own 55 6 (.slice A1 cs.length c1) cs.length rows1.flatten, HP.blk g2 3 (intCells ds), HP.blk g1 28 [.slice none 0 0, .slice none 0 0, .slice none 0 0, .slice none 0 0]]) ?_ ?_
  ·
    refine XK.seq ?_

    refine XK.region ?_
    refine xk_assign rfl (by decide) ?_
    refine XK.nilN ?_
    refine XK.nilrow 69 3 ?_
    refine XK.weak [1, 0, 2, 3, 4] rfl (by decide) (fun _ h => h) ?_
    refine XK.envS [(11, .int .i64 0), (6, .pointer (some ⟨g4, 0, none⟩)), (4, .slice (some ⟨g2, 0, none⟩) 120 120), (2, .pointer (some ⟨g1, 0, none⟩))] ?_
    refine XK.block ?_
    refine XK.loop (fun m e R H => ∃ (dm : List Dom) (A2 : Option Addr) (c2 : Nat) (rows2 : List (List Value)), (dm.length : Int) ≤ 1 + dv ds 2 % 4 ∧ m = 5 - dm.length ∧ Fits Dom.fit dm ∧ Rows DomR 3 dm rows2 ∧ e = [(11, .int .i64 dm.length), (6, .pointer (some ⟨g4, 0, none⟩)), (4, .slice (some ⟨g2, 0, none⟩) 120 120), (2, .pointer (some ⟨g1, 0, none⟩))] ∧ R = [q, all w] ∧ H = [HP.blk g4 28 [.slice A1 cs.length c1, .slice A2 dm.length c2, .slice none 0 0, .slice none 0 0], HP.own 69 3 (.slice A2 dm.length c2) dm.length rows2.flatten, HP.own 55 6 (.slice A1 cs.length c1) cs.length rows1.flatten, HP.blk g2 3 (intCells ds), HP.blk g1 28 [.slice none 0 0, .slice none 0 0, .slice none 0 0, .slice none 0 0]]) 5 ⟨[], none, 0, [], by simp; omega, rfl, Fits.nil _, trivial, rfl, rfl, rfl⟩ fun m e R H hI => ?_
    obtain ⟨dm, A2, c2, rows2, hk, rfl, hdf, hdr, rfl, rfl, rfl⟩ := hI
    refine XK.seq ?_
    refine XK.seq ?_

    refine XK.region ?_
    refine xk_move rfl (by decide) ?_
    refine xk_move rfl (by decide) ?_
    refine xk_at 2 2 (el := 3) (sz := 1) (by kernel_rfl) (by kernel_rfl) rfl rfl (by rfl) (by omega) (by omega) (by decide) ?_
    refine xk_load (by kernel_rfl) rfl (by first | assumption | exact Rd.blk 0 rfl (dd _ (by omega)) | exact Rd.blk 1 rfl (dd _ (by omega)) | exact Rd.blk 2 rfl (dd _ (by omega)) | exact Rd.blk 3 rfl (dd _ (by omega)) | exact Rd.blk 4 rfl (dd _ (by omega)) | exact Rd.blk 5 rfl (dd _ (by omega)) | exact Rd.blk 6 rfl (dd _ (by omega)) | exact Rd.blk 7 rfl (dd _ (by omega)) | exact Rd.blk 8 rfl (dd _ (by omega)) | exact Rd.blk 9 rfl (dd _ (by omega)) | exact Rd.blk 0 rfl rfl | exact Rd.blk 1 rfl rfl | exact Rd.blk 2 rfl rfl | exact Rd.blk 3 rfl rfl | exact Rd.blk 4 rfl rfl | exact Rd.blk 5 rfl rfl | exact Rd.blk 6 rfl rfl | exact Rd.blk 7 rfl rfl | exact Rd.blk 8 rfl rfl | exact Rd.blk 9 rfl rfl) (by decide) ?_
    refine xk_rem rfl rfl (by omega) (rem_in (by omega)) (by decide) ?_
    refine xk_add rfl rfl (wrap_in (by omega)) (by decide) ?_
    refine xk_lss rfl rfl (by decide) ?_
    refine XK.nilN ?_
    refine XK.if_ rfl (fun h => ?_) (fun h => ?_)
    ·
      refine XK.skip ?_
      refine XK.norm ?_
      refine XK.seq ?_
      refine XK.block ?_
      refine XK.seq ?_

      have hk2 : dm.length < 4 := by omega
      have p1 := hd.bd (40 + dm.length)
      have p2 := hd.bd (44 + dm.length)
      refine XK.draw 16 (by kernel_rfl) (by kernel_rfl) ?_
      refine XA.dA 0 rfl rfl rfl (does_move rfl) ?_
      refine XA.dA 1 rfl rfl rfl (does_move rfl) ?_
      refine XA.dA 2 rfl rfl rfl (does_add rfl rfl (wrap_in (by omega))) ?_
      refine XA.dA 3 rfl rfl rfl (does_at (40 + dm.length) (40 + dm.length) (el := 3) (sz := 1) (by kernel_rfl) (by kernel_rfl) rfl rfl (by omega) (by omega) (by omega)) ?_
      refine XA.dA 4 rfl rfl rfl (does_load (by kernel_rfl) rfl (by first | assumption | exact Rd.blk 0 rfl (dd _ (by omega)) | exact Rd.blk 1 rfl (dd _ (by omega)) | exact Rd.blk 2 rfl (dd _ (by omega)) | exact Rd.blk 3 rfl (dd _ (by omega)) | exact Rd.blk 4 rfl (dd _ (by omega)) | exact Rd.blk 5 rfl (dd _ (by omega)) | exact Rd.blk 6 rfl (dd _ (by omega)) | exact Rd.blk 7 rfl (dd _ (by omega)) | exact Rd.blk 8 rfl (dd _ (by omega)) | exact Rd.blk 9 rfl (dd _ (by omega)) | exact Rd.blk 0 rfl rfl | exact Rd.blk 1 rfl rfl | exact Rd.blk 2 rfl rfl | exact Rd.blk 3 rfl rfl | exact Rd.blk 4 rfl rfl | exact Rd.blk 5 rfl rfl | exact Rd.blk 6 rfl rfl | exact Rd.blk 7 rfl rfl | exact Rd.blk 8 rfl rfl | exact Rd.blk 9 rfl rfl)) ?_
      refine XA.dA 5 rfl rfl rfl (does_rem rfl rfl (by omega) (rem_in (by omega))) ?_
      refine XA.dA 6 rfl rfl rfl (does_move rfl) ?_
      refine XA.dA 7 rfl rfl rfl (does_move rfl) ?_
      refine XA.dA 8 rfl rfl rfl (does_add rfl rfl (wrap_in (by omega))) ?_
      refine XA.dA 9 rfl rfl rfl (does_at (40 + dm.length) (40 + dm.length) (el := 3) (sz := 1) (by kernel_rfl) (by kernel_rfl) rfl rfl (by omega) (by omega) (by omega)) ?_
      refine XA.dA 10 rfl rfl rfl (does_load (by kernel_rfl) rfl (by first | assumption | exact Rd.blk 0 rfl (dd _ (by omega)) | exact Rd.blk 1 rfl (dd _ (by omega)) | exact Rd.blk 2 rfl (dd _ (by omega)) | exact Rd.blk 3 rfl (dd _ (by omega)) | exact Rd.blk 4 rfl (dd _ (by omega)) | exact Rd.blk 5 rfl (dd _ (by omega)) | exact Rd.blk 6 rfl (dd _ (by omega)) | exact Rd.blk 7 rfl (dd _ (by omega)) | exact Rd.blk 8 rfl (dd _ (by omega)) | exact Rd.blk 9 rfl (dd _ (by omega)) | exact Rd.blk 0 rfl rfl | exact Rd.blk 1 rfl rfl | exact Rd.blk 2 rfl rfl | exact Rd.blk 3 rfl rfl | exact Rd.blk 4 rfl rfl | exact Rd.blk 5 rfl rfl | exact Rd.blk 6 rfl rfl | exact Rd.blk 7 rfl rfl | exact Rd.blk 8 rfl rfl | exact Rd.blk 9 rfl rfl)) ?_
      refine XA.dA 11 rfl rfl rfl (does_quo rfl rfl (by omega) (quo_in (by omega) (by omega) (by omega))) ?_
      refine XA.dA 12 rfl rfl rfl (does_rem rfl rfl (by omega) (rem_in (by omega))) ?_
      refine XA.dA 13 rfl rfl rfl (does_eql rfl rfl) ?_
      refine XA.dA 14 rfl rfl rfl (does_buildS (zs := [.int .i64 0, .int .i64 0, .bool false]) (L := [(0, 1), (1, 1), (2, 1)]) (zeroB_of (by kernel_rfl)) (by kernel_rfl) rfl (by simp [fillL, setN, Value.cells]; rfl)) ?_
      refine XA.next 15 rfl (by kernel_rfl) ?_
      refine xk_alloc (cs := [.int .i64 0, .int .i64 0, .bool false]) (zeroB_of (by kernel_rfl)) (by decide) fun g9 => ?_
      refine XA.bk ?_
      refine XA.next 16 rfl (by kernel_rfl) ?_
      (first | (refine xk_storeN 0 rfl rfl rfl (by kernel_rfl) (by simp [Value.cells, Value.oneCell']) (by simp [Value.cells]) ?_) | (refine xk_storeN 1 rfl rfl rfl (by kernel_rfl) (by simp [Value.cells, Value.oneCell']) (by simp [Value.cells]) ?_) | (refine xk_storeN 2 rfl rfl rfl (by kernel_rfl) (by simp [Value.cells, Value.oneCell']) (by simp [Value.cells]) ?_) | (refine xk_storeN 3 rfl rfl rfl (by kernel_rfl) (by simp [Value.cells, Value.oneCell']) (by simp [Value.cells]) ?_) | (refine xk_storeN 4 rfl rfl rfl (by kernel_rfl) (by simp [Value.cells, Value.oneCell']) (by simp [Value.cells]) ?_) | (refine xk_storeN 5 rfl rfl rfl (by kernel_rfl) (by simp [Value.cells, Value.oneCell']) (by simp [Value.cells]) ?_) | (refine xk_storeN 6 rfl rfl rfl (by kernel_rfl) (by simp [Value.cells, Value.oneCell']) (by simp [Value.cells]) ?_) | (refine xk_storeN 7 rfl rfl rfl (by kernel_rfl) (by simp [Value.cells, Value.oneCell']) (by simp [Value.cells]) ?_) | (refine xk_storeN 8 rfl rfl rfl (by kernel_rfl) (by simp [Value.cells, Value.oneCell']) (by simp [Value.cells]) ?_)); simp only [putN, Value.cells, List.set, List.take, List.drop, List.nil_append, List.append_nil, List.length_cons, List.length_nil, List.cons_append, Nat.reduceAdd]
      refine XA.bt ?_
      refine XA.done (by kernel_rfl) ?_
      refine XK.norm ?_
      refine XK.cut (fun e R H => ∃ ab : Int, (ab = -1 ∨ (0 ≤ ab ∧ ab < dm.length)) ∧ e = [(12, .pointer (some ⟨g9, 0, none⟩)), (11, .int .i64 dm.length), (6, .pointer (some ⟨g4, 0, none⟩)), (4, .slice (some ⟨g2, 0, none⟩) 120 120), (2, .pointer (some ⟨g1, 0, none⟩))] ∧ R = [q, all w] ∧ H = [HP.blk g9 69 [.int .i64 ab, .int .i64 (dv ds (40 + dm.length) % 4), .bool (decide (dv ds (40 + dm.length) / 4 % 2 = 1))], HP.blk g4 28 [.slice A1 cs.length c1, .slice A2 dm.length c2, .slice none 0 0, .slice none 0 0], HP.own 69 3 (.slice A2 dm.length c2) dm.length rows2.flatten, HP.own 55 6 (.slice A1 cs.length c1) cs.length rows1.flatten, HP.blk g2 3 (intCells ds), HP.blk g1 28 [.slice none 0 0, .slice none 0 0, .slice none 0 0, .slice none 0 0]]) ?_ ?_
      ·
        refine XK.seq ?_

        refine XK.region ?_
        refine xk_move rfl (by decide) ?_
        refine xk_gtr rfl rfl (by decide) ?_
        refine xk_move rfl (by decide) ?_
        refine xk_split (t := 172) rfl (fun hg => ?_) (fun hg => ?_)
        ·
          refine xk_guardT rfl rfl ?_; refine xk_move rfl (by decide) ?_
          refine xk_guardT rfl rfl ?_; refine xk_move rfl (by decide) ?_
          refine xk_guardT rfl rfl ?_; refine xk_add rfl rfl (wrap_in (by omega)) (by decide) ?_
          refine xk_guardT rfl rfl ?_; refine xk_at (44 + dm.length) (44 + dm.length) (el := 3) (sz := 1) (by kernel_rfl) (by kernel_rfl) rfl rfl (by omega) (by omega) (by omega) (by decide) ?_
          refine xk_guardT rfl rfl ?_; refine xk_load (by kernel_rfl) rfl (by first | assumption | exact Rd.blk 0 rfl (dd _ (by omega)) | exact Rd.blk 1 rfl (dd _ (by omega)) | exact Rd.blk 2 rfl (dd _ (by omega)) | exact Rd.blk 3 rfl (dd _ (by omega)) | exact Rd.blk 4 rfl (dd _ (by omega)) | exact Rd.blk 5 rfl (dd _ (by omega)) | exact Rd.blk 6 rfl (dd _ (by omega)) | exact Rd.blk 7 rfl (dd _ (by omega)) | exact Rd.blk 8 rfl (dd _ (by omega)) | exact Rd.blk 9 rfl (dd _ (by omega)) | exact Rd.blk 0 rfl rfl | exact Rd.blk 1 rfl rfl | exact Rd.blk 2 rfl rfl | exact Rd.blk 3 rfl rfl | exact Rd.blk 4 rfl rfl | exact Rd.blk 5 rfl rfl | exact Rd.blk 6 rfl rfl | exact Rd.blk 7 rfl rfl | exact Rd.blk 8 rfl rfl | exact Rd.blk 9 rfl rfl) (by decide) ?_
          refine xk_guardT rfl rfl ?_; refine xk_rem rfl rfl (by omega) (rem_in (by omega)) (by decide) ?_
          refine xk_guardT rfl rfl ?_; refine xk_gtr rfl rfl (by decide) ?_
          (first | refine xk_pickT rfl rfl (by decide) ?_ | refine xk_pickF rfl rfl (by decide) ?_)
          refine XK.nilN ?_
          refine XK.if_ rfl (fun h => ?_) (fun h => ?_)
          ·

            refine XK.region ?_
            refine xk_move rfl (by decide) ?_
            refine xk_move rfl (by decide) ?_
            refine xk_add rfl rfl (wrap_in (by omega)) (by decide) ?_
            refine xk_at (44 + dm.length) (44 + dm.length) (el := 3) (sz := 1) (by kernel_rfl) (by kernel_rfl) rfl rfl (by omega) (by omega) (by omega) (by decide) ?_
            refine xk_load (by kernel_rfl) rfl (by first | assumption | exact Rd.blk 0 rfl (dd _ (by omega)) | exact Rd.blk 1 rfl (dd _ (by omega)) | exact Rd.blk 2 rfl (dd _ (by omega)) | exact Rd.blk 3 rfl (dd _ (by omega)) | exact Rd.blk 4 rfl (dd _ (by omega)) | exact Rd.blk 5 rfl (dd _ (by omega)) | exact Rd.blk 6 rfl (dd _ (by omega)) | exact Rd.blk 7 rfl (dd _ (by omega)) | exact Rd.blk 8 rfl (dd _ (by omega)) | exact Rd.blk 9 rfl (dd _ (by omega)) | exact Rd.blk 0 rfl rfl | exact Rd.blk 1 rfl rfl | exact Rd.blk 2 rfl rfl | exact Rd.blk 3 rfl rfl | exact Rd.blk 4 rfl rfl | exact Rd.blk 5 rfl rfl | exact Rd.blk 6 rfl rfl | exact Rd.blk 7 rfl rfl | exact Rd.blk 8 rfl rfl | exact Rd.blk 9 rfl rfl) (by decide) ?_
            refine xk_quo rfl rfl (by omega) (quo_in (by omega) (by omega) (by omega)) (by decide) ?_
            refine xk_move rfl (by decide) ?_
            refine xk_rem rfl rfl (by omega) (rem_in (by omega)) (by decide) ?_
            refine xk_field (off := 0) (by kernel_rfl) rfl (by decide) ?_
            refine xk_st rfl rfl ?_; dsimp only [List.set]
            refine XK.nilN ?_
            exact XK.envS [(12, .pointer (some ⟨g9, 0, none⟩)), (11, .int .i64 dm.length), (6, .pointer (some ⟨g4, 0, none⟩)), (4, .slice (some ⟨g2, 0, none⟩) 120 120), (2, .pointer (some ⟨g1, 0, none⟩))] (XK.meet ⟨dv ds (44 + dm.length) / 3 % dm.length, .inr (emod_bd _ hg), rfl, rfl, rfl⟩)
          ·
            refine XK.skip ?_
            refine XK.norm ?_
            exact XK.envS [(12, .pointer (some ⟨g9, 0, none⟩)), (11, .int .i64 dm.length), (6, .pointer (some ⟨g4, 0, none⟩)), (4, .slice (some ⟨g2, 0, none⟩) 120 120), (2, .pointer (some ⟨g1, 0, none⟩))] (XK.meet ⟨-1, .inl rfl, rfl, rfl, rfl⟩)
        ·
          refine xk_guardF rfl rfl rfl (by decide) ?_
          refine xk_guardF rfl rfl rfl (by decide) ?_
          refine xk_guardF rfl rfl rfl (by decide) ?_
          refine xk_guardF rfl rfl rfl (by decide) ?_
          refine xk_guardF rfl rfl rfl (by decide) ?_
          refine xk_guardF rfl rfl rfl (by decide) ?_
          refine xk_guardF rfl rfl rfl (by decide) ?_
          (first | refine xk_pickT rfl rfl (by decide) ?_ | refine xk_pickF rfl rfl (by decide) ?_)
          refine XK.nilN ?_
          refine XK.cond rfl (fun h => by cases h) (fun _ => ?_)
          refine XK.skip ?_
          refine XK.norm ?_
          exact XK.envS [(12, .pointer (some ⟨g9, 0, none⟩)), (11, .int .i64 dm.length), (6, .pointer (some ⟨g4, 0, none⟩)), (4, .slice (some ⟨g2, 0, none⟩) 120 120), (2, .pointer (some ⟨g1, 0, none⟩))] (XK.meet ⟨-1, .inl rfl, rfl, rfl, rfl⟩)
      rintro _ _ _ ⟨ab, hab, rfl, rfl, rfl⟩

      refine XK.region ?_
      refine xk_field (off := 1) (by kernel_rfl) rfl (by decide) ?_
      refine xk_load (by kernel_rfl) rfl (by first | assumption | exact Rd.blk 0 rfl (dd _ (by omega)) | exact Rd.blk 1 rfl (dd _ (by omega)) | exact Rd.blk 2 rfl (dd _ (by omega)) | exact Rd.blk 3 rfl (dd _ (by omega)) | exact Rd.blk 4 rfl (dd _ (by omega)) | exact Rd.blk 5 rfl (dd _ (by omega)) | exact Rd.blk 6 rfl (dd _ (by omega)) | exact Rd.blk 7 rfl (dd _ (by omega)) | exact Rd.blk 8 rfl (dd _ (by omega)) | exact Rd.blk 9 rfl (dd _ (by omega)) | exact Rd.blk 0 rfl rfl | exact Rd.blk 1 rfl rfl | exact Rd.blk 2 rfl rfl | exact Rd.blk 3 rfl rfl | exact Rd.blk 4 rfl rfl | exact Rd.blk 5 rfl rfl | exact Rd.blk 6 rfl rfl | exact Rd.blk 7 rfl rfl | exact Rd.blk 8 rfl rfl | exact Rd.blk 9 rfl rfl) (by decide) ?_
      refine xk_ldN 3 rfl ?_
      refine xk_slice (el := 69) (sz := 3) (zs := [.int .i64 0, .int .i64 0, .bool false]) (by kernel_rfl) (zeroB_of (by kernel_rfl)) (by kernel_rfl) rfl (by decide) (by decide) rfl (by simp [fillL, setN, Value.cells, List.range_succ, List.set]; rfl) (by decide) fun g10 => ?_
      refine xk_appendT 3 3 24 1 (n' := dm.length + 1) (el := 69) (by kernel_rfl) (by kernel_rfl) (by decide) rfl rfl rfl (sl_blk 0 rfl rfl) (by simp [Value.oneCell']) rfl (by omega) (by omega) (by decide) fun A2n c2n => ?_
      refine xk_field (off := 1) (by kernel_rfl) rfl (by decide) ?_
      refine xk_st rfl rfl ?_; dsimp only [List.set]
      refine XK.nilN ?_

      refine XK.region ?_
      refine xk_move rfl (by decide) ?_
      refine xk_add rfl rfl (wrap_in (by omega)) (by decide) ?_
      refine xk_assign rfl (by decide) ?_
      refine XK.nilN ?_
      exact XK.weak [2, 3, 4, 5, 6] rfl (by decide) (fun _ h => h) (XK.envS [(11, .int .i64 (dm.length + 1)), (6, .pointer (some ⟨g4, 0, none⟩)), (4, .slice (some ⟨g2, 0, none⟩) 120 120), (2, .pointer (some ⟨g1, 0, none⟩))] (XK.round (5 - (dm.length + 1)) (by omega) ⟨dm ++ [⟨ab, dv ds (40 + dm.length) % 4, decide (dv ds (40 + dm.length) / 4 % 2 = 1)⟩], A2n, c2n, rows2 ++ [_], by simp; omega, by simp, hdf.snoc ⟨hab, by dsimp only; omega, by dsimp only; omega⟩, hdr.snoc (r := [.int .i64 ab, .int .i64 (dv ds (40 + dm.length) % 4), .bool (decide (dv ds (40 + dm.length) / 4 % 2 = 1))]) rfl rfl, by simp, rfl, by simp⟩))
    ·
      refine XK.exit ?_
      refine XK.norm ?_
      exact XK.envS [(6, .pointer (some ⟨g4, 0, none⟩)), (4, .slice (some ⟨g2, 0, none⟩) 120 120), (2, .pointer (some ⟨g1, 0, none⟩))] (XK.meet ⟨dm, A2, c2, rows2, by omega, by omega, hdf, hdr, rfl, rfl, rfl⟩)
  rintro _ _ _ ⟨dm, A2, c2, rows2, hd1, hd4, hdf, hdr, rfl, rfl, rfl⟩
  refine XK.cut (fun e R H => ∃ (rs : List Int) (A3 : Option Addr) (c3 : Nat) (rows3 : List (List Value)), 1 ≤ rs.length ∧ rs.length ≤ 3 ∧ (∀ r ∈ rs, 0 ≤ r ∧ r ≤ 3) ∧ Rows RstR 1 rs rows3 ∧ e = [(6, .pointer (some ⟨g4, 0, none⟩)), (4, .slice (some ⟨g2, 0, none⟩) 120 120), (2, .pointer (some ⟨g1, 0, none⟩))] ∧ R = [q, all w] ∧ H = [HP.blk g4 28 [.slice A1 cs.length c1, .slice A2 dm.length c2, .slice A3 rs.length c3, .slice none 0 0], HP.own 71 1 (.slice A3 rs.length c3) rs.length rows3.flatten, HP.own 69 3 (.slice A2 dm.length c2) dm.length rows2.flatten, HP.own 55 6 (.slice A1 cs.length c1) cs.length rows1.flatten, HP.blk g2 3 (intCells ds), HP.blk g1 28 [.slice none 0 0, .slice none 0 0, .slice none 0 0, .slice none 0 0]]) ?_ ?_
  ·
    refine XK.seq ?_

    refine XK.region ?_
    refine xk_assign rfl (by decide) ?_
    refine XK.nilN ?_
    refine XK.nilrow 71 1 ?_
    refine XK.weak [1, 0, 2, 3, 4, 5] rfl (by decide) (fun _ h => h) ?_
    refine XK.envS [(13, .int .i64 0), (6, .pointer (some ⟨g4, 0, none⟩)), (4, .slice (some ⟨g2, 0, none⟩) 120 120), (2, .pointer (some ⟨g1, 0, none⟩))] ?_
    refine XK.block ?_
    refine XK.loop (fun m e R H => ∃ (rs : List Int) (A3 : Option Addr) (c3 : Nat) (rows3 : List (List Value)), (rs.length : Int) ≤ 1 + dv ds 3 % 3 ∧ m = 4 - rs.length ∧ (∀ r ∈ rs, 0 ≤ r ∧ r ≤ 3) ∧ Rows RstR 1 rs rows3 ∧ e = [(13, .int .i64 rs.length), (6, .pointer (some ⟨g4, 0, none⟩)), (4, .slice (some ⟨g2, 0, none⟩) 120 120), (2, .pointer (some ⟨g1, 0, none⟩))] ∧ R = [q, all w] ∧ H = [HP.blk g4 28 [.slice A1 cs.length c1, .slice A2 dm.length c2, .slice A3 rs.length c3, .slice none 0 0], HP.own 71 1 (.slice A3 rs.length c3) rs.length rows3.flatten, HP.own 69 3 (.slice A2 dm.length c2) dm.length rows2.flatten, HP.own 55 6 (.slice A1 cs.length c1) cs.length rows1.flatten, HP.blk g2 3 (intCells ds), HP.blk g1 28 [.slice none 0 0, .slice none 0 0, .slice none 0 0, .slice none 0 0]]) 4 ⟨[], none, 0, [], by simp; omega, rfl, by simp, trivial, rfl, rfl, rfl⟩ fun m e R H hI => ?_
    obtain ⟨rs, A3, c3, rows3, hk, rfl, hrf, hrr, rfl, rfl, rfl⟩ := hI
    refine XK.seq ?_
    refine XK.seq ?_

    refine XK.region ?_
    refine xk_move rfl (by decide) ?_
    refine xk_move rfl (by decide) ?_
    refine xk_at 3 3 (el := 3) (sz := 1) (by kernel_rfl) (by kernel_rfl) rfl rfl (by rfl) (by omega) (by omega) (by decide) ?_
    refine xk_load (by kernel_rfl) rfl (by first | assumption | exact Rd.blk 0 rfl (dd _ (by omega)) | exact Rd.blk 1 rfl (dd _ (by omega)) | exact Rd.blk 2 rfl (dd _ (by omega)) | exact Rd.blk 3 rfl (dd _ (by omega)) | exact Rd.blk 4 rfl (dd _ (by omega)) | exact Rd.blk 5 rfl (dd _ (by omega)) | exact Rd.blk 6 rfl (dd _ (by omega)) | exact Rd.blk 7 rfl (dd _ (by omega)) | exact Rd.blk 8 rfl (dd _ (by omega)) | exact Rd.blk 9 rfl (dd _ (by omega)) | exact Rd.blk 0 rfl rfl | exact Rd.blk 1 rfl rfl | exact Rd.blk 2 rfl rfl | exact Rd.blk 3 rfl rfl | exact Rd.blk 4 rfl rfl | exact Rd.blk 5 rfl rfl | exact Rd.blk 6 rfl rfl | exact Rd.blk 7 rfl rfl | exact Rd.blk 8 rfl rfl | exact Rd.blk 9 rfl rfl) (by decide) ?_
    refine xk_rem rfl rfl (by omega) (rem_in (by omega)) (by decide) ?_
    refine xk_add rfl rfl (wrap_in (by omega)) (by decide) ?_
    refine xk_lss rfl rfl (by decide) ?_
    refine XK.nilN ?_
    refine XK.if_ rfl (fun h => ?_) (fun h => ?_)
    ·
      refine XK.skip ?_
      refine XK.norm ?_
      refine XK.seq ?_
      refine XK.block ?_

      have hk2 : rs.length < 3 := by omega
      have p1 := hd.bd (50 + rs.length)
      refine XK.draw 10 (by kernel_rfl) (by kernel_rfl) ?_
      refine XA.dA 0 rfl rfl rfl (does_field (off := 2) (by kernel_rfl) rfl) ?_
      refine XA.dA 1 rfl rfl rfl (does_load (by kernel_rfl) rfl (by first | assumption | exact Rd.blk 0 rfl (dd _ (by omega)) | exact Rd.blk 1 rfl (dd _ (by omega)) | exact Rd.blk 2 rfl (dd _ (by omega)) | exact Rd.blk 3 rfl (dd _ (by omega)) | exact Rd.blk 4 rfl (dd _ (by omega)) | exact Rd.blk 5 rfl (dd _ (by omega)) | exact Rd.blk 6 rfl (dd _ (by omega)) | exact Rd.blk 7 rfl (dd _ (by omega)) | exact Rd.blk 8 rfl (dd _ (by omega)) | exact Rd.blk 9 rfl (dd _ (by omega)) | exact Rd.blk 0 rfl rfl | exact Rd.blk 1 rfl rfl | exact Rd.blk 2 rfl rfl | exact Rd.blk 3 rfl rfl | exact Rd.blk 4 rfl rfl | exact Rd.blk 5 rfl rfl | exact Rd.blk 6 rfl rfl | exact Rd.blk 7 rfl rfl | exact Rd.blk 8 rfl rfl | exact Rd.blk 9 rfl rfl)) ?_
      refine XA.dA 2 rfl rfl rfl (does_move rfl) ?_
      refine XA.dA 3 rfl rfl rfl (does_move rfl) ?_
      refine XA.dA 4 rfl rfl rfl (does_add rfl rfl (wrap_in (by omega))) ?_
      refine XA.dA 5 rfl rfl rfl (does_at (50 + rs.length) (50 + rs.length) (el := 3) (sz := 1) (by kernel_rfl) (by kernel_rfl) rfl rfl (by omega) (by omega) (by omega)) ?_
      refine XA.dA 6 rfl rfl rfl (does_load (by kernel_rfl) rfl (by first | assumption | exact Rd.blk 0 rfl (dd _ (by omega)) | exact Rd.blk 1 rfl (dd _ (by omega)) | exact Rd.blk 2 rfl (dd _ (by omega)) | exact Rd.blk 3 rfl (dd _ (by omega)) | exact Rd.blk 4 rfl (dd _ (by omega)) | exact Rd.blk 5 rfl (dd _ (by omega)) | exact Rd.blk 6 rfl (dd _ (by omega)) | exact Rd.blk 7 rfl (dd _ (by omega)) | exact Rd.blk 8 rfl (dd _ (by omega)) | exact Rd.blk 9 rfl (dd _ (by omega)) | exact Rd.blk 0 rfl rfl | exact Rd.blk 1 rfl rfl | exact Rd.blk 2 rfl rfl | exact Rd.blk 3 rfl rfl | exact Rd.blk 4 rfl rfl | exact Rd.blk 5 rfl rfl | exact Rd.blk 6 rfl rfl | exact Rd.blk 7 rfl rfl | exact Rd.blk 8 rfl rfl | exact Rd.blk 9 rfl rfl)) ?_
      refine XA.dA 7 rfl rfl rfl (does_rem rfl rfl (by omega) (rem_in (by omega))) ?_
      refine XA.dA 8 rfl rfl rfl (does_buildS (zs := [.int .i64 0]) (L := [(0, 1)]) (zeroB_of (by kernel_rfl)) (by kernel_rfl) rfl (by simp [fillL, setN, Value.cells]; rfl)) ?_
      refine XA.next 9 rfl (by kernel_rfl) ?_
      refine xk_slice (el := 71) (sz := 1) (zs := [.int .i64 0]) (by kernel_rfl) (zeroB_of (by kernel_rfl)) (by kernel_rfl) rfl (by decide) (by decide) rfl (by simp [fillL, setN, Value.cells, List.range_succ, List.set]; rfl) (by decide) fun g11 => ?_
      refine XA.bk ?_
      refine XA.next 10 rfl (by kernel_rfl) ?_
      refine xk_appendT 2 1 8 1 (n' := rs.length + 1) (el := 71) (by kernel_rfl) (by kernel_rfl) (by decide) rfl rfl rfl (sl_blk 0 rfl rfl) (by simp [Value.oneCell']) rfl (by omega) (by omega) (by decide) fun A3n c3n => ?_
      refine XA.bt ?_
      refine XA.next 11 rfl (by kernel_rfl) ?_
      refine xk_field (off := 2) (by kernel_rfl) rfl (by decide) ?_
      refine XA.bt ?_
      refine XA.next 12 rfl (by kernel_rfl) ?_
      refine xk_st rfl rfl ?_; dsimp only [List.set]
      refine XA.bt ?_
      refine XA.done (by kernel_rfl) ?_
      refine XK.norm ?_

      refine XK.region ?_
      refine xk_move rfl (by decide) ?_
      refine xk_add rfl rfl (wrap_in (by omega)) (by decide) ?_
      refine xk_assign rfl (by decide) ?_
      refine XK.nilN ?_
      exact XK.weak [1, 2, 3, 4, 5, 6] rfl (by decide) (fun _ h => h) (XK.envS [(13, .int .i64 (rs.length + 1)), (6, .pointer (some ⟨g4, 0, none⟩)), (4, .slice (some ⟨g2, 0, none⟩) 120 120), (2, .pointer (some ⟨g1, 0, none⟩))] (XK.round (4 - (rs.length + 1)) (by omega) ⟨rs ++ [dv ds (50 + rs.length) % 4], A3n, c3n, rows3 ++ [_], by simp; omega, by simp, by intro r hr; simp at hr; rcases hr with hr | hr; exact hrf r hr; omega, hrr.snoc (r := [.int .i64 (dv ds (50 + rs.length) % 4)]) rfl rfl, by simp, rfl, by simp⟩))
    ·
      refine XK.exit ?_
      refine XK.norm ?_
      exact XK.envS [(6, .pointer (some ⟨g4, 0, none⟩)), (4, .slice (some ⟨g2, 0, none⟩) 120 120), (2, .pointer (some ⟨g1, 0, none⟩))] (XK.meet ⟨rs, A3, c3, rows3, by omega, by omega, hrf, hrr, rfl, rfl, rfl⟩)
  rintro _ _ _ ⟨rs, A3, c3, rows3, hr1, hr3, hrf, hrr, rfl, rfl, rfl⟩
  refine XK.cut (fun e R H => ∃ (vs : List Dev) (A4 : Option Addr) (c4 : Nat) (q : Piece) (rows4 : List (List Value)), 1 ≤ vs.length ∧ vs.length ≤ 4 ∧ Rows (ClkR (slq q)) 6 cs rows1 ∧ Fits (Dev.fit cs.length dm.length rs.length) vs ∧ Rows (DevR (slq q)) 6 vs rows4 ∧ Fresh w q ∧ e = [(6, .pointer (some ⟨g4, 0, none⟩)), (4, .slice (some ⟨g2, 0, none⟩) 120 120), (2, .pointer (some ⟨g1, 0, none⟩))] ∧ R = [q, all w] ∧ H = [HP.blk g4 28 [.slice A1 cs.length c1, .slice A2 dm.length c2, .slice A3 rs.length c3, .slice A4 vs.length c4], HP.own 51 6 (.slice A4 vs.length c4) vs.length rows4.flatten, HP.own 71 1 (.slice A3 rs.length c3) rs.length rows3.flatten, HP.own 69 3 (.slice A2 dm.length c2) dm.length rows2.flatten, HP.own 55 6 (.slice A1 cs.length c1) cs.length rows1.flatten, HP.blk g2 3 (intCells ds), HP.blk g1 28 [.slice none 0 0, .slice none 0 0, .slice none 0 0, .slice none 0 0]]) ?_ ?_
  ·
    refine XK.seq ?_

    refine XK.region ?_
    refine xk_assign rfl (by decide) ?_
    refine XK.nilN ?_
    refine XK.nilrow 51 6 ?_
    refine XK.weak [1, 0, 2, 3, 4, 5, 6] rfl (by decide) (fun _ h => h) ?_
    refine XK.envS [(14, .int .i64 0), (6, .pointer (some ⟨g4, 0, none⟩)), (4, .slice (some ⟨g2, 0, none⟩) 120 120), (2, .pointer (some ⟨g1, 0, none⟩))] ?_
    refine XK.block ?_
    refine XK.loop (fun m e R H => ∃ (vs : List Dev) (A4 : Option Addr) (c4 : Nat) (q : Piece) (rows4 : List (List Value)), (vs.length : Int) ≤ 1 + dv ds 4 % 4 ∧ m = 5 - vs.length ∧ Rows (ClkR (slq q)) 6 cs rows1 ∧ Fits (Dev.fit cs.length dm.length rs.length) vs ∧ Rows (DevR (slq q)) 6 vs rows4 ∧ Fresh w q ∧ e = [(14, .int .i64 vs.length), (6, .pointer (some ⟨g4, 0, none⟩)), (4, .slice (some ⟨g2, 0, none⟩) 120 120), (2, .pointer (some ⟨g1, 0, none⟩))] ∧ R = [q, all w] ∧ H = [HP.blk g4 28 [.slice A1 cs.length c1, .slice A2 dm.length c2, .slice A3 rs.length c3, .slice A4 vs.length c4], HP.own 51 6 (.slice A4 vs.length c4) vs.length rows4.flatten, HP.own 71 1 (.slice A3 rs.length c3) rs.length rows3.flatten, HP.own 69 3 (.slice A2 dm.length c2) dm.length rows2.flatten, HP.own 55 6 (.slice A1 cs.length c1) cs.length rows1.flatten, HP.blk g2 3 (intCells ds), HP.blk g1 28 [.slice none 0 0, .slice none 0 0, .slice none 0 0, .slice none 0 0]]) 5 ⟨[], none, 0, q, [], by simp; omega, rfl, hcr, Fits.nil _, trivial, hq, rfl, rfl, rfl⟩ fun m e R H hI => ?_
    obtain ⟨vs, A4, c4, q, rows4, hk, rfl, hcr, hvf, hvr, hq, rfl, rfl, rfl⟩ := hI
    refine XK.seq ?_
    refine XK.seq ?_

    refine XK.region ?_
    refine xk_move rfl (by decide) ?_
    refine xk_move rfl (by decide) ?_
    refine xk_at 4 4 (el := 3) (sz := 1) (by kernel_rfl) (by kernel_rfl) rfl rfl (by rfl) (by omega) (by omega) (by decide) ?_
    refine xk_load (by kernel_rfl) rfl (by first | assumption | exact Rd.blk 0 rfl (dd _ (by omega)) | exact Rd.blk 1 rfl (dd _ (by omega)) | exact Rd.blk 2 rfl (dd _ (by omega)) | exact Rd.blk 3 rfl (dd _ (by omega)) | exact Rd.blk 4 rfl (dd _ (by omega)) | exact Rd.blk 5 rfl (dd _ (by omega)) | exact Rd.blk 6 rfl (dd _ (by omega)) | exact Rd.blk 7 rfl (dd _ (by omega)) | exact Rd.blk 8 rfl (dd _ (by omega)) | exact Rd.blk 9 rfl (dd _ (by omega)) | exact Rd.blk 0 rfl rfl | exact Rd.blk 1 rfl rfl | exact Rd.blk 2 rfl rfl | exact Rd.blk 3 rfl rfl | exact Rd.blk 4 rfl rfl | exact Rd.blk 5 rfl rfl | exact Rd.blk 6 rfl rfl | exact Rd.blk 7 rfl rfl | exact Rd.blk 8 rfl rfl | exact Rd.blk 9 rfl rfl) (by decide) ?_
    refine xk_rem rfl rfl (by omega) (rem_in (by omega)) (by decide) ?_
    refine xk_add rfl rfl (wrap_in (by omega)) (by decide) ?_
    refine xk_lss rfl rfl (by decide) ?_
    refine XK.nilN ?_
    refine XK.if_ rfl (fun h => ?_) (fun h => ?_)
    ·
      refine XK.skip ?_
      refine XK.norm ?_
      refine XK.seq ?_
      refine XK.block ?_
      refine XK.seq ?_
      have hk2 : vs.length < 4 := by omega
      have p0 := hd.bd (60 + 12 * vs.length)
      have p1 := hd.bd (61 + 12 * vs.length)
      have p2 := hd.bd (62 + 12 * vs.length)
      have p3 := hd.bd (63 + 12 * vs.length)
      have p4 := hd.bd (64 + 12 * vs.length)
      have p9 := hd.bd (69 + 12 * vs.length)
      have p10 := hd.bd (70 + 12 * vs.length)
      have p11 := hd.bd (71 + 12 * vs.length)
      have q0 := emod_bd (dv ds (60 + 12 * vs.length)) (n := (cs.length : Int)) (by omega)
      have q1 := emod_bd (dv ds (61 + 12 * vs.length)) (n := (dm.length : Int)) (by omega)
      have q2 := emod_bd (dv ds (62 + 12 * vs.length)) (n := (rs.length : Int)) (by omega)

      refine XK.region ?_
      refine xk_move rfl (by decide) ?_
      refine xk_mul rfl rfl (wrap_in (by omega)) (by decide) ?_
      refine xk_add rfl rfl (wrap_in (by omega)) (by decide) ?_
      refine xk_assign rfl (by decide) ?_
      refine XK.nilN ?_
      refine XK.seq ?_

      refine XK.draw 35 (by kernel_rfl) (by kernel_rfl) ?_
      refine XA.dA 0 rfl rfl rfl (does_move rfl) ?_
      refine XA.dA 1 rfl rfl rfl (does_move rfl) ?_
      refine XA.dA 2 rfl rfl rfl (does_at (60 + 12 * vs.length) (60 + 12 * vs.length) (el := 3) (sz := 1) (by kernel_rfl) (by kernel_rfl) rfl rfl (by omega) (by omega) (by omega)) ?_
      refine XA.dA 3 rfl rfl rfl (does_load (by kernel_rfl) rfl (by first | assumption | exact Rd.blk 0 rfl (dd _ (by omega)) | exact Rd.blk 1 rfl (dd _ (by omega)) | exact Rd.blk 2 rfl (dd _ (by omega)) | exact Rd.blk 3 rfl (dd _ (by omega)) | exact Rd.blk 4 rfl (dd _ (by omega)) | exact Rd.blk 5 rfl (dd _ (by omega)) | exact Rd.blk 6 rfl (dd _ (by omega)) | exact Rd.blk 7 rfl (dd _ (by omega)) | exact Rd.blk 8 rfl (dd _ (by omega)) | exact Rd.blk 9 rfl (dd _ (by omega)) | exact Rd.blk 0 rfl rfl | exact Rd.blk 1 rfl rfl | exact Rd.blk 2 rfl rfl | exact Rd.blk 3 rfl rfl | exact Rd.blk 4 rfl rfl | exact Rd.blk 5 rfl rfl | exact Rd.blk 6 rfl rfl | exact Rd.blk 7 rfl rfl | exact Rd.blk 8 rfl rfl | exact Rd.blk 9 rfl rfl)) ?_
      refine XA.dA 4 rfl rfl rfl (does_field (off := 0) (by kernel_rfl) rfl) ?_
      refine XA.dA 5 rfl rfl rfl (does_load (by kernel_rfl) rfl (by first | assumption | exact Rd.blk 0 rfl (dd _ (by omega)) | exact Rd.blk 1 rfl (dd _ (by omega)) | exact Rd.blk 2 rfl (dd _ (by omega)) | exact Rd.blk 3 rfl (dd _ (by omega)) | exact Rd.blk 4 rfl (dd _ (by omega)) | exact Rd.blk 5 rfl (dd _ (by omega)) | exact Rd.blk 6 rfl (dd _ (by omega)) | exact Rd.blk 7 rfl (dd _ (by omega)) | exact Rd.blk 8 rfl (dd _ (by omega)) | exact Rd.blk 9 rfl (dd _ (by omega)) | exact Rd.blk 0 rfl rfl | exact Rd.blk 1 rfl rfl | exact Rd.blk 2 rfl rfl | exact Rd.blk 3 rfl rfl | exact Rd.blk 4 rfl rfl | exact Rd.blk 5 rfl rfl | exact Rd.blk 6 rfl rfl | exact Rd.blk 7 rfl rfl | exact Rd.blk 8 rfl rfl | exact Rd.blk 9 rfl rfl)) ?_
      refine XA.dA 6 rfl rfl rfl (does_len (el := 55) (by kernel_rfl) rfl) ?_
      refine XA.dA 7 rfl rfl rfl (does_rem rfl rfl (by omega) (rem_in (by omega))) ?_
      refine XA.dA 8 rfl rfl rfl (does_move rfl) ?_
      refine XA.dA 9 rfl rfl rfl (does_move rfl) ?_
      refine XA.dA 10 rfl rfl rfl (does_add rfl rfl (wrap_in (by omega))) ?_
      refine XA.dA 11 rfl rfl rfl (does_at (61 + 12 * vs.length) (61 + 12 * vs.length) (el := 3) (sz := 1) (by kernel_rfl) (by kernel_rfl) rfl rfl (by omega) (by omega) (by omega)) ?_
      refine XA.dA 12 rfl rfl rfl (does_load (by kernel_rfl) rfl (by first | assumption | exact Rd.blk 0 rfl (dd _ (by omega)) | exact Rd.blk 1 rfl (dd _ (by omega)) | exact Rd.blk 2 rfl (dd _ (by omega)) | exact Rd.blk 3 rfl (dd _ (by omega)) | exact Rd.blk 4 rfl (dd _ (by omega)) | exact Rd.blk 5 rfl (dd _ (by omega)) | exact Rd.blk 6 rfl (dd _ (by omega)) | exact Rd.blk 7 rfl (dd _ (by omega)) | exact Rd.blk 8 rfl (dd _ (by omega)) | exact Rd.blk 9 rfl (dd _ (by omega)) | exact Rd.blk 0 rfl rfl | exact Rd.blk 1 rfl rfl | exact Rd.blk 2 rfl rfl | exact Rd.blk 3 rfl rfl | exact Rd.blk 4 rfl rfl | exact Rd.blk 5 rfl rfl | exact Rd.blk 6 rfl rfl | exact Rd.blk 7 rfl rfl | exact Rd.blk 8 rfl rfl | exact Rd.blk 9 rfl rfl)) ?_
      refine XA.dA 13 rfl rfl rfl (does_field (off := 1) (by kernel_rfl) rfl) ?_
      refine XA.dA 14 rfl rfl rfl (does_load (by kernel_rfl) rfl (by first | assumption | exact Rd.blk 0 rfl (dd _ (by omega)) | exact Rd.blk 1 rfl (dd _ (by omega)) | exact Rd.blk 2 rfl (dd _ (by omega)) | exact Rd.blk 3 rfl (dd _ (by omega)) | exact Rd.blk 4 rfl (dd _ (by omega)) | exact Rd.blk 5 rfl (dd _ (by omega)) | exact Rd.blk 6 rfl (dd _ (by omega)) | exact Rd.blk 7 rfl (dd _ (by omega)) | exact Rd.blk 8 rfl (dd _ (by omega)) | exact Rd.blk 9 rfl (dd _ (by omega)) | exact Rd.blk 0 rfl rfl | exact Rd.blk 1 rfl rfl | exact Rd.blk 2 rfl rfl | exact Rd.blk 3 rfl rfl | exact Rd.blk 4 rfl rfl | exact Rd.blk 5 rfl rfl | exact Rd.blk 6 rfl rfl | exact Rd.blk 7 rfl rfl | exact Rd.blk 8 rfl rfl | exact Rd.blk 9 rfl rfl)) ?_
      refine XA.dA 15 rfl rfl rfl (does_len (el := 69) (by kernel_rfl) rfl) ?_
      refine XA.dA 16 rfl rfl rfl (does_rem rfl rfl (by omega) (rem_in (by omega))) ?_
      refine XA.dA 17 rfl rfl rfl (does_move rfl) ?_
      refine XA.dA 18 rfl rfl rfl (does_move rfl) ?_
      refine XA.dA 19 rfl rfl rfl (does_add rfl rfl (wrap_in (by omega))) ?_
      refine XA.dA 20 rfl rfl rfl (does_at (62 + 12 * vs.length) (62 + 12 * vs.length) (el := 3) (sz := 1) (by kernel_rfl) (by kernel_rfl) rfl rfl (by omega) (by omega) (by omega)) ?_
      refine XA.dA 21 rfl rfl rfl (does_load (by kernel_rfl) rfl (by first | assumption | exact Rd.blk 0 rfl (dd _ (by omega)) | exact Rd.blk 1 rfl (dd _ (by omega)) | exact Rd.blk 2 rfl (dd _ (by omega)) | exact Rd.blk 3 rfl (dd _ (by omega)) | exact Rd.blk 4 rfl (dd _ (by omega)) | exact Rd.blk 5 rfl (dd _ (by omega)) | exact Rd.blk 6 rfl (dd _ (by omega)) | exact Rd.blk 7 rfl (dd _ (by omega)) | exact Rd.blk 8 rfl (dd _ (by omega)) | exact Rd.blk 9 rfl (dd _ (by omega)) | exact Rd.blk 0 rfl rfl | exact Rd.blk 1 rfl rfl | exact Rd.blk 2 rfl rfl | exact Rd.blk 3 rfl rfl | exact Rd.blk 4 rfl rfl | exact Rd.blk 5 rfl rfl | exact Rd.blk 6 rfl rfl | exact Rd.blk 7 rfl rfl | exact Rd.blk 8 rfl rfl | exact Rd.blk 9 rfl rfl)) ?_
      refine XA.dA 22 rfl rfl rfl (does_field (off := 2) (by kernel_rfl) rfl) ?_
      refine XA.dA 23 rfl rfl rfl (does_load (by kernel_rfl) rfl (by first | assumption | exact Rd.blk 0 rfl (dd _ (by omega)) | exact Rd.blk 1 rfl (dd _ (by omega)) | exact Rd.blk 2 rfl (dd _ (by omega)) | exact Rd.blk 3 rfl (dd _ (by omega)) | exact Rd.blk 4 rfl (dd _ (by omega)) | exact Rd.blk 5 rfl (dd _ (by omega)) | exact Rd.blk 6 rfl (dd _ (by omega)) | exact Rd.blk 7 rfl (dd _ (by omega)) | exact Rd.blk 8 rfl (dd _ (by omega)) | exact Rd.blk 9 rfl (dd _ (by omega)) | exact Rd.blk 0 rfl rfl | exact Rd.blk 1 rfl rfl | exact Rd.blk 2 rfl rfl | exact Rd.blk 3 rfl rfl | exact Rd.blk 4 rfl rfl | exact Rd.blk 5 rfl rfl | exact Rd.blk 6 rfl rfl | exact Rd.blk 7 rfl rfl | exact Rd.blk 8 rfl rfl | exact Rd.blk 9 rfl rfl)) ?_
      refine XA.dA 24 rfl rfl rfl (does_len (el := 71) (by kernel_rfl) rfl) ?_
      refine XA.dA 25 rfl rfl rfl (does_rem rfl rfl (by omega) (rem_in (by omega))) ?_
      refine XA.dA 26 rfl rfl rfl (does_move rfl) ?_
      refine XA.dA 27 rfl rfl rfl (does_move rfl) ?_
      refine XA.dA 28 rfl rfl rfl (does_add rfl rfl (wrap_in (by omega))) ?_
      refine XA.dA 29 rfl rfl rfl (does_at (63 + 12 * vs.length) (63 + 12 * vs.length) (el := 3) (sz := 1) (by kernel_rfl) (by kernel_rfl) rfl rfl (by omega) (by omega) (by omega)) ?_
      refine XA.dA 30 rfl rfl rfl (does_load (by kernel_rfl) rfl (by first | assumption | exact Rd.blk 0 rfl (dd _ (by omega)) | exact Rd.blk 1 rfl (dd _ (by omega)) | exact Rd.blk 2 rfl (dd _ (by omega)) | exact Rd.blk 3 rfl (dd _ (by omega)) | exact Rd.blk 4 rfl (dd _ (by omega)) | exact Rd.blk 5 rfl (dd _ (by omega)) | exact Rd.blk 6 rfl (dd _ (by omega)) | exact Rd.blk 7 rfl (dd _ (by omega)) | exact Rd.blk 8 rfl (dd _ (by omega)) | exact Rd.blk 9 rfl (dd _ (by omega)) | exact Rd.blk 0 rfl rfl | exact Rd.blk 1 rfl rfl | exact Rd.blk 2 rfl rfl | exact Rd.blk 3 rfl rfl | exact Rd.blk 4 rfl rfl | exact Rd.blk 5 rfl rfl | exact Rd.blk 6 rfl rfl | exact Rd.blk 7 rfl rfl | exact Rd.blk 8 rfl rfl | exact Rd.blk 9 rfl rfl)) ?_
      refine XA.dA 31 rfl rfl rfl (does_rem rfl rfl (by omega) (rem_in (by omega))) ?_
      refine XA.dA 32 rfl rfl rfl (does_conv (ds := .int .i64) (by kernel_rfl) (by kernel_rfl) rfl (wrap_u32 (by omega))) ?_
      refine XA.dA 33 rfl rfl rfl (does_buildS (zs := [.int .i64 0, .int .i64 0, .int .i64 0, .int .u32 0, .slice none 0 0, .slice none 0 0]) (L := [(0, 1), (1, 1), (2, 1), (3, 1), (4, 1), (5, 1)]) (zeroB_of (by kernel_rfl)) (by kernel_rfl) rfl (by simp [fillL, setN, Value.cells]; rfl)) ?_
      refine XA.next 34 rfl (by kernel_rfl) ?_
      refine xk_alloc (cs := [.int .i64 0, .int .i64 0, .int .i64 0, .int .u32 0, .slice none 0 0, .slice none 0 0]) (zeroB_of (by kernel_rfl)) (by decide) fun g12 => ?_
      refine XA.bk ?_
      refine XA.next 35 rfl (by kernel_rfl) ?_
      (first | (refine xk_storeN 0 rfl rfl rfl (by kernel_rfl) (by simp [Value.cells, Value.oneCell']) (by simp [Value.cells]) ?_) | (refine xk_storeN 1 rfl rfl rfl (by kernel_rfl) (by simp [Value.cells, Value.oneCell']) (by simp [Value.cells]) ?_) | (refine xk_storeN 2 rfl rfl rfl (by kernel_rfl) (by simp [Value.cells, Value.oneCell']) (by simp [Value.cells]) ?_) | (refine xk_storeN 3 rfl rfl rfl (by kernel_rfl) (by simp [Value.cells, Value.oneCell']) (by simp [Value.cells]) ?_) | (refine xk_storeN 4 rfl rfl rfl (by kernel_rfl) (by simp [Value.cells, Value.oneCell']) (by simp [Value.cells]) ?_) | (refine xk_storeN 5 rfl rfl rfl (by kernel_rfl) (by simp [Value.cells, Value.oneCell']) (by simp [Value.cells]) ?_) | (refine xk_storeN 6 rfl rfl rfl (by kernel_rfl) (by simp [Value.cells, Value.oneCell']) (by simp [Value.cells]) ?_) | (refine xk_storeN 7 rfl rfl rfl (by kernel_rfl) (by simp [Value.cells, Value.oneCell']) (by simp [Value.cells]) ?_) | (refine xk_storeN 8 rfl rfl rfl (by kernel_rfl) (by simp [Value.cells, Value.oneCell']) (by simp [Value.cells]) ?_)); simp only [putN, Value.cells, List.set, List.take, List.drop, List.nil_append, List.append_nil, List.length_cons, List.length_nil, List.cons_append, Nat.reduceAdd]
      refine XA.bt ?_
      refine XA.done (by kernel_rfl) ?_
      refine XK.norm ?_
      refine XK.cut (fun e R H => ∃ (rg : List Rg) (A5 : Option Addr) (c5 : Nat), rg.length ≤ 4 ∧ (∀ r ∈ rg, 0 ≤ r.reset ∧ r.reset ≤ 6) ∧ e = [(16, .pointer (some ⟨g12, 0, none⟩)), (15, .int .i64 (60 + 12 * vs.length)), (14, .int .i64 vs.length), (6, .pointer (some ⟨g4, 0, none⟩)), (4, .slice (some ⟨g2, 0, none⟩) 120 120), (2, .pointer (some ⟨g1, 0, none⟩))] ∧ R = [q, all w] ∧ H = [HP.blk g12 51 [.int .i64 (dv ds (60 + 12 * vs.length) % cs.length), .int .i64 (dv ds (61 + 12 * vs.length) % dm.length), .int .i64 (dv ds (62 + 12 * vs.length) % rs.length), .int .u32 (dv ds (63 + 12 * vs.length) % 3), .slice A5 rg.length c5, .slice none 0 0], HP.own 57 2 (.slice A5 rg.length c5) rg.length (rg.flatMap Rg.cells), HP.blk g4 28 [.slice A1 cs.length c1, .slice A2 dm.length c2, .slice A3 rs.length c3, .slice A4 vs.length c4], HP.own 51 6 (.slice A4 vs.length c4) vs.length rows4.flatten, HP.own 71 1 (.slice A3 rs.length c3) rs.length rows3.flatten, HP.own 69 3 (.slice A2 dm.length c2) dm.length rows2.flatten, HP.own 55 6 (.slice A1 cs.length c1) cs.length rows1.flatten, HP.blk g2 3 (intCells ds), HP.blk g1 28 [.slice none 0 0, .slice none 0 0, .slice none 0 0, .slice none 0 0]]) ?_ ?_
      ·
        refine XK.seq ?_

        refine XK.region ?_
        refine xk_assign rfl (by decide) ?_
        refine XK.nilN ?_
        refine XK.nilrow 57 2 ?_
        refine XK.weak [1, 0, 2, 3, 4, 5, 6, 7, 8] rfl (by decide) (fun _ h => h) ?_
        refine XK.envS [(17, .int .i64 0), (16, .pointer (some ⟨g12, 0, none⟩)), (15, .int .i64 (60 + 12 * vs.length)), (14, .int .i64 vs.length), (6, .pointer (some ⟨g4, 0, none⟩)), (4, .slice (some ⟨g2, 0, none⟩) 120 120), (2, .pointer (some ⟨g1, 0, none⟩))] ?_
        refine XK.block ?_
        refine XK.loop (fun m e R H => ∃ (rg : List Rg) (A5 : Option Addr) (c5 : Nat), (rg.length : Int) ≤ dv ds (64 + 12 * vs.length) % 5 ∧ m = 5 - rg.length ∧ (∀ r ∈ rg, 0 ≤ r.reset ∧ r.reset ≤ 6) ∧ e = [(17, .int .i64 rg.length), (16, .pointer (some ⟨g12, 0, none⟩)), (15, .int .i64 (60 + 12 * vs.length)), (14, .int .i64 vs.length), (6, .pointer (some ⟨g4, 0, none⟩)), (4, .slice (some ⟨g2, 0, none⟩) 120 120), (2, .pointer (some ⟨g1, 0, none⟩))] ∧ R = [q, all w] ∧ H = [HP.blk g12 51 [.int .i64 (dv ds (60 + 12 * vs.length) % cs.length), .int .i64 (dv ds (61 + 12 * vs.length) % dm.length), .int .i64 (dv ds (62 + 12 * vs.length) % rs.length), .int .u32 (dv ds (63 + 12 * vs.length) % 3), .slice A5 rg.length c5, .slice none 0 0], HP.own 57 2 (.slice A5 rg.length c5) rg.length (rg.flatMap Rg.cells), HP.blk g4 28 [.slice A1 cs.length c1, .slice A2 dm.length c2, .slice A3 rs.length c3, .slice A4 vs.length c4], HP.own 51 6 (.slice A4 vs.length c4) vs.length rows4.flatten, HP.own 71 1 (.slice A3 rs.length c3) rs.length rows3.flatten, HP.own 69 3 (.slice A2 dm.length c2) dm.length rows2.flatten, HP.own 55 6 (.slice A1 cs.length c1) cs.length rows1.flatten, HP.blk g2 3 (intCells ds), HP.blk g1 28 [.slice none 0 0, .slice none 0 0, .slice none 0 0, .slice none 0 0]]) 5 ⟨[], none, 0, by simp; omega, rfl, by simp, rfl, rfl, rfl⟩ fun m e R H hI => ?_
        obtain ⟨rg, A5, c5, hj, rfl, hgf, rfl, rfl, rfl⟩ := hI
        refine XK.seq ?_
        refine XK.seq ?_

        refine XK.region ?_
        refine xk_move rfl (by decide) ?_
        refine xk_move rfl (by decide) ?_
        refine xk_move rfl (by decide) ?_
        refine xk_add rfl rfl (wrap_in (by omega)) (by decide) ?_
        refine xk_at (64 + 12 * vs.length) (64 + 12 * vs.length) (el := 3) (sz := 1) (by kernel_rfl) (by kernel_rfl) rfl rfl (by omega) (by omega) (by omega) (by decide) ?_
        refine xk_load (by kernel_rfl) rfl (by first | assumption | exact Rd.blk 0 rfl (dd _ (by omega)) | exact Rd.blk 1 rfl (dd _ (by omega)) | exact Rd.blk 2 rfl (dd _ (by omega)) | exact Rd.blk 3 rfl (dd _ (by omega)) | exact Rd.blk 4 rfl (dd _ (by omega)) | exact Rd.blk 5 rfl (dd _ (by omega)) | exact Rd.blk 6 rfl (dd _ (by omega)) | exact Rd.blk 7 rfl (dd _ (by omega)) | exact Rd.blk 8 rfl (dd _ (by omega)) | exact Rd.blk 9 rfl (dd _ (by omega)) | exact Rd.blk 0 rfl rfl | exact Rd.blk 1 rfl rfl | exact Rd.blk 2 rfl rfl | exact Rd.blk 3 rfl rfl | exact Rd.blk 4 rfl rfl | exact Rd.blk 5 rfl rfl | exact Rd.blk 6 rfl rfl | exact Rd.blk 7 rfl rfl | exact Rd.blk 8 rfl rfl | exact Rd.blk 9 rfl rfl) (by decide) ?_
        refine xk_rem rfl rfl (by omega) (rem_in (by omega)) (by decide) ?_
        refine xk_lss rfl rfl (by decide) ?_
        refine XK.nilN ?_
        refine XK.if_ rfl (fun h => ?_) (fun h => ?_)
        ·
          refine XK.skip ?_
          refine XK.norm ?_
          refine XK.seq ?_
          refine XK.block ?_

          have hj2 : rg.length < 4 := by omega
          have r1 := hd.bd (65 + 12 * vs.length + rg.length)
          refine XK.draw 23 (by kernel_rfl) (by kernel_rfl) ?_
          refine XA.dA 0 rfl rfl rfl (does_field (off := 4) (by kernel_rfl) rfl) ?_
          refine XA.dA 1 rfl rfl rfl (does_load (by kernel_rfl) rfl (by first | assumption | exact Rd.blk 0 rfl (dd _ (by omega)) | exact Rd.blk 1 rfl (dd _ (by omega)) | exact Rd.blk 2 rfl (dd _ (by omega)) | exact Rd.blk 3 rfl (dd _ (by omega)) | exact Rd.blk 4 rfl (dd _ (by omega)) | exact Rd.blk 5 rfl (dd _ (by omega)) | exact Rd.blk 6 rfl (dd _ (by omega)) | exact Rd.blk 7 rfl (dd _ (by omega)) | exact Rd.blk 8 rfl (dd _ (by omega)) | exact Rd.blk 9 rfl (dd _ (by omega)) | exact Rd.blk 0 rfl rfl | exact Rd.blk 1 rfl rfl | exact Rd.blk 2 rfl rfl | exact Rd.blk 3 rfl rfl | exact Rd.blk 4 rfl rfl | exact Rd.blk 5 rfl rfl | exact Rd.blk 6 rfl rfl | exact Rd.blk 7 rfl rfl | exact Rd.blk 8 rfl rfl | exact Rd.blk 9 rfl rfl)) ?_
          refine XA.dA 2 rfl rfl rfl (does_move rfl) ?_
          refine XA.dA 3 rfl rfl rfl (does_move rfl) ?_
          refine XA.dA 4 rfl rfl rfl (does_add rfl rfl (wrap_in (by omega))) ?_
          refine XA.dA 5 rfl rfl rfl (does_move rfl) ?_
          refine XA.dA 6 rfl rfl rfl (does_add rfl rfl (wrap_in (by omega))) ?_
          refine XA.dA 7 rfl rfl rfl (does_at (65 + 12 * vs.length + rg.length) (65 + 12 * vs.length + rg.length) (el := 3) (sz := 1) (by kernel_rfl) (by kernel_rfl) rfl rfl (by omega) (by omega) (by omega)) ?_
          refine XA.dA 8 rfl rfl rfl (does_load (by kernel_rfl) rfl (by first | assumption | exact Rd.blk 0 rfl (dd _ (by omega)) | exact Rd.blk 1 rfl (dd _ (by omega)) | exact Rd.blk 2 rfl (dd _ (by omega)) | exact Rd.blk 3 rfl (dd _ (by omega)) | exact Rd.blk 4 rfl (dd _ (by omega)) | exact Rd.blk 5 rfl (dd _ (by omega)) | exact Rd.blk 6 rfl (dd _ (by omega)) | exact Rd.blk 7 rfl (dd _ (by omega)) | exact Rd.blk 8 rfl (dd _ (by omega)) | exact Rd.blk 9 rfl (dd _ (by omega)) | exact Rd.blk 0 rfl rfl | exact Rd.blk 1 rfl rfl | exact Rd.blk 2 rfl rfl | exact Rd.blk 3 rfl rfl | exact Rd.blk 4 rfl rfl | exact Rd.blk 5 rfl rfl | exact Rd.blk 6 rfl rfl | exact Rd.blk 7 rfl rfl | exact Rd.blk 8 rfl rfl | exact Rd.blk 9 rfl rfl)) ?_
          refine XA.dA 9 rfl rfl rfl (does_rem rfl rfl (by omega) (rem_in (by omega))) ?_
          refine XA.dA 10 rfl rfl rfl (does_conv (ds := .int .i64) (by kernel_rfl) (by kernel_rfl) rfl (wrap_u32 (by omega))) ?_
          refine XA.dA 11 rfl rfl rfl (does_move rfl) ?_
          refine XA.dA 12 rfl rfl rfl (does_move rfl) ?_
          refine XA.dA 13 rfl rfl rfl (does_add rfl rfl (wrap_in (by omega))) ?_
          refine XA.dA 14 rfl rfl rfl (does_move rfl) ?_
          refine XA.dA 15 rfl rfl rfl (does_add rfl rfl (wrap_in (by omega))) ?_
          refine XA.dA 16 rfl rfl rfl (does_at (65 + 12 * vs.length + rg.length) (65 + 12 * vs.length + rg.length) (el := 3) (sz := 1) (by kernel_rfl) (by kernel_rfl) rfl rfl (by omega) (by omega) (by omega)) ?_
          refine XA.dA 17 rfl rfl rfl (does_load (by kernel_rfl) rfl (by first | assumption | exact Rd.blk 0 rfl (dd _ (by omega)) | exact Rd.blk 1 rfl (dd _ (by omega)) | exact Rd.blk 2 rfl (dd _ (by omega)) | exact Rd.blk 3 rfl (dd _ (by omega)) | exact Rd.blk 4 rfl (dd _ (by omega)) | exact Rd.blk 5 rfl (dd _ (by omega)) | exact Rd.blk 6 rfl (dd _ (by omega)) | exact Rd.blk 7 rfl (dd _ (by omega)) | exact Rd.blk 8 rfl (dd _ (by omega)) | exact Rd.blk 9 rfl (dd _ (by omega)) | exact Rd.blk 0 rfl rfl | exact Rd.blk 1 rfl rfl | exact Rd.blk 2 rfl rfl | exact Rd.blk 3 rfl rfl | exact Rd.blk 4 rfl rfl | exact Rd.blk 5 rfl rfl | exact Rd.blk 6 rfl rfl | exact Rd.blk 7 rfl rfl | exact Rd.blk 8 rfl rfl | exact Rd.blk 9 rfl rfl)) ?_
          refine XA.dA 18 rfl rfl rfl (does_quo rfl rfl (by omega) (quo_in (by omega) (by omega) (by omega))) ?_
          refine XA.dA 19 rfl rfl rfl (does_rem rfl rfl (by omega) (rem_in (by omega))) ?_
          refine XA.dA 20 rfl rfl rfl (does_eql rfl rfl) ?_
          refine XA.dA 21 rfl rfl rfl (does_buildS (zs := [.int .u32 0, .bool false]) (L := [(0, 1), (1, 1)]) (zeroB_of (by kernel_rfl)) (by kernel_rfl) rfl (by simp [fillL, setN, Value.cells]; rfl)) ?_
          refine XA.next 22 rfl (by kernel_rfl) ?_
          refine xk_slice (el := 57) (sz := 2) (zs := [.int .u32 0, .bool false]) (by kernel_rfl) (zeroB_of (by kernel_rfl)) (by kernel_rfl) rfl (by decide) (by decide) rfl (by simp [fillL, setN, Value.cells, List.range_succ, List.set]; rfl) (by decide) fun g13 => ?_
          refine XA.bk ?_
          refine XA.next 23 rfl (by kernel_rfl) ?_
          refine xk_appendT 2 2 8 1 (n' := rg.length + 1) (el := 57) (by kernel_rfl) (by kernel_rfl) (by decide) rfl rfl rfl (sl_blk 0 rfl rfl) (by simp [Value.oneCell']) rfl (by omega) (by omega) (by decide) fun A5n c5n => ?_
          refine XA.bt ?_
          refine XA.next 24 rfl (by kernel_rfl) ?_
          refine xk_field (off := 4) (by kernel_rfl) rfl (by decide) ?_
          refine XA.bt ?_
          refine XA.next 25 rfl (by kernel_rfl) ?_
          refine xk_st rfl rfl ?_; dsimp only [List.set]
          refine XA.bt ?_
          refine XA.done (by kernel_rfl) ?_
          refine XK.norm ?_

          refine XK.region ?_
          refine xk_move rfl (by decide) ?_
          refine xk_add rfl rfl (wrap_in (by omega)) (by decide) ?_
          refine xk_assign rfl (by decide) ?_
          refine XK.nilN ?_
          exact XK.weak [1, 2, 3, 4, 5, 6, 7, 8, 9] rfl (by decide) (fun _ h => h) (XK.envS [(17, .int .i64 (rg.length + 1)), (16, .pointer (some ⟨g12, 0, none⟩)), (15, .int .i64 (60 + 12 * vs.length)), (14, .int .i64 vs.length), (6, .pointer (some ⟨g4, 0, none⟩)), (4, .slice (some ⟨g2, 0, none⟩) 120 120), (2, .pointer (some ⟨g1, 0, none⟩))] (XK.round (5 - (rg.length + 1)) (by omega) ⟨rg ++ [⟨dv ds (65 + 12 * vs.length + rg.length) % 7, decide (dv ds (65 + 12 * vs.length + rg.length) / 7 % 2 = 0)⟩], A5n, c5n, by simp; omega, by simp, by intro r hr; simp at hr; rcases hr with hr | hr; exact hgf r hr; subst hr; dsimp only; omega, by simp, rfl, by simp [Rg.cells]⟩))
        ·
          refine XK.exit ?_
          refine XK.norm ?_
          exact XK.envS [(16, .pointer (some ⟨g12, 0, none⟩)), (15, .int .i64 (60 + 12 * vs.length)), (14, .int .i64 vs.length), (6, .pointer (some ⟨g4, 0, none⟩)), (4, .slice (some ⟨g2, 0, none⟩) 120 120), (2, .pointer (some ⟨g1, 0, none⟩))] (XK.meet ⟨rg, A5, c5, by omega, hgf, rfl, rfl, rfl⟩)
      rintro _ _ _ ⟨rg, A5, c5, hg4, hgf, rfl, rfl, rfl⟩
      refine XK.nilrow 3 1 ?_
      refine XK.weak [1, 0, 2, 3, 4, 5, 6, 7, 8, 9] rfl (by decide) (fun _ h => h) ?_
      refine XK.cut (fun e R H => ∃ (nd : List Int) (A6 : Option Addr) (c6 : Nat), nd.length ≤ 1 ∧ (∀ f ∈ nd, 0 ≤ f ∧ f < vs.length) ∧ e = [(16, .pointer (some ⟨g12, 0, none⟩)), (15, .int .i64 (60 + 12 * vs.length)), (14, .int .i64 vs.length), (6, .pointer (some ⟨g4, 0, none⟩)), (4, .slice (some ⟨g2, 0, none⟩) 120 120), (2, .pointer (some ⟨g1, 0, none⟩))] ∧ R = [q, all w] ∧ H = [HP.blk g12 51 [.int .i64 (dv ds (60 + 12 * vs.length) % cs.length), .int .i64 (dv ds (61 + 12 * vs.length) % dm.length), .int .i64 (dv ds (62 + 12 * vs.length) % rs.length), .int .u32 (dv ds (63 + 12 * vs.length) % 3), .slice A5 rg.length c5, .slice A6 nd.length c6], HP.own 3 1 (.slice A6 nd.length c6) nd.length (intCells nd), HP.own 57 2 (.slice A5 rg.length c5) rg.length (rg.flatMap Rg.cells), HP.blk g4 28 [.slice A1 cs.length c1, .slice A2 dm.length c2, .slice A3 rs.length c3, .slice A4 vs.length c4], HP.own 51 6 (.slice A4 vs.length c4) vs.length rows4.flatten, HP.own 71 1 (.slice A3 rs.length c3) rs.length rows3.flatten, HP.own 69 3 (.slice A2 dm.length c2) dm.length rows2.flatten, HP.own 55 6 (.slice A1 cs.length c1) cs.length rows1.flatten, HP.blk g2 3 (intCells ds), HP.blk g1 28 [.slice none 0 0, .slice none 0 0, .slice none 0 0, .slice none 0 0]]) ?_ ?_
      ·
        refine XK.seq ?_

        refine XK.region ?_
        refine xk_move rfl (by decide) ?_
        refine xk_gtr rfl rfl (by decide) ?_
        refine xk_move rfl (by decide) ?_
        refine xk_split (t := 300) rfl (fun hg => ?_) (fun hg => ?_)
        ·
          refine xk_guardT rfl rfl ?_; refine xk_move rfl (by decide) ?_
          refine xk_guardT rfl rfl ?_; refine xk_move rfl (by decide) ?_
          refine xk_guardT rfl rfl ?_; refine xk_add rfl rfl (wrap_in (by omega)) (by decide) ?_
          refine xk_guardT rfl rfl ?_; refine xk_at (69 + 12 * vs.length) (69 + 12 * vs.length) (el := 3) (sz := 1) (by kernel_rfl) (by kernel_rfl) rfl rfl (by omega) (by omega) (by omega) (by decide) ?_
          refine xk_guardT rfl rfl ?_; refine xk_load (by kernel_rfl) rfl (by first | assumption | exact Rd.blk 0 rfl (dd _ (by omega)) | exact Rd.blk 1 rfl (dd _ (by omega)) | exact Rd.blk 2 rfl (dd _ (by omega)) | exact Rd.blk 3 rfl (dd _ (by omega)) | exact Rd.blk 4 rfl (dd _ (by omega)) | exact Rd.blk 5 rfl (dd _ (by omega)) | exact Rd.blk 6 rfl (dd _ (by omega)) | exact Rd.blk 7 rfl (dd _ (by omega)) | exact Rd.blk 8 rfl (dd _ (by omega)) | exact Rd.blk 9 rfl (dd _ (by omega)) | exact Rd.blk 0 rfl rfl | exact Rd.blk 1 rfl rfl | exact Rd.blk 2 rfl rfl | exact Rd.blk 3 rfl rfl | exact Rd.blk 4 rfl rfl | exact Rd.blk 5 rfl rfl | exact Rd.blk 6 rfl rfl | exact Rd.blk 7 rfl rfl | exact Rd.blk 8 rfl rfl | exact Rd.blk 9 rfl rfl) (by decide) ?_
          refine xk_guardT rfl rfl ?_; refine xk_rem rfl rfl (by omega) (rem_in (by omega)) (by decide) ?_
          refine xk_guardT rfl rfl ?_; refine xk_eql rfl rfl (by decide) ?_
          (first | refine xk_pickT rfl rfl (by decide) ?_ | refine xk_pickF rfl rfl (by decide) ?_)
          refine XK.nilN ?_
          refine XK.if_ rfl (fun h => ?_) (fun h => ?_)
          ·

            refine XK.draw 10 (by kernel_rfl) (by kernel_rfl) ?_
            refine XA.dA 0 rfl rfl rfl (does_field (off := 5) (by kernel_rfl) rfl) ?_
            refine XA.dA 1 rfl rfl rfl (does_load (by kernel_rfl) rfl (by first | assumption | exact Rd.blk 0 rfl (dd _ (by omega)) | exact Rd.blk 1 rfl (dd _ (by omega)) | exact Rd.blk 2 rfl (dd _ (by omega)) | exact Rd.blk 3 rfl (dd _ (by omega)) | exact Rd.blk 4 rfl (dd _ (by omega)) | exact Rd.blk 5 rfl (dd _ (by omega)) | exact Rd.blk 6 rfl (dd _ (by omega)) | exact Rd.blk 7 rfl (dd _ (by omega)) | exact Rd.blk 8 rfl (dd _ (by omega)) | exact Rd.blk 9 rfl (dd _ (by omega)) | exact Rd.blk 0 rfl rfl | exact Rd.blk 1 rfl rfl | exact Rd.blk 2 rfl rfl | exact Rd.blk 3 rfl rfl | exact Rd.blk 4 rfl rfl | exact Rd.blk 5 rfl rfl | exact Rd.blk 6 rfl rfl | exact Rd.blk 7 rfl rfl | exact Rd.blk 8 rfl rfl | exact Rd.blk 9 rfl rfl)) ?_
            refine XA.dA 2 rfl rfl rfl (does_move rfl) ?_
            refine XA.dA 3 rfl rfl rfl (does_move rfl) ?_
            refine XA.dA 4 rfl rfl rfl (does_add rfl rfl (wrap_in (by omega))) ?_
            refine XA.dA 5 rfl rfl rfl (does_at (70 + 12 * vs.length) (70 + 12 * vs.length) (el := 3) (sz := 1) (by kernel_rfl) (by kernel_rfl) rfl rfl (by omega) (by omega) (by omega)) ?_
            refine XA.dA 6 rfl rfl rfl (does_load (by kernel_rfl) rfl (by first | assumption | exact Rd.blk 0 rfl (dd _ (by omega)) | exact Rd.blk 1 rfl (dd _ (by omega)) | exact Rd.blk 2 rfl (dd _ (by omega)) | exact Rd.blk 3 rfl (dd _ (by omega)) | exact Rd.blk 4 rfl (dd _ (by omega)) | exact Rd.blk 5 rfl (dd _ (by omega)) | exact Rd.blk 6 rfl (dd _ (by omega)) | exact Rd.blk 7 rfl (dd _ (by omega)) | exact Rd.blk 8 rfl (dd _ (by omega)) | exact Rd.blk 9 rfl (dd _ (by omega)) | exact Rd.blk 0 rfl rfl | exact Rd.blk 1 rfl rfl | exact Rd.blk 2 rfl rfl | exact Rd.blk 3 rfl rfl | exact Rd.blk 4 rfl rfl | exact Rd.blk 5 rfl rfl | exact Rd.blk 6 rfl rfl | exact Rd.blk 7 rfl rfl | exact Rd.blk 8 rfl rfl | exact Rd.blk 9 rfl rfl)) ?_
            refine XA.dA 7 rfl rfl rfl (does_move rfl) ?_
            refine XA.dA 8 rfl rfl rfl (does_rem rfl rfl (by omega) (rem_in (by omega))) ?_
            refine XA.next 9 rfl (by kernel_rfl) ?_
            refine xk_slice (el := 3) (sz := 1) (zs := [.int .i64 0]) (by kernel_rfl) (zeroB_of (by kernel_rfl)) (by kernel_rfl) rfl (by decide) (by decide) rfl (by simp [fillL, setN, Value.cells, List.range_succ, List.set]; rfl) (by decide) fun g14 => ?_
            refine XA.bk ?_
            refine XA.next 10 rfl (by kernel_rfl) ?_
            refine xk_appendT 2 1 8 1 (n' := 1) (el := 3) (by kernel_rfl) (by kernel_rfl) (by decide) rfl rfl rfl (sl_blk 0 rfl rfl) (by simp [Value.oneCell']) rfl (by omega) (by omega) (by decide) fun A6 c6 => ?_
            refine XA.bt ?_
            refine XA.next 11 rfl (by kernel_rfl) ?_
            refine xk_field (off := 5) (by kernel_rfl) rfl (by decide) ?_
            refine XA.bt ?_
            refine XA.next 12 rfl (by kernel_rfl) ?_
            refine xk_st rfl rfl ?_; dsimp only [List.set]
            refine XA.bt ?_
            refine XA.done (by kernel_rfl) ?_
            refine XK.norm ?_
            exact XK.weak [1, 2, 3, 4, 5, 6, 7, 8, 9, 10] rfl (by decide) (by simp) (XK.envS [(16, .pointer (some ⟨g12, 0, none⟩)), (15, .int .i64 (60 + 12 * vs.length)), (14, .int .i64 vs.length), (6, .pointer (some ⟨g4, 0, none⟩)), (4, .slice (some ⟨g2, 0, none⟩) 120 120), (2, .pointer (some ⟨g1, 0, none⟩))] (XK.meet ⟨[dv ds (70 + 12 * vs.length) % vs.length], A6, c6, by simp, by intro f hf; simp at hf; subst hf; exact emod_bd _ hg, rfl, rfl, rfl⟩))
          ·
            refine XK.skip ?_
            refine XK.norm ?_
            exact XK.envS [(16, .pointer (some ⟨g12, 0, none⟩)), (15, .int .i64 (60 + 12 * vs.length)), (14, .int .i64 vs.length), (6, .pointer (some ⟨g4, 0, none⟩)), (4, .slice (some ⟨g2, 0, none⟩) 120 120), (2, .pointer (some ⟨g1, 0, none⟩))] (XK.meet ⟨[], none, 0, by simp, by simp, rfl, rfl, rfl⟩)
        ·
          refine xk_guardF rfl rfl rfl (by decide) ?_
          refine xk_guardF rfl rfl rfl (by decide) ?_
          refine xk_guardF rfl rfl rfl (by decide) ?_
          refine xk_guardF rfl rfl rfl (by decide) ?_
          refine xk_guardF rfl rfl rfl (by decide) ?_
          refine xk_guardF rfl rfl rfl (by decide) ?_
          refine xk_guardF rfl rfl rfl (by decide) ?_
          (first | refine xk_pickT rfl rfl (by decide) ?_ | refine xk_pickF rfl rfl (by decide) ?_)
          refine XK.nilN ?_
          refine XK.cond rfl (fun h => by cases h) (fun _ => ?_)
          refine XK.skip ?_
          refine XK.norm ?_
          exact XK.envS [(16, .pointer (some ⟨g12, 0, none⟩)), (15, .int .i64 (60 + 12 * vs.length)), (14, .int .i64 vs.length), (6, .pointer (some ⟨g4, 0, none⟩)), (4, .slice (some ⟨g2, 0, none⟩) 120 120), (2, .pointer (some ⟨g1, 0, none⟩))] (XK.meet ⟨[], none, 0, by simp, by simp, rfl, rfl, rfl⟩)
      rintro _ _ _ ⟨nd, A6, c6, hn1, hnf, rfl, rfl, rfl⟩
      refine XK.cut (fun e R H => ∃ (nd : List Int) (A6 : Option Addr) (c6 : Nat), nd.length ≤ 2 ∧ (∀ f ∈ nd, 0 ≤ f ∧ f < vs.length) ∧ e = [(16, .pointer (some ⟨g12, 0, none⟩)), (15, .int .i64 (60 + 12 * vs.length)), (14, .int .i64 vs.length), (6, .pointer (some ⟨g4, 0, none⟩)), (4, .slice (some ⟨g2, 0, none⟩) 120 120), (2, .pointer (some ⟨g1, 0, none⟩))] ∧ R = [q, all w] ∧ H = [HP.blk g12 51 [.int .i64 (dv ds (60 + 12 * vs.length) % cs.length), .int .i64 (dv ds (61 + 12 * vs.length) % dm.length), .int .i64 (dv ds (62 + 12 * vs.length) % rs.length), .int .u32 (dv ds (63 + 12 * vs.length) % 3), .slice A5 rg.length c5, .slice A6 nd.length c6], HP.own 3 1 (.slice A6 nd.length c6) nd.length (intCells nd), HP.own 57 2 (.slice A5 rg.length c5) rg.length (rg.flatMap Rg.cells), HP.blk g4 28 [.slice A1 cs.length c1, .slice A2 dm.length c2, .slice A3 rs.length c3, .slice A4 vs.length c4], HP.own 51 6 (.slice A4 vs.length c4) vs.length rows4.flatten, HP.own 71 1 (.slice A3 rs.length c3) rs.length rows3.flatten, HP.own 69 3 (.slice A2 dm.length c2) dm.length rows2.flatten, HP.own 55 6 (.slice A1 cs.length c1) cs.length rows1.flatten, HP.blk g2 3 (intCells ds), HP.blk g1 28 [.slice none 0 0, .slice none 0 0, .slice none 0 0, .slice none 0 0]]) ?_ ?_
      ·
        refine XK.seq ?_

        refine XK.region ?_
        refine xk_move rfl (by decide) ?_
        refine xk_gtr rfl rfl (by decide) ?_
        refine xk_move rfl (by decide) ?_
        refine xk_split (t := 323) rfl (fun hg => ?_) (fun hg => ?_)
        ·
          refine xk_guardT rfl rfl ?_; refine xk_move rfl (by decide) ?_
          refine xk_guardT rfl rfl ?_; refine xk_move rfl (by decide) ?_
          refine xk_guardT rfl rfl ?_; refine xk_add rfl rfl (wrap_in (by omega)) (by decide) ?_
          refine xk_guardT rfl rfl ?_; refine xk_at (71 + 12 * vs.length) (71 + 12 * vs.length) (el := 3) (sz := 1) (by kernel_rfl) (by kernel_rfl) rfl rfl (by omega) (by omega) (by omega) (by decide) ?_
          refine xk_guardT rfl rfl ?_; refine xk_load (by kernel_rfl) rfl (by first | assumption | exact Rd.blk 0 rfl (dd _ (by omega)) | exact Rd.blk 1 rfl (dd _ (by omega)) | exact Rd.blk 2 rfl (dd _ (by omega)) | exact Rd.blk 3 rfl (dd _ (by omega)) | exact Rd.blk 4 rfl (dd _ (by omega)) | exact Rd.blk 5 rfl (dd _ (by omega)) | exact Rd.blk 6 rfl (dd _ (by omega)) | exact Rd.blk 7 rfl (dd _ (by omega)) | exact Rd.blk 8 rfl (dd _ (by omega)) | exact Rd.blk 9 rfl (dd _ (by omega)) | exact Rd.blk 0 rfl rfl | exact Rd.blk 1 rfl rfl | exact Rd.blk 2 rfl rfl | exact Rd.blk 3 rfl rfl | exact Rd.blk 4 rfl rfl | exact Rd.blk 5 rfl rfl | exact Rd.blk 6 rfl rfl | exact Rd.blk 7 rfl rfl | exact Rd.blk 8 rfl rfl | exact Rd.blk 9 rfl rfl) (by decide) ?_
          refine xk_guardT rfl rfl ?_; refine xk_rem rfl rfl (by omega) (rem_in (by omega)) (by decide) ?_
          refine xk_guardT rfl rfl ?_; refine xk_eql rfl rfl (by decide) ?_
          (first | refine xk_pickT rfl rfl (by decide) ?_ | refine xk_pickF rfl rfl (by decide) ?_)
          refine XK.nilN ?_
          refine XK.if_ rfl (fun h => ?_) (fun h => ?_)
          ·

            refine XK.draw 11 (by kernel_rfl) (by kernel_rfl) ?_
            refine XA.dA 0 rfl rfl rfl (does_field (off := 5) (by kernel_rfl) rfl) ?_
            refine XA.dA 1 rfl rfl rfl (does_load (by kernel_rfl) rfl (by first | assumption | exact Rd.blk 0 rfl (dd _ (by omega)) | exact Rd.blk 1 rfl (dd _ (by omega)) | exact Rd.blk 2 rfl (dd _ (by omega)) | exact Rd.blk 3 rfl (dd _ (by omega)) | exact Rd.blk 4 rfl (dd _ (by omega)) | exact Rd.blk 5 rfl (dd _ (by omega)) | exact Rd.blk 6 rfl (dd _ (by omega)) | exact Rd.blk 7 rfl (dd _ (by omega)) | exact Rd.blk 8 rfl (dd _ (by omega)) | exact Rd.blk 9 rfl (dd _ (by omega)) | exact Rd.blk 0 rfl rfl | exact Rd.blk 1 rfl rfl | exact Rd.blk 2 rfl rfl | exact Rd.blk 3 rfl rfl | exact Rd.blk 4 rfl rfl | exact Rd.blk 5 rfl rfl | exact Rd.blk 6 rfl rfl | exact Rd.blk 7 rfl rfl | exact Rd.blk 8 rfl rfl | exact Rd.blk 9 rfl rfl)) ?_
            refine XA.dA 2 rfl rfl rfl (does_move rfl) ?_
            refine XA.dA 3 rfl rfl rfl (does_move rfl) ?_
            refine XA.dA 4 rfl rfl rfl (does_add rfl rfl (wrap_in (by omega))) ?_
            refine XA.dA 5 rfl rfl rfl (does_at (71 + 12 * vs.length) (71 + 12 * vs.length) (el := 3) (sz := 1) (by kernel_rfl) (by kernel_rfl) rfl rfl (by omega) (by omega) (by omega)) ?_
            refine XA.dA 6 rfl rfl rfl (does_load (by kernel_rfl) rfl (by first | assumption | exact Rd.blk 0 rfl (dd _ (by omega)) | exact Rd.blk 1 rfl (dd _ (by omega)) | exact Rd.blk 2 rfl (dd _ (by omega)) | exact Rd.blk 3 rfl (dd _ (by omega)) | exact Rd.blk 4 rfl (dd _ (by omega)) | exact Rd.blk 5 rfl (dd _ (by omega)) | exact Rd.blk 6 rfl (dd _ (by omega)) | exact Rd.blk 7 rfl (dd _ (by omega)) | exact Rd.blk 8 rfl (dd _ (by omega)) | exact Rd.blk 9 rfl (dd _ (by omega)) | exact Rd.blk 0 rfl rfl | exact Rd.blk 1 rfl rfl | exact Rd.blk 2 rfl rfl | exact Rd.blk 3 rfl rfl | exact Rd.blk 4 rfl rfl | exact Rd.blk 5 rfl rfl | exact Rd.blk 6 rfl rfl | exact Rd.blk 7 rfl rfl | exact Rd.blk 8 rfl rfl | exact Rd.blk 9 rfl rfl)) ?_
            refine XA.dA 7 rfl rfl rfl (does_quo rfl rfl (by omega) (quo_in (by omega) (by omega) (by omega))) ?_
            refine XA.dA 8 rfl rfl rfl (does_move rfl) ?_
            refine XA.dA 9 rfl rfl rfl (does_rem rfl rfl (by omega) (rem_in (by omega))) ?_
            refine XA.next 10 rfl (by kernel_rfl) ?_
            refine xk_slice (el := 3) (sz := 1) (zs := [.int .i64 0]) (by kernel_rfl) (zeroB_of (by kernel_rfl)) (by kernel_rfl) rfl (by decide) (by decide) rfl (by simp [fillL, setN, Value.cells, List.range_succ, List.set]; rfl) (by decide) fun g15 => ?_
            refine XA.bk ?_
            refine XA.next 11 rfl (by kernel_rfl) ?_
            refine xk_appendT 2 1 8 1 (n' := nd.length + 1) (el := 3) (by kernel_rfl) (by kernel_rfl) (by decide) rfl rfl rfl (sl_blk 0 rfl rfl) (by simp [Value.oneCell']) rfl (by omega) (by omega) (by decide) fun A6n c6n => ?_
            refine XA.bt ?_
            refine XA.next 12 rfl (by kernel_rfl) ?_
            refine xk_field (off := 5) (by kernel_rfl) rfl (by decide) ?_
            refine XA.bt ?_
            refine XA.next 13 rfl (by kernel_rfl) ?_
            refine xk_st rfl rfl ?_; dsimp only [List.set]
            refine XA.bt ?_
            refine XA.done (by kernel_rfl) ?_
            refine XK.norm ?_
            exact XK.weak [1, 2, 3, 4, 5, 6, 7, 8, 9, 10] rfl (by decide) (by simp) (XK.envS [(16, .pointer (some ⟨g12, 0, none⟩)), (15, .int .i64 (60 + 12 * vs.length)), (14, .int .i64 vs.length), (6, .pointer (some ⟨g4, 0, none⟩)), (4, .slice (some ⟨g2, 0, none⟩) 120 120), (2, .pointer (some ⟨g1, 0, none⟩))] (XK.meet ⟨nd ++ [dv ds (71 + 12 * vs.length) / 3 % vs.length], A6n, c6n, by simp; omega, by intro f hf; simp at hf; rcases hf with hf | hf; exact hnf f hf; subst hf; exact emod_bd _ (by omega), rfl, rfl, by simp [intCells]⟩))
          ·
            refine XK.skip ?_
            refine XK.norm ?_
            exact XK.envS [(16, .pointer (some ⟨g12, 0, none⟩)), (15, .int .i64 (60 + 12 * vs.length)), (14, .int .i64 vs.length), (6, .pointer (some ⟨g4, 0, none⟩)), (4, .slice (some ⟨g2, 0, none⟩) 120 120), (2, .pointer (some ⟨g1, 0, none⟩))] (XK.meet ⟨nd, A6, c6, by omega, hnf, rfl, rfl, rfl⟩)
        ·
          refine xk_guardF rfl rfl rfl (by decide) ?_
          refine xk_guardF rfl rfl rfl (by decide) ?_
          refine xk_guardF rfl rfl rfl (by decide) ?_
          refine xk_guardF rfl rfl rfl (by decide) ?_
          refine xk_guardF rfl rfl rfl (by decide) ?_
          refine xk_guardF rfl rfl rfl (by decide) ?_
          refine xk_guardF rfl rfl rfl (by decide) ?_
          (first | refine xk_pickT rfl rfl (by decide) ?_ | refine xk_pickF rfl rfl (by decide) ?_)
          refine XK.nilN ?_
          refine XK.cond rfl (fun h => by cases h) (fun _ => ?_)
          refine XK.skip ?_
          refine XK.norm ?_
          exact XK.envS [(16, .pointer (some ⟨g12, 0, none⟩)), (15, .int .i64 (60 + 12 * vs.length)), (14, .int .i64 vs.length), (6, .pointer (some ⟨g4, 0, none⟩)), (4, .slice (some ⟨g2, 0, none⟩) 120 120), (2, .pointer (some ⟨g1, 0, none⟩))] (XK.meet ⟨nd, A6, c6, by omega, hnf, rfl, rfl, rfl⟩)
      rintro _ _ _ ⟨nd, A6, c6, hn2b, hnf, rfl, rfl, rfl⟩

      refine XK.region ?_
      refine xk_field (off := 3) (by kernel_rfl) rfl (by decide) ?_
      refine xk_load (by kernel_rfl) rfl (by first | assumption | exact Rd.blk 0 rfl (dd _ (by omega)) | exact Rd.blk 1 rfl (dd _ (by omega)) | exact Rd.blk 2 rfl (dd _ (by omega)) | exact Rd.blk 3 rfl (dd _ (by omega)) | exact Rd.blk 4 rfl (dd _ (by omega)) | exact Rd.blk 5 rfl (dd _ (by omega)) | exact Rd.blk 6 rfl (dd _ (by omega)) | exact Rd.blk 7 rfl (dd _ (by omega)) | exact Rd.blk 8 rfl (dd _ (by omega)) | exact Rd.blk 9 rfl (dd _ (by omega)) | exact Rd.blk 0 rfl rfl | exact Rd.blk 1 rfl rfl | exact Rd.blk 2 rfl rfl | exact Rd.blk 3 rfl rfl | exact Rd.blk 4 rfl rfl | exact Rd.blk 5 rfl rfl | exact Rd.blk 6 rfl rfl | exact Rd.blk 7 rfl rfl | exact Rd.blk 8 rfl rfl | exact Rd.blk 9 rfl rfl) (by decide) ?_
      refine xk_ldN 6 rfl ?_
      refine xk_slice (el := 51) (sz := 6) (zs := [.int .i64 0, .int .i64 0, .int .i64 0, .int .u32 0, .slice none 0 0, .slice none 0 0]) (by kernel_rfl) (zeroB_of (by kernel_rfl)) (by kernel_rfl) rfl (by decide) (by decide) rfl (by simp [fillL, setN, Value.cells, List.range_succ, List.set]; rfl) (by decide) fun g16 => ?_
      refine xk_appendT 5 6 80 1 (n' := vs.length + 1) (el := 51) (by kernel_rfl) (by kernel_rfl) (by decide) rfl rfl rfl (sl_blk 0 rfl rfl) (by simp [Value.oneCell']) rfl (by omega) (by omega) (by decide) fun A4n c4n => ?_
      refine xk_field (off := 3) (by kernel_rfl) rfl (by decide) ?_
      refine xk_st rfl rfl ?_; dsimp only [List.set]
      refine XK.nilN ?_

      refine XK.region ?_
      refine xk_move rfl (by decide) ?_
      refine xk_add rfl rfl (wrap_in (by omega)) (by decide) ?_
      refine xk_assign rfl (by decide) ?_
      refine XK.nilN ?_
      refine XK.still [q] [2, 3] [4, 5, 6, 7, 8, 9, 10] (by simp) rfl (by decide) (by simp) fun qn hqf hql hqn => ?_
      have hle := hql q (by simp)
      have hq2 := hqn (by simp) (by simp; exact hq)
      have hs1 := SlS.own (hqf 3 _ (by simp) rfl)
      have hs2 := SlS.own (hqf 2 _ (by simp) rfl)
      exact XK.weak [0, 1, 2, 3, 4, 5, 6] rfl (by decide) (by simp) (XK.envS [(14, .int .i64 (vs.length + 1)), (6, .pointer (some ⟨g4, 0, none⟩)), (4, .slice (some ⟨g2, 0, none⟩) 120 120), (2, .pointer (some ⟨g1, 0, none⟩))] (XK.round (5 - (vs.length + 1)) (by omega) ⟨vs ++ [⟨dv ds (60 + 12 * vs.length) % cs.length, dv ds (61 + 12 * vs.length) % dm.length, dv ds (62 + 12 * vs.length) % rs.length, dv ds (63 + 12 * vs.length) % 3, rg, nd⟩], A4n, c4n, qn, rows4 ++ [_], by simp; omega, by simp, hcr.mono (fun c r => ClkR.mono (slq_le hle)), hvf.snoc ⟨q0.1, q0.2, q1.1, q1.2, q2.1, q2.2, by dsimp only; omega, by dsimp only; omega, hg4, hgf, hn2b, hnf⟩, (hvr.mono (fun c r => DevR.mono (slq_le hle))).snoc (r := [.int .i64 (dv ds (60 + 12 * vs.length) % cs.length), .int .i64 (dv ds (61 + 12 * vs.length) % dm.length), .int .i64 (dv ds (62 + 12 * vs.length) % rs.length), .int .u32 (dv ds (63 + 12 * vs.length) % 3), .slice A5 rg.length c5, .slice A6 nd.length c6]) rfl ⟨A5, _, c5, A6, _, c6, rfl, rfl, rfl, hs1, hs2⟩, hq2, by simp, rfl, by simp⟩))
    ·
      refine XK.exit ?_
      refine XK.norm ?_
      exact XK.envS [(6, .pointer (some ⟨g4, 0, none⟩)), (4, .slice (some ⟨g2, 0, none⟩) 120 120), (2, .pointer (some ⟨g1, 0, none⟩))] (XK.meet ⟨vs, A4, c4, q, rows4, by omega, by omega, hcr, hvf, hvr, hq, rfl, rfl, rfl⟩)
  rintro _ _ _ ⟨vs, A4, c4, q, rows4, hv1, hv4, hcr, hvf, hvr, hq, rfl, rfl, rfl⟩
  refine XK.seq ?_

  refine XK.region ?_
  refine xk_ldN 4 rfl ?_
  (first | (refine xk_storeN 0 rfl rfl rfl (by kernel_rfl) (by simp [Value.cells, Value.oneCell']) (by simp [Value.cells]) ?_) | (refine xk_storeN 1 rfl rfl rfl (by kernel_rfl) (by simp [Value.cells, Value.oneCell']) (by simp [Value.cells]) ?_) | (refine xk_storeN 2 rfl rfl rfl (by kernel_rfl) (by simp [Value.cells, Value.oneCell']) (by simp [Value.cells]) ?_) | (refine xk_storeN 3 rfl rfl rfl (by kernel_rfl) (by simp [Value.cells, Value.oneCell']) (by simp [Value.cells]) ?_) | (refine xk_storeN 4 rfl rfl rfl (by kernel_rfl) (by simp [Value.cells, Value.oneCell']) (by simp [Value.cells]) ?_) | (refine xk_storeN 5 rfl rfl rfl (by kernel_rfl) (by simp [Value.cells, Value.oneCell']) (by simp [Value.cells]) ?_) | (refine xk_storeN 6 rfl rfl rfl (by kernel_rfl) (by simp [Value.cells, Value.oneCell']) (by simp [Value.cells]) ?_) | (refine xk_storeN 7 rfl rfl rfl (by kernel_rfl) (by simp [Value.cells, Value.oneCell']) (by simp [Value.cells]) ?_) | (refine xk_storeN 8 rfl rfl rfl (by kernel_rfl) (by simp [Value.cells, Value.oneCell']) (by simp [Value.cells]) ?_)); simp only [putN, Value.cells, List.set, List.take, List.drop, List.nil_append, List.append_nil, List.length_cons, List.length_nil, List.cons_append, Nat.reduceAdd]
  refine XK.nilN ?_
  refine XK.ret ?_
  refine XK.norm ?_
  refine XK.still [q] [1, 2, 3, 4] [6] (by simp) rfl (by decide) (by simp) fun qn hqf hql hqn => ?_
  have hle := hql q (by simp)
  have hq2 := hqn (by simp) (by simp; exact hq)
  have hs4 := SlS.own (hqf 1 _ (by simp) rfl)
  have hs3 := SlS.own (hqf 2 _ (by simp) rfl)
  have hs2 := SlS.own (hqf 3 _ (by simp) rfl)
  have hs1 := SlS.own (hqf 4 _ (by simp) rfl)
  have hS : SocR (slq qn) ⟨cs, dm, rs, vs⟩ #[.slice A1 cs.length c1, .slice A2 dm.length c2, .slice A3 rs.length c3, .slice A4 vs.length c4] :=
    ⟨A1, _, c1, A2, _, c2, A3, _, c3, A4, _, c4, rfl, ⟨rows1, hcr.mono (fun c r => ClkR.mono (slq_le hle)), rfl, hs1⟩, ⟨rows2, hdr, rfl, hs2⟩, ⟨rows3, hrr, rfl, hs3⟩, ⟨rows4, hvr.mono (fun c r => DevR.mono (slq_le hle)), rfl, hs4⟩⟩
  exact XK.retC rfl (by kernel_rfl) rfl rfl (RdN.whole 0 rfl) fun w1 st => ⟨⟨_, rfl, _, ⟨cs, dm, rs, vs⟩, rfl, hS.mono (slq_le (st.fresh_le (by simp) hq2)), ⟨hcf, hdf, hrf, hvf, ⟨hc1, hc9⟩, ⟨hd1, hd4⟩, ⟨hr1, hr3⟩, ⟨hv1, hv4⟩⟩⟩, st.below (by simp)⟩
end Go.Proofs.YtgopaoidgcgalaaGreatDoor
/- The law LinesSame. -/
namespace Go.Proofs.YtgopaoidgcgalaaGreatDoor
set_option linter.all false
open Go.RowKit
theorem print_can (s : Soc) (A1 A2 A3 A4 : Option Addr) (n1 k1 n2 k2 n3 k3 n4 k4 : Nat) (w : World) (hW : SocW w s A1 n1 A2 n2 A3 n3 A4 n4) (hc : s.can) (hk : checkS s = 0) (htab : PowTab w) :
    Calls Tryz.prog 17 #[.agg #[.slice A1 n1 k1, .slice A2 n2 k2, .slice A3 n3 k3, .slice A4 n4 k4]] w (Rt (.tuple #[.string (strOf (printF s)), .int .i64 0]) w) := by
  have h := print_ok s A1 A2 A3 A4 n1 k1 n2 k2 n3 k3 n4 k4 w hW (can_in64 hc) (fun d hd => by have := ((check_ok hk).devs d hd).1; omega) (fun _ => by have := print_len (check_ok hk) (can_in64 hc); omega) htab
  rw [if_pos hk, if_pos hk] at h
  exact h

end Go.Proofs.YtgopaoidgcgalaaGreatDoor
/- The law LinesBack. -/
namespace Go.Proofs.YtgopaoidgcgalaaGreatDoor
set_option linter.all false
open Go.RowKit
def ParseR (e : Int) (s : Soc) (v : Value) (w w' : World) : Prop := ∃ cs, v = .tuple #[.agg cs, .int .i64 e] ∧ SocR (slq (fresh w w')) s cs
theorem parseR_ok (t : ByteArray) (e : Int) (s : Soc) (h : parseF t = (e, s)) (mm : Int) (w : World) (hM : ROc w 0 0 (.int .i64 mm)) :
    Calls Tryz.prog 11 #[.string t] w fun y w' => (∃ v, y = .returned v ∧ ParseR e s v w w') ∧ Below w.heap.size w w' :=
  (parse_ok t mm w hM).mono fun y w' hy => by
    obtain ⟨⟨cs, h1, h2⟩, h3⟩ := hy
    rw [h] at h1 h2
    exact ⟨⟨_, h1, cs, rfl, h2⟩, h3⟩
theorem ok_small {s : Soc} (h : s.okB) : s.small := by
  have h1 := h.nc
  have h2 := h.nd
  have h3 := h.nr
  have h4 := h.nv
  exact ⟨by omega, by omega, by omega, by omega, fun c hc => by have := h.src c hc; omega, fun d hd => by have := (h.devs d hd).2; omega⟩

end Go.Proofs.YtgopaoidgcgalaaGreatDoor
/- A printed text, byte by byte: where its lines end. In plain words. -/
namespace Go.Proofs.YtgopaoidgcgalaaGreatDoor
set_option linter.all false
open Go.RowKit
/-- the walk over a text of the items l: behind pre, j bytes within the next line -/
structure Scan (l pre suf : List Item) (j : Nat) : Prop where
  eq : l = pre ++ suf
  nil : suf = [] → j = 0
  le : ∀ it r, suf = it :: r → j ≤ it.line.length
theorem Scan.text {l pre suf : List Item} {j : Nat} (h : Scan l pre suf j) : itemsT l = itemsT pre ++ itemsT suf := by rw [h.eq, itemsT_app]
theorem Scan.start (l : List Item) : Scan l [] l 0 := ⟨rfl, fun _ => rfl, fun _ _ _ => Nat.zero_le _⟩
/-- at a place of the text -/
theorem Scan.at_ {l pre suf : List Item} {j : Nat} (h : Scan l pre suf j) (hcan : ∀ i ∈ l, i.can) (hi : (itemsT pre).length + j < (itemsT l).length) :
    ∃ it r, suf = it :: r ∧ it.can ∧ j ≤ it.line.length ∧ ((itemsT l)[(itemsT pre).length + j]?.getD 0 = 10 ↔ j = it.line.length) := by
  cases suf with
  | nil =>
    rw [h.text, h.nil rfl] at hi
    simp [itemsT, unlines] at hi
  | cons it r =>
    have hj := h.le it r rfl
    have hit : it.can := hcan it (by rw [h.eq]; simp)
    refine ⟨it, r, rfl, hit, hj, ?_⟩
    rw [h.text, List.getElem?_append_right (Nat.le_add_right _ _), Nat.add_sub_cancel_left, itemsT_cons]
    rcases Nat.lt_or_ge j it.line.length with hl | hl
    · rw [List.getElem?_append_left hl, List.getElem?_eq_getElem hl]
      refine ⟨fun he => ?_, fun he => by omega⟩
      exact absurd (he ▸ List.getElem_mem hl : (10 : UInt8) ∈ it.line) (Item.line_no hit)
    · have : j = it.line.length := by omega
      rw [List.getElem?_append_right hl, this, Nat.sub_self]
      simp
theorem Scan.step {l pre suf : List Item} {j : Nat} {it : Item} {r : List Item} (h : Scan l pre suf j) (hs : suf = it :: r) (hj : j ≠ it.line.length) : Scan l pre suf (j + 1) := by
  refine ⟨h.eq, fun he => (by rw [he] at hs; cases hs), fun it' r' he => ?_⟩
  rw [he] at hs
  cases hs
  have := h.le it r he
  omega
theorem Scan.line {l pre suf : List Item} {j : Nat} {it : Item} {r : List Item} (h : Scan l pre suf j) (hs : suf = it :: r) : Scan l (pre ++ [it]) r 0 ∧ (itemsT (pre ++ [it])).length = (itemsT pre).length + it.line.length + 1 := by
  refine ⟨⟨by rw [h.eq, hs]; simp, fun _ => rfl, fun _ _ _ => Nat.zero_le _⟩, ?_⟩
  rw [itemsT_app, List.length_append, show itemsT [it] = it.line ++ [10] from by simp [itemsT, unlines], List.length_append]
  simp; omega
theorem extract_strOf (l : List UInt8) (i j : Nat) : (strOf l).extract i j = strOf ((l.drop i).take (j - i)) := by
  apply ByteArray.ext
  simp [strOf, ByteArray.data_extract, List.extract_eq_take_drop]
/-- the line, and its first bytes -/
theorem Scan.cut {l pre suf : List Item} {j : Nat} {it : Item} {r : List Item} (h : Scan l pre suf j) (hs : suf = it :: r) (k : Nat) (hk : k ≤ it.line.length + 1) :
    ((itemsT l).drop (itemsT pre).length).take k = (it.line ++ [10]).take k ∧ (itemsT pre).length + k ≤ (itemsT l).length := by
  have ht := h.text
  rw [hs, itemsT_cons] at ht
  constructor
  · rw [ht, List.drop_left, show it.line ++ 10 :: itemsT r = (it.line ++ [10]) ++ itemsT r from by simp, List.take_append_of_le_length (by simp; omega)]
  · rw [ht]; simp; omega
def Item.kw : Item → List UInt8
  | .clk _ => kwC
  | .dom _ => kwD
  | .res _ => kwR
  | .dev _ => kwV
  | .reg _ => kwG
theorem Item.line_kw {i : Item} : ∃ r, i.line = i.kw ++ 32 :: r := by
  cases i with
  | clk c => exact ⟨joinW ([UInt8.ofNat c.kind.toNat] :: c.nums.map numW), rfl⟩
  | dom d => exact ⟨joinW [aboveW d.above, numW d.delay, keptW d.ret], rfl⟩
  | res r => exact ⟨joinW [numW r], rfl⟩
  | dev d => exact ⟨joinW (numW d.clock :: numW d.domain :: numW d.reset :: numW d.clamp :: d.needs.map numW), rfl⟩
  | reg r => exact ⟨joinW [numW r.reset, keptW r.kept], rfl⟩
/-- is it a device, or a register? -/
def Item.dv : Item → Bool
  | .dev _ => true
  | .reg _ => true
  | _ => false
/-- which of the other kinds -/
def Item.kd : Item → Nat
  | .res _ => 0
  | .dom _ => 1
  | .clk _ => 2
  | _ => 3
theorem Item.line_len (i : Item) : 4 ≤ i.line.length := by
  obtain ⟨r, hr⟩ := i.line_kw
  rw [hr]
  cases i <;> simp [Item.kw, kwC, kwD, kwR, kwV, kwG]
/-! ### the kinds apart -/
end Go.Proofs.YtgopaoidgcgalaaGreatDoor
/- The law LinesOrder. -/
namespace Go.Proofs.YtgopaoidgcgalaaGreatDoor
set_option linter.all false
open Go.RowKit
section
variable {P : Program} {N : Frm} {w0 : World} {e : Env} {R : List Piece} {H : List HP} {Q : Exit → Act → World → Prop} {ops : Array Oper} {rest : List Oper}
variable {d : Nat} {ty : TypeId} {pos : String} {aft : Array Edge}
theorem xk_sliceTo (j : Nat) {x hi : Operand} {t : TypeId} {s : ByteArray} {k2 : IntKind} {b : Int} (ht : P.underlying t = some .string) (hx : e.ev x = some (.string s)) (hhi : e.ev hi = some (.int k2 b)) (hb : b = (j : Int)) (hj : j ≤ s.size) (hd : d < N.n)
    (k : XK N w0 (wpList P ops Q rest) ((d, .string (s.extract 0 j)) :: e) R H) :
    XK N w0 (wpList P ops Q (⟨some d, .slice t x none (some hi) none, ty, pos, aft, none⟩ :: rest)) e R H := xk_pure hd (fun a' w hr => by
  subst hb
  have h := run_slice_string_to_if (P := P) w t s k2 j ht
  rw [if_pos ⟨by omega, by omega⟩] at h
  simp only [Int.toNat_natCast] at h
  simp [execOp, hr.ev hx, hr.ev hhi, run_sliceAt_string (h := ht), h]) k
end
theorem u8_eq {b : UInt8} (n : Nat) (h : n < 256) : ((b.toNat : Nat) : Int) = (n : Int) ↔ b = UInt8.ofNat n := by
  have hn : (UInt8.ofNat n).toNat = n := by rw [UInt8.toNat_ofNat']; exact Nat.mod_eq_of_lt (by omega)
  constructor
  · intro he
    apply UInt8.toNat_inj.1
    rw [hn]; omega
  · rintro rfl
    rw [hn]
theorem u8_10 {b : UInt8} : ((b.toNat : Nat) : Int) = 10 ↔ b = 10 := u8_eq 10 (by decide)
theorem extract0 (l : List UInt8) (j : Nat) : (strOf l).extract 0 j = strOf (l.take j) := by rw [extract_strOf]; simp
end Go.Proofs.YtgopaoidgcgalaaGreatDoor
/- Texts that are wrong by one byte: in plain words. -/
namespace Go.Proofs.YtgopaoidgcgalaaGreatDoor
set_option linter.all false
open Go.RowKit
/-- how many lines a chip has -/
def regsN (l : List Dev) : Nat := (l.map fun d => d.regs.length).sum
def manyF (s : Soc) : Nat := s.clocks.length + s.domains.length + s.resets.length + s.devs.length + regsN s.devs
theorem devs_many : ∀ l : List Dev, (l.flatMap Dev.items).length = l.length + regsN l
  | [] => rfl
  | d :: l => by
    rw [List.flatMap_cons, List.length_append, devs_many l]
    simp only [Dev.items, List.length_cons, List.length_map, regsN, List.map_cons, List.sum_cons]
    omega
theorem items_many (s : Soc) : s.items.length = manyF s := by
  simp only [Soc.items, List.length_append, List.length_map, devs_many, manyF]
  omega
theorem regsN_take (l : List Dev) (k : Nat) (d : Dev) (h : l[k]? = some d) : regsN (l.take (k + 1)) = regsN (l.take k) + d.regs.length := by
  rw [List.take_add_one, h]
  simp [regsN]
theorem regsN_le (b : Nat) : ∀ l : List Dev, (∀ d ∈ l, d.regs.length ≤ b) → regsN l ≤ l.length * b
  | [], _ => Nat.zero_le _
  | d :: l, h => by
    have h1 := h d (by simp)
    have h2 := regsN_le b l (fun x hx => h x (by simp [hx]))
    simp only [regsN, List.map_cons, List.sum_cons, List.length_cons, Nat.succ_mul] at h2 ⊢
    omega
/-! ### a text's end -/
theorem itemsT_snoc (pre : List Item) (i : Item) : itemsT (pre ++ [i]) = itemsT pre ++ i.line ++ [10] := by
  rw [itemsT_app, show itemsT [i] = i.line ++ [10] from by simp [itemsT, unlines], List.append_assoc]
theorem line_end (X : List UInt8) {i : Item} (h : i.can) : ∃ Y b, X ++ i.line = Y ++ [b] ∧ b ≠ 10 := by
  have hl := i.line_len
  rcases List.eq_nil_or_concat i.line with he | ⟨Y, b, he⟩
  · rw [he] at hl; simp at hl
  · refine ⟨X ++ Y, b, by rw [he]; simp, fun hb => Item.line_no h ?_⟩
    rw [he, hb]; simp
theorem snoc_inj {α : Type} {X Y : List α} {a b : α} (h : X ++ [a] = Y ++ [b]) : X = Y ∧ a = b := by
  have h1 := List.append_inj' h rfl
  exact ⟨h1.1, by simpa using h1.2⟩
theorem items_end {l : List Item} (hl : l ≠ []) (hc : ∀ i ∈ l, i.can) : ∃ X b, itemsT l = X ++ [b] ++ [10] ∧ b ≠ 10 := by
  rcases List.eq_nil_or_concat l with rfl | ⟨pre, i, rfl⟩
  · exact absurd rfl hl
  · rw [List.concat_eq_append] at hc ⊢
    obtain ⟨Y, b, h1, h2⟩ := line_end (itemsT pre) (hc i (by simp))
    exact ⟨Y, b, by rw [itemsT_snoc, h1], h2⟩
theorem cont_end {t : List UInt8} {s : Soc} (h : contF soc0 t = some s) : t = [] ∨ ∃ X b, t = X ++ [b] ++ [10] ∧ b ≠ 10 := by
  obtain ⟨is, rfl, h1, _⟩ := items_contF h
  cases is with
  | nil => exact .inl rfl
  | cons i is => exact .inr (items_end (by simp) h1)
theorem cut_end {l : List Item} (hl : l ≠ []) (hc : ∀ i ∈ l, i.can) : contF soc0 ((itemsT l).take ((itemsT l).length - 1)) = none := by
  obtain ⟨X, b, h1, h2⟩ := items_end hl hc
  have h3 : (itemsT l).take ((itemsT l).length - 1) = X ++ [b] := by
    rw [h1, List.length_append, List.length_singleton, Nat.add_sub_cancel, List.take_left]
  rw [h3]
  cases hx : contF soc0 (X ++ [b]) with
  | none => rfl
  | some s =>
    rcases cont_end hx with he | ⟨Y, c, he, _⟩
    · simp at he
    · exact absurd (snoc_inj he).2 h2
theorem more_end {l : List Item} (hl : l ≠ []) (hc : ∀ i ∈ l, i.can) : contF soc0 (itemsT l ++ [10]) = none := by
  obtain ⟨X, b, h1, h2⟩ := items_end hl hc
  cases hx : contF soc0 (itemsT l ++ [10]) with
  | none => rfl
  | some s =>
    rcases cont_end hx with he | ⟨Y, c, he, hc10⟩
    · simp at he
    · rw [h1] at he
      have h4 := (snoc_inj he).1
      exact absurd (snoc_inj h4).2.symm hc10
/-! ### no blank beside a blank -/
def sepB (b : UInt8) : Bool := b == 32 || b == 10
def sepOk : Bool → List UInt8 → Bool
  | _, [] => true
  | b, c :: r => if sepB c then !b && sepOk true r else sepOk false r
def sepSt : Bool → List UInt8 → Bool
  | b, [] => b
  | _, c :: r => sepSt (sepB c) r
theorem sepOk_app : ∀ (x y : List UInt8) (b : Bool), sepOk b (x ++ y) = (sepOk b x && sepOk (sepSt b x) y)
  | [], y, b => by simp [sepOk, sepSt]
  | c :: x, y, b => by
    rw [List.cons_append, sepOk, sepOk, sepSt]
    cases h : sepB c
    · simp only [Bool.false_eq_true, if_false]; exact sepOk_app x y false
    · simp only [if_true]; rw [sepOk_app x y true, Bool.and_assoc]
theorem sepSt_app : ∀ (x y : List UInt8) (b : Bool), sepSt b (x ++ y) = sepSt (sepSt b x) y
  | [], y, b => rfl
  | c :: x, y, b => by rw [List.cons_append, sepSt, sepSt, sepSt_app]
theorem isWord_sep {w : List UInt8} (h : isWord w) : ∀ b, sepOk b w = true ∧ sepSt b w = false := by
  obtain ⟨h1, h2⟩ := h
  have key : ∀ (w : List UInt8), (∀ b ∈ w, b ≠ 32 ∧ b ≠ 10) → ∀ b, sepOk b w = true ∧ (w ≠ [] → sepSt b w = false) := by
    intro w
    induction w with
    | nil => intro _ b; exact ⟨rfl, fun h => absurd rfl h⟩
    | cons c w ih =>
      intro hw b
      have hc := hw c (by simp)
      have hs : sepB c = false := by simp [sepB, hc.1, hc.2]
      obtain ⟨i1, i2⟩ := ih (fun x hx => hw x (by simp [hx])) false
      refine ⟨by rw [sepOk, hs]; simpa using i1, fun _ => ?_⟩
      rw [sepSt, hs]
      cases w with
      | nil => rfl
      | cons d w => exact i2 (by simp)
  intro b
  exact ⟨(key w h2 b).1, (key w h2 b).2 h1⟩
theorem join_sep : ∀ (ws : List (List UInt8)), ws ≠ [] → (∀ w ∈ ws, isWord w) → ∀ b, sepOk b (joinW ws) = true ∧ sepSt b (joinW ws) = false
  | [], h, _, _ => absurd rfl h
  | [w], _, h, b => isWord_sep (h w (by simp)) b
  | w :: x :: ws, _, h, b => by
    obtain ⟨h1, h2⟩ := isWord_sep (h w (by simp)) b
    obtain ⟨h3, h4⟩ := join_sep (x :: ws) (by simp) (fun y hy => h y (by simp [hy])) true
    rw [joinW, sepOk_app, sepSt_app, h1, h2, sepOk, sepSt, show sepB 32 = true from rfl]
    exact ⟨by simp [h3], h4⟩
theorem items_sep : ∀ (l : List Item), (∀ i ∈ l, i.can) → sepOk true (itemsT l) = true
  | [], _ => rfl
  | i :: l, h => by
    obtain ⟨w1, w2⟩ := i.isWords (h i (by simp))
    obtain ⟨h1, h2⟩ := join_sep i.words w1 w2 true
    have ih := items_sep l fun j hj => h j (by simp [hj])
    rw [itemsT_cons, sepOk_app, show i.line = joinW i.words from rfl, h1, h2, sepOk, show sepB 10 = true from rfl, ih]
    rfl
theorem cont_sep {t : List UInt8} {s : Soc} (h : contF soc0 t = some s) : sepOk true t = true := by
  obtain ⟨is, rfl, h1, _⟩ := items_contF h
  exact items_sep is h1
/-- the place is beside a blank or a line's end -/
def besideP (t : List UInt8) (k : Nat) : Prop := k = 0 ∨ sepB (t[k]?.getD 0) = true ∨ sepB (t[k - 1]?.getD 0) = true
theorem sepSt_take (t : List UInt8) (k : Nat) (hk : k < t.length) (h : k = 0 ∨ sepB (t[k - 1]?.getD 0) = true) : sepSt true (t.take k) = true := by
  cases k with
  | zero => rfl
  | succ k =>
    rcases h with h | h
    · cases h
    · rw [List.take_add_one, Nat.add_sub_cancel] at *
      rw [List.getElem?_eq_getElem (by omega)] at h ⊢
      rw [sepSt_app]
      simpa [sepSt] using h
theorem blank_none {t : List UInt8} {k : Nat} (hk : k < t.length) (h : besideP t k) : contF soc0 (t.take k ++ [32] ++ t.drop k) = none := by
  cases hx : contF soc0 (t.take k ++ [32] ++ t.drop k) with
  | none => rfl
  | some s =>
    exfalso
    have h1 := cont_sep hx
    rw [List.append_assoc, sepOk_app, List.singleton_append, sepOk, show sepB 32 = true from rfl] at h1
    simp only [if_true, Bool.and_eq_true] at h1
    obtain ⟨_, h2, h3⟩ := h1
    have hcase : (k = 0 ∨ sepB (t[k - 1]?.getD 0) = true) ∨ sepB (t[k]?.getD 0) = true := by
      rcases h with h | h | h
      · exact .inl (.inl h)
      · exact .inr h
      · exact .inl (.inr h)
    rcases hcase with h4 | h4
    · rw [sepSt_take t k hk h4] at h2
      cases h2
    · rw [List.drop_eq_getElem_cons hk, sepOk] at h3
      rw [List.getElem?_eq_getElem hk] at h4
      simp only [Option.getD_some] at h4
      rw [h4] at h3
      simp at h3
/-- what a text without one byte says is another chip -/
theorem less_other {s x : Soc} {k : Nat} (hk : k < (printF s).length) (h : contF soc0 ((printF s).take k ++ (printF s).drop (k + 1)) = some x) : x ≠ s := by
  rintro rfl
  have h1 := contF_len h
  rw [List.length_append, List.length_take, List.length_drop] at h1
  omega
theorem sepB_iff (b : UInt8) : sepB b = true ↔ ((b.toNat : Nat) : Int) = 32 ∨ ((b.toNat : Nat) : Int) = 10 := by
  unfold sepB
  rw [Bool.or_eq_true, beq_iff_eq, beq_iff_eq]
  constructor
  · rintro (rfl | rfl)
    · exact .inl rfl
    · exact .inr rfl
  · intro h
    rcases h with h | h
    · left; apply UInt8.toNat_inj.1; have : (32 : UInt8).toNat = 32 := rfl; omega
    · right; apply UInt8.toNat_inj.1; have : (10 : UInt8).toNat = 10 := rfl; omega
end Go.Proofs.YtgopaoidgcgalaaGreatDoor
/- The law LinesStrict. -/
namespace Go.Proofs.YtgopaoidgcgalaaGreatDoor
set_option linter.all false
open Go.RowKit
section
variable {P : Program} {N : Frm} {w0 : World} {e : Env} {R : List Piece} {H : List HP} {d : Nat} {ty : TypeId} {pos : String} {aft : Array Edge}
theorem does_addStr {x y : Operand} {t u : TypeId} {a b : ByteArray} (hx : e.ev x = some (.string a)) (hy : e.ev y = some (.string b)) (hl : a.size + b.size ≤ 9223372036854775807) : Does P N w0 e R H ⟨some d, .binOp .add t x y u, ty, pos, aft, none⟩ (.string (a ++ b)) := does_of (fun a' w hr => by
  simp [execOp, hr.ev hx, hr.ev hy, eqGuard, binOp_string_add, run_string_add_sum (a := a) (b := b) (h := hl)])
theorem does_sliceTo (j : Nat) {x hi : Operand} {t : TypeId} {s : ByteArray} {k2 : IntKind} {b : Int} (ht : P.underlying t = some .string) (hx : e.ev x = some (.string s)) (hhi : e.ev hi = some (.int k2 b)) (hb : b = (j : Int)) (hj : j ≤ s.size) : Does P N w0 e R H ⟨some d, .slice t x none (some hi) none, ty, pos, aft, none⟩ (.string (s.extract 0 j)) := does_of (fun a' w hr => by
  subst hb
  have h := run_slice_string_to_if (P := P) w t s k2 j ht
  rw [if_pos ⟨by omega, by omega⟩] at h
  simp only [Int.toNat_natCast] at h
  simp [execOp, hr.ev hx, hr.ev hhi, run_sliceAt_string (h := ht), h])
theorem does_sliceFrom (i : Nat) {x lo : Operand} {t : TypeId} {s : ByteArray} {k1 : IntKind} {a : Int} (ht : P.underlying t = some .string) (hx : e.ev x = some (.string s)) (hlo : e.ev lo = some (.int k1 a)) (ha : a = (i : Int)) (hi : i ≤ s.size) : Does P N w0 e R H ⟨some d, .slice t x (some lo) none none, ty, pos, aft, none⟩ (.string (s.extract i s.size)) := does_of (fun a' w hr => by
  subst ha
  have h := run_slice_string_from_if (P := P) w t s k1 i ht
  rw [if_pos ⟨by omega, by omega⟩] at h
  simp only [Int.toNat_natCast] at h
  simp [execOp, hr.ev hx, hr.ev hlo, run_sliceAt_string (h := ht), h])
end
theorem extractE (l : List UInt8) (i : Nat) : (strOf l).extract i (strOf l).size = strOf (l.drop i) := by
  rw [extract_strOf, strOf_size, List.take_of_length_le (by simp)]
def besideB (t : List UInt8) (k : Nat) : Bool := k == 0 || sepB (t[k]?.getD 0) || sepB (t[k - 1]?.getD 0)
theorem beside_iff {t : List UInt8} {k : Nat} : besideB t k = true ↔ ((k : Int) = 0 ∨ ((bAt (strOf t) k).toNat : Int) = 32 ∨ ((bAt (strOf t) k).toNat : Int) = 10 ∨ ((bAt (strOf t) (k - 1)).toNat : Int) = 32 ∨ ((bAt (strOf t) (k - 1)).toNat : Int) = 10) := by
  unfold besideB
  rw [Bool.or_eq_true, Bool.or_eq_true, sepB_iff, sepB_iff, beq_iff_eq, bAt_strOf, bAt_strOf]
  constructor
  · rintro ((h | h | h) | h | h) <;> omega
  · intro h; omega
theorem beside_p {t : List UInt8} {k : Nat} (h : besideB t k = true) : besideP t k := by
  unfold besideB at h
  rw [Bool.or_eq_true, Bool.or_eq_true, beq_iff_eq] at h
  rcases h with (h | h) | h
  · exact .inl h
  · exact .inr (.inl h)
  · exact .inr (.inr h)
/-- what the law asks, of a chip -/
theorem strict_f {s : Soc} {k : Nat} (hk : k < (itemsT s.items).length) : ∃ f x, parseF (strOf ((itemsT s.items).take k) ++ ⟨#[32]⟩ ++ strOf ((itemsT s.items).drop k)) = (f, x) ∧ (besideB (itemsT s.items) k = true → f = 2) := by
  refine ⟨_, _, rfl, fun h => ?_⟩
  rw [show (⟨#[32]⟩ : ByteArray) = strOf [32] from rfl, strOf_append, strOf_append]
  exact congrArg Prod.fst (parse_none (blank_none hk (beside_p h)))
theorem strict_i {s : Soc} {k : Nat} (hk : k < (itemsT s.items).length) : ∃ f x, parseF (strOf ((itemsT s.items).take k) ++ strOf ((itemsT s.items).drop (k + 1))) = (f, x) ∧ (f = 0 → x ≠ s ∧ x.okB) := by
  refine ⟨_, _, rfl, fun h => ?_⟩
  rw [strOf_append] at h ⊢
  rcases parse_back (t := strOf ((itemsT s.items).take k ++ (itemsT s.items).drop (k + 1))) rfl with ⟨_, _, h2, h3, _⟩ | ⟨h1, _⟩
  · refine ⟨less_other hk ?_, check_ok h2⟩
    simpa [strOf, printF] using h3
  · exact absurd h h1
theorem made_ne {s : Soc} (h : s.made) : s.items ≠ [] := by
  intro he
  have h1 := items_many s
  have h2 := h.nc.1
  rw [he] at h1
  simp only [List.length_nil, manyF] at h1
  omega

set_option maxHeartbeats 4000000 in
theorem lstrict_any (A : Option Addr) (n c : Nat) (zs : List Int) (wt : Int) (mm : Int) (w : World) (h0 : SlS (all w) 1 A n (intCells zs)) (hz : I64s zs) (hn : n = zs.length) (hn2 : n ≤ 9223372036854775807) (hwt : -9223372036854775808 ≤ wt ∧ wt ≤ 9223372036854775807) (hM : ROc w 0 0 (.int .i64 mm)) (htab : PowTab w) :
    Calls Tryz.prog 7 #[.slice A n c, .int .i64 wt] w (Rt (.bool true) w) := by
  refine XK.enter (vs := [.slice A n c, .int .i64 wt]) Tryz.func7 rfl Tryz.ntmps7 (by simp) ?_
  refine XK.seq ?_

  refine XK.region ?_
  refine xk_assign rfl (by decide) ?_
  refine XK.nilN ?_
  refine XK.seq ?_

  refine XK.region ?_
  refine xk_callR (f := 10) (fi := []) (ca := []) (by kernel_rfl) rfl rfl (by decide) (fun w1 st => shown5_ok mm w1 ⟨Nat.lt_of_lt_of_le hM.1 (st.below (by simp)).size, hM.go (st.below (by simp))⟩) ?_
  refine xk_assign rfl (by decide) ?_
  refine XK.nilN ?_
  refine XK.seq ?_
  refine XK.seq ?_

  refine XK.region ?_
  refine xk_move rfl (by decide) ?_
  (first | refine xk_notD rfl (by decide) ?_ | refine xk_not rfl (by decide) ?_)
  refine XK.nilN ?_
  refine XK.cond rfl (fun h => by cases h) (fun h => ?_)
  ·
    refine XK.skip ?_
    refine XK.norm ?_
    refine XK.seq ?_

    refine XK.region ?_
    refine xk_move rfl (by decide) ?_
    refine xk_call [] (f := 19) (fi := []) (ca := []) (by kernel_rfl) rfl rfl (by decide) (by simp) (fun v w w' => ∃ cs s, v = .agg cs ∧ SocR (slq (fresh w w')) s cs ∧ s.made) (fun w1 st => chip5_any A n c zs w1 (h0.le (st.le (by simp))) hz hn hn2) ?_
    rintro _ w1 q1 ⟨cs, s, rfl, hS, hm⟩ hf _ _
    obtain ⟨A1, n1, k1, A2, n2, k2, A3, n3, k3, A4, n4, k4, rfl, hSQ⟩ := (hS.mono (slq_le hf)).Q
    clear hf hS
    refine xk_alloc (cs := [.slice none 0 0, .slice none 0 0, .slice none 0 0, .slice none 0 0]) (zeroB_of (by kernel_rfl)) (by decide) fun g1 => ?_
    (first | (refine xk_storeN 0 rfl rfl rfl (by kernel_rfl) (by simp [Value.cells, Value.oneCell']) (by simp [Value.cells]) ?_) | (refine xk_storeN 1 rfl rfl rfl (by kernel_rfl) (by simp [Value.cells, Value.oneCell']) (by simp [Value.cells]) ?_) | (refine xk_storeN 2 rfl rfl rfl (by kernel_rfl) (by simp [Value.cells, Value.oneCell']) (by simp [Value.cells]) ?_) | (refine xk_storeN 3 rfl rfl rfl (by kernel_rfl) (by simp [Value.cells, Value.oneCell']) (by simp [Value.cells]) ?_) | (refine xk_storeN 4 rfl rfl rfl (by kernel_rfl) (by simp [Value.cells, Value.oneCell']) (by simp [Value.cells]) ?_) | (refine xk_storeN 5 rfl rfl rfl (by kernel_rfl) (by simp [Value.cells, Value.oneCell']) (by simp [Value.cells]) ?_) | (refine xk_storeN 6 rfl rfl rfl (by kernel_rfl) (by simp [Value.cells, Value.oneCell']) (by simp [Value.cells]) ?_) | (refine xk_storeN 7 rfl rfl rfl (by kernel_rfl) (by simp [Value.cells, Value.oneCell']) (by simp [Value.cells]) ?_) | (refine xk_storeN 8 rfl rfl rfl (by kernel_rfl) (by simp [Value.cells, Value.oneCell']) (by simp [Value.cells]) ?_)); simp only [putN, Value.cells, List.set, List.take, List.drop, List.nil_append, List.append_nil, List.length_cons, List.length_nil, List.cons_append, Nat.reduceAdd]
    refine XK.nilN ?_
    refine XK.seq ?_

    refine XK.region ?_
    refine xk_ldN 4 rfl ?_
    refine xk_callR (f := 17) (fi := []) (ca := []) (by kernel_rfl) rfl rfl (by decide) (fun w1 st => print_can s A1 A2 A3 A4 n1 k1 n2 k2 n3 k3 n4 k4 w1 (hSQ.W (st.le (by simp)) (made_small hm)) (made_can hm) (made_check hm) (PowTab.go htab (st.below (by simp)))) ?_
    have hcan := made_can hm
    have hchk := made_check hm
    have hpl := print_len (check_ok hchk) (can_in64 hcan)
    have hic := hcan.items
    have hne := made_ne hm
    have hmy := items_many s
    have hrg := made_regs hm
    have hce := cut_end hne hic
    have hme := more_end hne hic
    rw [show printF s = itemsT s.items from rfl] at hpl ⊢
    have hsz := strOf_size (itemsT s.items)
    have hpg := parse_none hce
    have hph : parseF (strOf (itemsT s.items) ++ ⟨#[10]⟩) = (2, soc0) := by rw [show (⟨#[10]⟩ : ByteArray) = strOf [10] from rfl, strOf_append, parse_none hme]
    have hT0 : 0 < (itemsT s.items).length := by
      obtain ⟨X, b, h1, _⟩ := items_end hne hic
      rw [h1]; simp
    have hTn : ¬ strOf (itemsT s.items) = ⟨#[]⟩ := fun he => by
      have := congrArg ByteArray.size he
      rw [hsz] at this
      have h0 : ByteArray.size ⟨#[]⟩ = 0 := rfl
      omega
    obtain ⟨hl1, hl2, hl3, hl4⟩ := hSQ.len
    obtain ⟨hb1, hb2, hb3, hb4, hb5, hb6⟩ := check_ok hchk
    clear hcan hchk
    refine xk_move rfl (by decide) ?_
    refine xk_extract rfl rfl (by decide) ?_
    refine xk_extract rfl rfl (by decide) ?_
    refine xk_assign rfl (by decide) ?_
    refine xk_assign rfl (by decide) ?_
    refine XK.nilN ?_
    refine XK.seq ?_

    refine XK.region ?_
    refine xk_field (off := 0) (by kernel_rfl) rfl (by decide) ?_
    refine xk_ld rfl ?_
    refine xk_len (el := 55) (by kernel_rfl) rfl (by decide) ?_
    refine xk_field (off := 1) (by kernel_rfl) rfl (by decide) ?_
    refine xk_ld rfl ?_
    refine xk_len (el := 69) (by kernel_rfl) rfl (by decide) ?_
    refine xk_add rfl rfl (wrap_in (by omega)) (by decide) ?_
    refine xk_field (off := 2) (by kernel_rfl) rfl (by decide) ?_
    refine xk_ld rfl ?_
    refine xk_len (el := 71) (by kernel_rfl) rfl (by decide) ?_
    refine xk_add rfl rfl (wrap_in (by omega)) (by decide) ?_
    refine xk_field (off := 3) (by kernel_rfl) rfl (by decide) ?_
    refine xk_ld rfl ?_
    refine xk_len (el := 51) (by kernel_rfl) rfl (by decide) ?_
    refine xk_add rfl rfl (wrap_in (by omega)) (by decide) ?_
    refine xk_assign rfl (by decide) ?_
    refine XK.nilN ?_
    refine XK.seq ?_
    refine XK.seq ?_

    refine XK.region ?_
    refine xk_assign rfl (by decide) ?_
    refine XK.nilN ?_
    refine XK.envS [(10, .int .i64 0), (9, .int .i64 ((n1 : Int) + n2 + n3 + n4)), (1, .int .i64 wt), (8, .int .i64 0), (7, .string (strOf (itemsT s.items))), (6, .pointer (some ⟨g1, 0, none⟩)), (4, .bool false)] ?_
    refine XK.block ?_
    refine XK.loop (fun m e R H => ∃ (k : Nat) (Mv : Int), k ≤ n4 ∧ Mv = ((n1 : Int) + n2 + n3 + n4 + (regsN (s.devs.take k) : Nat)) ∧ m = n4 - k ∧ e = [(10, .int .i64 (k : Int)), (9, .int .i64 Mv), (1, .int .i64 wt), (8, .int .i64 0), (7, .string (strOf (itemsT s.items))), (6, .pointer (some ⟨g1, 0, none⟩)), (4, .bool false)] ∧ R = [q1, all w] ∧ H = [HP.blk g1 28 [.slice A1 n1 k1, .slice A2 n2 k2, .slice A3 n3 k3, .slice A4 n4 k4]]) n4 ⟨0, _, by omega, by simp [regsN], by omega, rfl, rfl, rfl⟩ fun m e R H hI => ?_
    obtain ⟨k, Mv, hkn, hMv, rfl, rfl, rfl, rfl⟩ := hI
    refine XK.seq ?_
    refine XK.seq ?_

    refine XK.region ?_
    refine xk_move rfl (by decide) ?_
    refine xk_field (off := 3) (by kernel_rfl) rfl (by decide) ?_
    refine xk_ld rfl ?_
    refine xk_len (el := 51) (by kernel_rfl) rfl (by decide) ?_
    refine xk_lss rfl rfl (by decide) ?_
    refine XK.nilN ?_
    refine XK.if_ rfl (fun hlt => ?_) (fun hlt => ?_)
    ·
      refine XK.skip ?_
      refine XK.norm ?_
      refine XK.seq ?_
      refine XK.block ?_
      obtain ⟨d, hd⟩ : ∃ d, s.devs[k]? = some d := ⟨_, List.getElem?_eq_getElem (by omega)⟩
      have hrk := hrg d (List.mem_of_getElem? hd)
      have hrn := regsN_le 4 (s.devs.take k) (fun d hd => hrg d (List.mem_of_mem_take hd))
      have hrt := regsN_take s.devs k d hd
      rw [List.length_take] at hrn
      obtain ⟨bV, oV, rV, rfl, hzV, _, hR, hcV⟩ := hSQ.dev.rowQ hd
      obtain ⟨Ar, nr, kr, Ann, nn, knn, rfl, hnr, _⟩ := hR

      refine XK.region ?_
      refine xk_move rfl (by decide) ?_
      refine xk_field (off := 3) (by kernel_rfl) rfl (by decide) ?_
      refine xk_ld rfl ?_
      refine xk_move rfl (by decide) ?_
      refine xk_at (k) (oV + k * 6) (el := 51) (sz := 6) (by kernel_rfl) (by kernel_rfl) rfl rfl (by omega) (by omega) (by omega) (by decide) ?_
      refine xk_field (off := 4) (by kernel_rfl) rfl (by decide) ?_
      refine xk_load (by kernel_rfl) rfl (Rd.ro (p := q1) (by simp) hzV (hcV 4 _ rfl)) (by decide) ?_
      refine xk_len (el := 57) (by kernel_rfl) rfl (by decide) ?_
      refine xk_add rfl rfl (wrap_in (by omega)) (by decide) ?_
      refine xk_assign rfl (by decide) ?_
      refine XK.nilN ?_

      refine XK.region ?_
      refine xk_move rfl (by decide) ?_
      refine xk_add rfl rfl (wrap_in (by omega)) (by decide) ?_
      refine xk_assign rfl (by decide) ?_
      refine XK.nilN ?_
      exact XK.envS [(10, .int .i64 ((k + 1 : Nat) : Int)), (9, .int .i64 (Mv + (nr : Int))), (1, .int .i64 wt), (8, .int .i64 0), (7, .string (strOf (itemsT s.items))), (6, .pointer (some ⟨g1, 0, none⟩)), (4, .bool false)] (XK.round (n4 - (k + 1)) (by omega) ⟨k + 1, _, by omega, by rw [hrt, hMv, hnr]; omega, rfl, rfl, rfl, rfl⟩)
    ·
      refine XK.exit ?_
      refine XK.norm ?_
      refine XK.seq ?_
      obtain rfl : Mv = ((s.items.length : Nat) : Int) := by
        rw [hMv, hmy, manyF, List.take_of_length_le (by omega)]; omega
      clear hMv

      refine XK.region ?_
      refine xk_assign rfl (by decide) ?_
      refine XK.nilN ?_
      refine XK.seq ?_
      refine XK.seq ?_

      refine XK.region ?_
      refine xk_assign rfl (by decide) ?_
      refine XK.nilN ?_
      refine XK.envS [(12, .int .i64 0), (11, .int .i64 0), (9, .int .i64 ((s.items.length : Nat) : Int)), (1, .int .i64 wt), (8, .int .i64 0), (7, .string (strOf (itemsT s.items))), (6, .pointer (some ⟨g1, 0, none⟩)), (4, .bool false)] ?_
      refine XK.block ?_
      refine XK.loop (fun m e R H => ∃ (pre suf : List Item) (j : Nat), Scan s.items pre suf j ∧ m = (itemsT s.items).length - ((itemsT pre).length + j) ∧ e = [(12, .int .i64 (((itemsT pre).length + j : Nat) : Int)), (11, .int .i64 ((pre.length : Nat) : Int)), (9, .int .i64 ((s.items.length : Nat) : Int)), (1, .int .i64 wt), (8, .int .i64 0), (7, .string (strOf (itemsT s.items))), (6, .pointer (some ⟨g1, 0, none⟩)), (4, .bool false)] ∧ R = [q1, all w] ∧ H = [HP.blk g1 28 [.slice A1 n1 k1, .slice A2 n2 k2, .slice A3 n3 k3, .slice A4 n4 k4]]) (itemsT s.items).length ⟨[], s.items, 0, Scan.start _, rfl, rfl, rfl, rfl⟩ fun m e R H hI => ?_
      obtain ⟨pre, suf, j, hsc, rfl, rfl, rfl, rfl⟩ := hI
      refine XK.seq ?_
      refine XK.seq ?_

      refine XK.region ?_
      refine xk_move rfl (by decide) ?_
      refine xk_move rfl (by decide) ?_
      refine xk_lenS (by kernel_rfl) rfl (by decide) ?_
      refine xk_lss rfl rfl (by decide) ?_
      refine XK.nilN ?_
      refine XK.if_ rfl (fun hlt => ?_) (fun hlt => ?_)
      ·
        refine XK.skip ?_
        refine XK.norm ?_
        refine XK.seq ?_
        refine XK.block ?_
        refine XK.seq ?_
        obtain ⟨it, r, hsuf, hitc, hjl, hby⟩ := hsc.at_ hic (by omega)
        rw [← bAt_strOf] at hby
        have hpn : pre.length ≤ s.items.length := by rw [hsc.eq]; simp
        have hmu : s.items.length ≤ 100 := by
          have := regsN_le 4 s.devs hrg
          rw [hmy, manyF]; omega

        refine XK.region ?_
        refine xk_move rfl (by decide) ?_
        refine xk_move rfl (by decide) ?_
        refine xk_byte ((itemsT pre).length + j) (by kernel_rfl) rfl rfl rfl (bAt_get (by omega)) (by decide) ?_
        refine xk_eql rfl rfl (by decide) ?_
        refine XK.nilN ?_
        refine XK.if_ rfl (fun hb => ?_) (fun hb => ?_)
        ·
          have hj : j = it.line.length := hby.1 (u8_10.1 hb)
          obtain ⟨hsc', hl'⟩ := hsc.line hsuf

          refine XK.region ?_
          refine xk_move rfl (by decide) ?_
          refine xk_add rfl rfl (wrap_in (by omega)) (by decide) ?_
          refine xk_assign rfl (by decide) ?_
          refine XK.nilN ?_

          refine XK.region ?_
          refine xk_move rfl (by decide) ?_
          refine xk_add rfl rfl (wrap_in (by omega)) (by decide) ?_
          refine xk_assign rfl (by decide) ?_
          refine XK.nilN ?_
          exact XK.envS [(12, .int .i64 (((itemsT pre).length + j + 1 : Nat) : Int)), (11, .int .i64 ((pre.length + 1 : Nat) : Int)), (9, .int .i64 ((s.items.length : Nat) : Int)), (1, .int .i64 wt), (8, .int .i64 0), (7, .string (strOf (itemsT s.items))), (6, .pointer (some ⟨g1, 0, none⟩)), (4, .bool false)] (XK.round _ (by omega) ⟨pre ++ [it], r, 0, hsc', rfl, by rw [hl', hj, List.length_append, List.length_singleton], rfl, rfl⟩)
        ·
          refine XK.skip ?_
          refine XK.norm ?_

          refine XK.region ?_
          refine xk_move rfl (by decide) ?_
          refine xk_add rfl rfl (wrap_in (by omega)) (by decide) ?_
          refine xk_assign rfl (by decide) ?_
          refine XK.nilN ?_
          have hj : j ≠ it.line.length := fun he => hb (u8_10.2 (hby.2 he))
          have hjl2 : j + 1 ≤ it.line.length := by omega
          exact XK.envS [(12, .int .i64 (((itemsT pre).length + (j + 1) : Nat) : Int)), (11, .int .i64 ((pre.length : Nat) : Int)), (9, .int .i64 ((s.items.length : Nat) : Int)), (1, .int .i64 wt), (8, .int .i64 0), (7, .string (strOf (itemsT s.items))), (6, .pointer (some ⟨g1, 0, none⟩)), (4, .bool false)] (XK.round _ (by omega) ⟨pre, suf, j + 1, hsc.step hsuf hj, rfl, rfl, rfl, rfl⟩)
      ·
        refine XK.exit ?_
        refine XK.norm ?_
        refine XK.seq ?_
        refine XK.seq ?_
        obtain ⟨hs0, hj0, hpre⟩ : suf = [] ∧ j = 0 ∧ s.items = pre := by
          cases suf with
          | nil => exact ⟨rfl, hsc.nil rfl, by have := hsc.eq; simpa using this⟩
          | cons it r =>
            exfalso
            have h1 := hsc.le it r rfl
            have h2 : (itemsT s.items).length = (itemsT pre).length + (itemsT (it :: r)).length := by rw [hsc.text]; simp
            rw [itemsT_cons] at h2
            simp at h2
            omega
        rw [← hpre]

        refine XK.region ?_
        refine xk_move rfl (by decide) ?_
        refine xk_neq rfl rfl (by decide) ?_
        refine xk_move rfl (by decide) ?_
        refine xk_isV (t := 78) false rfl (by first | (exact decide_eq_true (by omega)) | (exact decide_eq_false (by omega)) | rfl | assumption | (simp_all; done)) ?_
        refine xk_guardT rfl rfl ?_; refine xk_move rfl (by decide) ?_
        refine xk_guardT rfl rfl ?_; refine xk_move rfl (by decide) ?_
        refine xk_guardT rfl rfl ?_; refine xk_neq rfl rfl (by decide) ?_
        (first | refine xk_pickT rfl rfl (by decide) ?_ | refine xk_pickF rfl rfl (by decide) ?_)
        refine xk_move rfl (by decide) ?_
        refine xk_isV (t := 83) false rfl (by first | (exact decide_eq_true (by omega)) | (exact decide_eq_false (by omega)) | rfl | assumption | (simp_all; done)) ?_
        refine xk_guardT rfl rfl ?_; refine xk_move rfl (by decide) ?_
        refine xk_guardT rfl rfl ?_; refine xk_eqlStr (by kernel_rfl) rfl rfl (by decide) ?_
        (first | refine xk_pickT rfl rfl (by decide) ?_ | refine xk_pickF rfl rfl (by decide) ?_)
        refine XK.nilN ?_
        refine xk_isV (t := 86) false rfl (by first | (exact decide_eq_true (by omega)) | (exact decide_eq_false (by omega)) | rfl | assumption | (simp_all; done)) ?_
        refine XK.cond rfl (fun h => by cases h) (fun _ => ?_)
        refine XK.skip ?_
        refine XK.norm ?_
        refine XK.seq ?_

        refine XK.region ?_
        refine xk_move rfl (by decide) ?_
        refine xk_move rfl (by decide) ?_
        refine xk_lenS (by kernel_rfl) rfl (by decide) ?_
        refine xk_callV (f := 20) (fi := []) (ca := []) (by kernel_rfl) rfl rfl (by decide) (fun v => ∃ r : Int, v = .int .i64 r ∧ 0 ≤ r ∧ r < ((strOf (itemsT s.items)).size : Nat)) (fun w1 st => pick5_any wt _ w1 hwt (by omega)) ?_
        rintro _ ⟨r, rfl, hr0, hr9⟩
        obtain ⟨k, rfl⟩ : ∃ k : Nat, r = (k : Int) := ⟨r.toNat, by omega⟩
        have hkT : k < (itemsT s.items).length := by omega
        obtain ⟨fE, fS, hpf, hfE⟩ := strict_f hkT
        obtain ⟨xE, xS, hpx, hxE⟩ := strict_i hkT
        refine xk_assign rfl (by decide) ?_
        refine XK.nilN ?_
        refine XK.cut (fun e R H => e = [(15, .int .i64 fE), (13, .int .i64 (k : Int)), (1, .int .i64 wt), (8, .int .i64 0), (7, .string (strOf (itemsT s.items))), (6, .pointer (some ⟨g1, 0, none⟩)), (4, .bool false)] ∧ R = [q1, all w] ∧ H = [HP.blk g1 28 [.slice A1 n1 k1, .slice A2 n2 k2, .slice A3 n3 k3, .slice A4 n4 k4]]) ?_ ?_
        ·

          refine XK.draw 14 (by kernel_rfl) (by kernel_rfl) ?_
          refine XA.dA 0 rfl rfl rfl (does_move rfl) ?_
          refine XA.dA 1 rfl rfl rfl (does_move rfl) ?_
          refine XA.dA 4 rfl rfl rfl (does_move rfl) ?_
          refine XA.dA 5 rfl rfl rfl (does_move rfl) ?_
          refine XA.dA 2 rfl rfl rfl (does_sliceTo k (by kernel_rfl) rfl rfl rfl (by omega)) ?_
          rw [extract0]
          refine XA.dA 3 rfl rfl rfl (does_addStr rfl rfl (by rw [strOf_size]; have : ByteArray.size ⟨#[32]⟩ = 1 := rfl; have := List.length_take_le k (itemsT s.items); omega)) ?_
          refine XA.dA 6 rfl rfl rfl (does_sliceFrom k (by kernel_rfl) rfl rfl rfl (by omega)) ?_
          rw [extractE]
          refine XA.dA 7 rfl rfl rfl (does_addStr rfl rfl (by rw [ByteArray.size_append, strOf_size, strOf_size, List.length_drop]; have : ByteArray.size ⟨#[32]⟩ = 1 := rfl; have := List.length_take_le k (itemsT s.items); omega)) ?_
          refine XA.either 8 12 rfl rfl (by kernel_rfl) ?_ ?_
          · skip
            refine xk_call [] (f := 11) (fi := []) (ca := []) (by kernel_rfl) rfl rfl (by decide) (by simp) (ParseR fE fS) (fun w1 st => parseR_ok _ _ _ hpf mm w1 ⟨Nat.lt_of_lt_of_le hM.1 (st.below (by simp)).size, hM.go (st.below (by simp))⟩) ?_
            rintro _ w1 q2 ⟨csf, rfl, hSf⟩ hff _ _
            obtain ⟨A1f, n1f, k1f, A2f, n2f, k2f, A3f, n3f, k3f, A4f, n4f, k4f, rfl, hSQf⟩ := (hSf.mono (slq_le hff)).Q
            clear hff hSf
            refine XA.bk ?_
            refine XA.dA 9 rfl rfl rfl (does_move rfl) ?_
            refine XA.dA 10 rfl rfl rfl (does_extract rfl rfl) ?_
            refine XA.dA 11 rfl rfl rfl (does_extract rfl rfl) ?_
            refine XA.next 12 rfl (by kernel_rfl) ?_
            refine xk_alloc (cs := [.slice none 0 0, .slice none 0 0, .slice none 0 0, .slice none 0 0]) (zeroB_of (by kernel_rfl)) (by decide) fun g2 => ?_
            refine XA.bk ?_
            refine XA.next 13 rfl (by kernel_rfl) ?_
            (first | (refine xk_storeN 0 rfl rfl rfl (by kernel_rfl) (by simp [Value.cells, Value.oneCell']) (by simp [Value.cells]) ?_) | (refine xk_storeN 1 rfl rfl rfl (by kernel_rfl) (by simp [Value.cells, Value.oneCell']) (by simp [Value.cells]) ?_) | (refine xk_storeN 2 rfl rfl rfl (by kernel_rfl) (by simp [Value.cells, Value.oneCell']) (by simp [Value.cells]) ?_) | (refine xk_storeN 3 rfl rfl rfl (by kernel_rfl) (by simp [Value.cells, Value.oneCell']) (by simp [Value.cells]) ?_) | (refine xk_storeN 4 rfl rfl rfl (by kernel_rfl) (by simp [Value.cells, Value.oneCell']) (by simp [Value.cells]) ?_) | (refine xk_storeN 5 rfl rfl rfl (by kernel_rfl) (by simp [Value.cells, Value.oneCell']) (by simp [Value.cells]) ?_) | (refine xk_storeN 6 rfl rfl rfl (by kernel_rfl) (by simp [Value.cells, Value.oneCell']) (by simp [Value.cells]) ?_) | (refine xk_storeN 7 rfl rfl rfl (by kernel_rfl) (by simp [Value.cells, Value.oneCell']) (by simp [Value.cells]) ?_) | (refine xk_storeN 8 rfl rfl rfl (by kernel_rfl) (by simp [Value.cells, Value.oneCell']) (by simp [Value.cells]) ?_)); simp only [putN, Value.cells, List.set, List.take, List.drop, List.nil_append, List.append_nil, List.length_cons, List.length_nil, List.cons_append, Nat.reduceAdd]
            refine XA.bk ?_
            refine XA.next 14 rfl (by kernel_rfl) ?_
            refine xk_assign rfl (by decide) ?_
            refine XA.bt ?_
            refine XA.done (by kernel_rfl) ?_
            refine XK.norm ?_
            exact XK.weak (R' := [q1, all w]) [1] rfl (by decide) (by simp) (XK.envS [(15, .int .i64 fE), (13, .int .i64 (k : Int)), (1, .int .i64 wt), (8, .int .i64 0), (7, .string (strOf (itemsT s.items))), (6, .pointer (some ⟨g1, 0, none⟩)), (4, .bool false)] (XK.meet ⟨rfl, rfl, rfl⟩))
          · skip
            refine xk_alloc (cs := [.slice none 0 0, .slice none 0 0, .slice none 0 0, .slice none 0 0]) (zeroB_of (by kernel_rfl)) (by decide) fun g2 => ?_
            refine XA.bk ?_
            refine XA.next 8 rfl (by kernel_rfl) ?_
            refine xk_call [] (f := 11) (fi := []) (ca := []) (by kernel_rfl) rfl rfl (by decide) (by simp) (ParseR fE fS) (fun w1 st => parseR_ok _ _ _ hpf mm w1 ⟨Nat.lt_of_lt_of_le hM.1 (st.below (by simp)).size, hM.go (st.below (by simp))⟩) ?_
            rintro _ w1 q2 ⟨csf, rfl, hSf⟩ hff _ _
            obtain ⟨A1f, n1f, k1f, A2f, n2f, k2f, A3f, n3f, k3f, A4f, n4f, k4f, rfl, hSQf⟩ := (hSf.mono (slq_le hff)).Q
            clear hff hSf
            refine XA.bk ?_
            refine XA.dA 9 rfl rfl rfl (does_move rfl) ?_
            refine XA.dA 10 rfl rfl rfl (does_extract rfl rfl) ?_
            refine XA.dA 11 rfl rfl rfl (does_extract rfl rfl) ?_
            refine XA.next 13 rfl (by kernel_rfl) ?_
            (first | (refine xk_storeN 0 rfl rfl rfl (by kernel_rfl) (by simp [Value.cells, Value.oneCell']) (by simp [Value.cells]) ?_) | (refine xk_storeN 1 rfl rfl rfl (by kernel_rfl) (by simp [Value.cells, Value.oneCell']) (by simp [Value.cells]) ?_) | (refine xk_storeN 2 rfl rfl rfl (by kernel_rfl) (by simp [Value.cells, Value.oneCell']) (by simp [Value.cells]) ?_) | (refine xk_storeN 3 rfl rfl rfl (by kernel_rfl) (by simp [Value.cells, Value.oneCell']) (by simp [Value.cells]) ?_) | (refine xk_storeN 4 rfl rfl rfl (by kernel_rfl) (by simp [Value.cells, Value.oneCell']) (by simp [Value.cells]) ?_) | (refine xk_storeN 5 rfl rfl rfl (by kernel_rfl) (by simp [Value.cells, Value.oneCell']) (by simp [Value.cells]) ?_) | (refine xk_storeN 6 rfl rfl rfl (by kernel_rfl) (by simp [Value.cells, Value.oneCell']) (by simp [Value.cells]) ?_) | (refine xk_storeN 7 rfl rfl rfl (by kernel_rfl) (by simp [Value.cells, Value.oneCell']) (by simp [Value.cells]) ?_) | (refine xk_storeN 8 rfl rfl rfl (by kernel_rfl) (by simp [Value.cells, Value.oneCell']) (by simp [Value.cells]) ?_)); simp only [putN, Value.cells, List.set, List.take, List.drop, List.nil_append, List.append_nil, List.length_cons, List.length_nil, List.cons_append, Nat.reduceAdd]
            refine XA.bk ?_
            refine XA.next 14 rfl (by kernel_rfl) ?_
            refine xk_assign rfl (by decide) ?_
            refine XA.bt ?_
            refine XA.done (by kernel_rfl) ?_
            refine XK.norm ?_
            exact XK.weak (R' := [q1, all w]) [1] rfl (by decide) (by simp) (XK.envS [(15, .int .i64 fE), (13, .int .i64 (k : Int)), (1, .int .i64 wt), (8, .int .i64 0), (7, .string (strOf (itemsT s.items))), (6, .pointer (some ⟨g1, 0, none⟩)), (4, .bool false)] (XK.meet ⟨rfl, rfl, rfl⟩))
        rintro _ _ _ ⟨rfl, rfl, rfl⟩
        refine XK.seq ?_

        refine XK.region ?_
        refine xk_move rfl (by decide) ?_
        refine xk_move rfl (by decide) ?_
        refine xk_lenS (by kernel_rfl) rfl (by decide) ?_
        refine xk_sub rfl rfl (wrap_in (by omega)) (by decide) ?_
        refine xk_sliceTo ((itemsT s.items).length - 1) (by kernel_rfl) rfl rfl (by omega) (by omega) (by decide) ?_
        rw [extract0]
        refine xk_call [] (f := 11) (fi := []) (ca := []) (by kernel_rfl) rfl rfl (by decide) (by simp) (ParseR 2 soc0) (fun w1 st => parseR_ok _ _ _ hpg mm w1 ⟨Nat.lt_of_lt_of_le hM.1 (st.below (by simp)).size, hM.go (st.below (by simp))⟩) ?_
        rintro _ w1 q3 ⟨csg, rfl, hSg⟩ hfg _ _
        obtain ⟨A1g, n1g, k1g, A2g, n2g, k2g, A3g, n3g, k3g, A4g, n4g, k4g, rfl, hSQg⟩ := (hSg.mono (slq_le hfg)).Q
        clear hfg hSg
        refine xk_move rfl (by decide) ?_
        refine xk_extract rfl rfl (by decide) ?_
        refine xk_extract rfl rfl (by decide) ?_
        refine xk_alloc (cs := [.slice none 0 0, .slice none 0 0, .slice none 0 0, .slice none 0 0]) (zeroB_of (by kernel_rfl)) (by decide) fun g3 => ?_
        (first | (refine xk_storeN 0 rfl rfl rfl (by kernel_rfl) (by simp [Value.cells, Value.oneCell']) (by simp [Value.cells]) ?_) | (refine xk_storeN 1 rfl rfl rfl (by kernel_rfl) (by simp [Value.cells, Value.oneCell']) (by simp [Value.cells]) ?_) | (refine xk_storeN 2 rfl rfl rfl (by kernel_rfl) (by simp [Value.cells, Value.oneCell']) (by simp [Value.cells]) ?_) | (refine xk_storeN 3 rfl rfl rfl (by kernel_rfl) (by simp [Value.cells, Value.oneCell']) (by simp [Value.cells]) ?_) | (refine xk_storeN 4 rfl rfl rfl (by kernel_rfl) (by simp [Value.cells, Value.oneCell']) (by simp [Value.cells]) ?_) | (refine xk_storeN 5 rfl rfl rfl (by kernel_rfl) (by simp [Value.cells, Value.oneCell']) (by simp [Value.cells]) ?_) | (refine xk_storeN 6 rfl rfl rfl (by kernel_rfl) (by simp [Value.cells, Value.oneCell']) (by simp [Value.cells]) ?_) | (refine xk_storeN 7 rfl rfl rfl (by kernel_rfl) (by simp [Value.cells, Value.oneCell']) (by simp [Value.cells]) ?_) | (refine xk_storeN 8 rfl rfl rfl (by kernel_rfl) (by simp [Value.cells, Value.oneCell']) (by simp [Value.cells]) ?_)); simp only [putN, Value.cells, List.set, List.take, List.drop, List.nil_append, List.append_nil, List.length_cons, List.length_nil, List.cons_append, Nat.reduceAdd]
        refine xk_assign rfl (by decide) ?_
        refine XK.nilN ?_
        refine XK.seq ?_

        refine XK.region ?_
        refine xk_move rfl (by decide) ?_
        refine xk_addStr (b := ⟨#[10]⟩) rfl rfl (by have : ByteArray.size ⟨#[10]⟩ = 1 := rfl; omega) (by decide) ?_
        refine xk_call [] (f := 11) (fi := []) (ca := []) (by kernel_rfl) rfl rfl (by decide) (by simp) (ParseR 2 soc0) (fun w1 st => parseR_ok _ _ _ hph mm w1 ⟨Nat.lt_of_lt_of_le hM.1 (st.below (by simp)).size, hM.go (st.below (by simp))⟩) ?_
        rintro _ w1 q4 ⟨csh, rfl, hSh⟩ hfh _ _
        obtain ⟨A1h, n1h, k1h, A2h, n2h, k2h, A3h, n3h, k3h, A4h, n4h, k4h, rfl, hSQh⟩ := (hSh.mono (slq_le hfh)).Q
        clear hfh hSh
        refine xk_move rfl (by decide) ?_
        refine xk_extract rfl rfl (by decide) ?_
        refine xk_extract rfl rfl (by decide) ?_
        refine xk_alloc (cs := [.slice none 0 0, .slice none 0 0, .slice none 0 0, .slice none 0 0]) (zeroB_of (by kernel_rfl)) (by decide) fun g4 => ?_
        (first | (refine xk_storeN 0 rfl rfl rfl (by kernel_rfl) (by simp [Value.cells, Value.oneCell']) (by simp [Value.cells]) ?_) | (refine xk_storeN 1 rfl rfl rfl (by kernel_rfl) (by simp [Value.cells, Value.oneCell']) (by simp [Value.cells]) ?_) | (refine xk_storeN 2 rfl rfl rfl (by kernel_rfl) (by simp [Value.cells, Value.oneCell']) (by simp [Value.cells]) ?_) | (refine xk_storeN 3 rfl rfl rfl (by kernel_rfl) (by simp [Value.cells, Value.oneCell']) (by simp [Value.cells]) ?_) | (refine xk_storeN 4 rfl rfl rfl (by kernel_rfl) (by simp [Value.cells, Value.oneCell']) (by simp [Value.cells]) ?_) | (refine xk_storeN 5 rfl rfl rfl (by kernel_rfl) (by simp [Value.cells, Value.oneCell']) (by simp [Value.cells]) ?_) | (refine xk_storeN 6 rfl rfl rfl (by kernel_rfl) (by simp [Value.cells, Value.oneCell']) (by simp [Value.cells]) ?_) | (refine xk_storeN 7 rfl rfl rfl (by kernel_rfl) (by simp [Value.cells, Value.oneCell']) (by simp [Value.cells]) ?_) | (refine xk_storeN 8 rfl rfl rfl (by kernel_rfl) (by simp [Value.cells, Value.oneCell']) (by simp [Value.cells]) ?_)); simp only [putN, Value.cells, List.set, List.take, List.drop, List.nil_append, List.append_nil, List.length_cons, List.length_nil, List.cons_append, Nat.reduceAdd]
        refine xk_assign rfl (by decide) ?_
        refine XK.nilN ?_
        refine XK.seq ?_
        refine XK.seq ?_

        refine XK.region ?_
        refine xk_move rfl (by decide) ?_
        refine xk_neq rfl rfl (by decide) ?_
        refine xk_move rfl (by decide) ?_
        refine xk_isV (t := 120) false rfl (by first | (exact decide_eq_true (by omega)) | (exact decide_eq_false (by omega)) | rfl | assumption | (simp_all; done)) ?_
        refine xk_guardT rfl rfl ?_; refine xk_move rfl (by decide) ?_
        refine xk_guardT rfl rfl ?_; refine xk_neq rfl rfl (by decide) ?_
        (first | refine xk_pickT rfl rfl (by decide) ?_ | refine xk_pickF rfl rfl (by decide) ?_)
        refine XK.nilN ?_
        refine xk_isV (t := 123) false rfl (by first | (exact decide_eq_true (by omega)) | (exact decide_eq_false (by omega)) | rfl | assumption | (simp_all; done)) ?_
        refine XK.cond rfl (fun h => by cases h) (fun _ => ?_)
        refine XK.skip ?_
        refine XK.norm ?_
        have hbe := beside_iff (t := (itemsT s.items)) (k := k)
        refine XK.cutB 20 (besideB (itemsT s.items) k = true) ?_ ?_
        · skip

          refine XK.region ?_
          refine xk_move rfl (by decide) ?_
          refine xk_eql rfl rfl (by decide) ?_
          refine xk_move rfl (by decide) ?_
          (first | refine xk_split (t := 126) rfl (fun hg => ?_) (fun hg => ?_) | refine xk_splitB (t := 126) rfl (fun hg => ?_) (fun hg => ?_))
          ·
            refine xk_guardF rfl rfl rfl (by decide) ?_
            refine xk_guardF rfl rfl rfl (by decide) ?_
            refine xk_guardF rfl rfl rfl (by decide) ?_
            refine xk_guardF rfl rfl rfl (by decide) ?_
            (first | refine xk_pickT rfl rfl (by decide) ?_ | refine xk_pickF rfl rfl (by decide) ?_)
            refine xk_move rfl (by decide) ?_
            refine xk_guardF rfl rfl rfl (by decide) ?_
            refine xk_guardF rfl rfl rfl (by decide) ?_
            refine xk_guardF rfl rfl rfl (by decide) ?_
            refine xk_guardF rfl rfl rfl (by decide) ?_
            (first | refine xk_pickT rfl rfl (by decide) ?_ | refine xk_pickF rfl rfl (by decide) ?_)
            refine xk_move rfl (by decide) ?_
            refine xk_guardF rfl rfl rfl (by decide) ?_
            refine xk_guardF rfl rfl rfl (by decide) ?_
            refine xk_guardF rfl rfl rfl (by decide) ?_
            refine xk_guardF rfl rfl rfl (by decide) ?_
            refine xk_guardF rfl rfl rfl (by decide) ?_
            (first | refine xk_pickT rfl rfl (by decide) ?_ | refine xk_pickF rfl rfl (by decide) ?_)
            refine xk_move rfl (by decide) ?_
            refine xk_guardF rfl rfl rfl (by decide) ?_
            refine xk_guardF rfl rfl rfl (by decide) ?_
            refine xk_guardF rfl rfl rfl (by decide) ?_
            refine xk_guardF rfl rfl rfl (by decide) ?_
            refine xk_guardF rfl rfl rfl (by decide) ?_
            (first | refine xk_pickT rfl rfl (by decide) ?_ | refine xk_pickF rfl rfl (by decide) ?_)
            refine xk_assign rfl (by decide) ?_
            refine XK.nilN ?_
            exact XK.meetB (by repeat (first | exact trivial | refine ⟨rfl, ?_⟩)) (by first | (refine get_true rfl (hbe.2 (by omega))) | (refine get_iff rfl ?_; rw [hbe]; omega))
          ·
            refine xk_guardT rfl rfl ?_; refine xk_move rfl (by decide) ?_
            refine xk_guardT rfl rfl ?_; refine xk_move rfl (by decide) ?_
            refine xk_guardT rfl rfl ?_; refine xk_byte k (by kernel_rfl) rfl rfl rfl (bAt_get (by omega)) (by decide) ?_
            refine xk_guardT rfl rfl ?_; refine xk_eql rfl rfl (by decide) ?_
            (first | refine xk_pickT rfl rfl (by decide) ?_ | refine xk_pickF rfl rfl (by decide) ?_)
            refine xk_move rfl (by decide) ?_
            (first | refine xk_split (t := 132) rfl (fun hg => ?_) (fun hg => ?_) | refine xk_splitB (t := 132) rfl (fun hg => ?_) (fun hg => ?_))
            ·
              refine xk_guardF rfl rfl rfl (by decide) ?_
              refine xk_guardF rfl rfl rfl (by decide) ?_
              refine xk_guardF rfl rfl rfl (by decide) ?_
              refine xk_guardF rfl rfl rfl (by decide) ?_
              (first | refine xk_pickT rfl rfl (by decide) ?_ | refine xk_pickF rfl rfl (by decide) ?_)
              refine xk_move rfl (by decide) ?_
              refine xk_guardF rfl rfl rfl (by decide) ?_
              refine xk_guardF rfl rfl rfl (by decide) ?_
              refine xk_guardF rfl rfl rfl (by decide) ?_
              refine xk_guardF rfl rfl rfl (by decide) ?_
              refine xk_guardF rfl rfl rfl (by decide) ?_
              (first | refine xk_pickT rfl rfl (by decide) ?_ | refine xk_pickF rfl rfl (by decide) ?_)
              refine xk_move rfl (by decide) ?_
              refine xk_guardF rfl rfl rfl (by decide) ?_
              refine xk_guardF rfl rfl rfl (by decide) ?_
              refine xk_guardF rfl rfl rfl (by decide) ?_
              refine xk_guardF rfl rfl rfl (by decide) ?_
              refine xk_guardF rfl rfl rfl (by decide) ?_
              (first | refine xk_pickT rfl rfl (by decide) ?_ | refine xk_pickF rfl rfl (by decide) ?_)
              refine xk_assign rfl (by decide) ?_
              refine XK.nilN ?_
              exact XK.meetB (by repeat (first | exact trivial | refine ⟨rfl, ?_⟩)) (by first | (refine get_true rfl (hbe.2 (by omega))) | (refine get_iff rfl ?_; rw [hbe]; omega))
            ·
              refine xk_guardT rfl rfl ?_; refine xk_move rfl (by decide) ?_
              refine xk_guardT rfl rfl ?_; refine xk_move rfl (by decide) ?_
              refine xk_guardT rfl rfl ?_; refine xk_byte k (by kernel_rfl) rfl rfl rfl (bAt_get (by omega)) (by decide) ?_
              refine xk_guardT rfl rfl ?_; refine xk_eql rfl rfl (by decide) ?_
              (first | refine xk_pickT rfl rfl (by decide) ?_ | refine xk_pickF rfl rfl (by decide) ?_)
              refine xk_move rfl (by decide) ?_
              (first | refine xk_split (t := 138) rfl (fun hg => ?_) (fun hg => ?_) | refine xk_splitB (t := 138) rfl (fun hg => ?_) (fun hg => ?_))
              ·
                refine xk_guardF rfl rfl rfl (by decide) ?_
                refine xk_guardF rfl rfl rfl (by decide) ?_
                refine xk_guardF rfl rfl rfl (by decide) ?_
                refine xk_guardF rfl rfl rfl (by decide) ?_
                refine xk_guardF rfl rfl rfl (by decide) ?_
                (first | refine xk_pickT rfl rfl (by decide) ?_ | refine xk_pickF rfl rfl (by decide) ?_)
                refine xk_move rfl (by decide) ?_
                refine xk_guardF rfl rfl rfl (by decide) ?_
                refine xk_guardF rfl rfl rfl (by decide) ?_
                refine xk_guardF rfl rfl rfl (by decide) ?_
                refine xk_guardF rfl rfl rfl (by decide) ?_
                refine xk_guardF rfl rfl rfl (by decide) ?_
                (first | refine xk_pickT rfl rfl (by decide) ?_ | refine xk_pickF rfl rfl (by decide) ?_)
                refine xk_assign rfl (by decide) ?_
                refine XK.nilN ?_
                exact XK.meetB (by repeat (first | exact trivial | refine ⟨rfl, ?_⟩)) (by first | (refine get_true rfl (hbe.2 (by omega))) | (refine get_iff rfl ?_; rw [hbe]; omega))
              ·
                refine xk_guardT rfl rfl ?_; refine xk_move rfl (by decide) ?_
                refine xk_guardT rfl rfl ?_; refine xk_move rfl (by decide) ?_
                refine xk_guardT rfl rfl ?_; refine xk_sub rfl rfl (wrap_in (by omega)) (by decide) ?_
                refine xk_guardT rfl rfl ?_; refine xk_byte (k - 1) (by kernel_rfl) rfl rfl (by omega) (bAt_get (by omega)) (by decide) ?_
                refine xk_guardT rfl rfl ?_; refine xk_eql rfl rfl (by decide) ?_
                (first | refine xk_pickT rfl rfl (by decide) ?_ | refine xk_pickF rfl rfl (by decide) ?_)
                refine xk_move rfl (by decide) ?_
                (first | refine xk_split (t := 145) rfl (fun hg => ?_) (fun hg => ?_) | refine xk_splitB (t := 145) rfl (fun hg => ?_) (fun hg => ?_))
                ·
                  refine xk_guardF rfl rfl rfl (by decide) ?_
                  refine xk_guardF rfl rfl rfl (by decide) ?_
                  refine xk_guardF rfl rfl rfl (by decide) ?_
                  refine xk_guardF rfl rfl rfl (by decide) ?_
                  refine xk_guardF rfl rfl rfl (by decide) ?_
                  (first | refine xk_pickT rfl rfl (by decide) ?_ | refine xk_pickF rfl rfl (by decide) ?_)
                  refine xk_assign rfl (by decide) ?_
                  refine XK.nilN ?_
                  exact XK.meetB (by repeat (first | exact trivial | refine ⟨rfl, ?_⟩)) (by first | (refine get_true rfl (hbe.2 (by omega))) | (refine get_iff rfl ?_; rw [hbe]; omega))
                ·
                  refine xk_guardT rfl rfl ?_; refine xk_move rfl (by decide) ?_
                  refine xk_guardT rfl rfl ?_; refine xk_move rfl (by decide) ?_
                  refine xk_guardT rfl rfl ?_; refine xk_sub rfl rfl (wrap_in (by omega)) (by decide) ?_
                  refine xk_guardT rfl rfl ?_; refine xk_byte (k - 1) (by kernel_rfl) rfl rfl (by omega) (bAt_get (by omega)) (by decide) ?_
                  refine xk_guardT rfl rfl ?_; refine xk_eql rfl rfl (by decide) ?_
                  (first | refine xk_pickT rfl rfl (by decide) ?_ | refine xk_pickF rfl rfl (by decide) ?_)
                  refine xk_assign rfl (by decide) ?_
                  refine XK.nilN ?_
                  exact XK.meetB (by repeat (first | exact trivial | refine ⟨rfl, ?_⟩)) (by first | (refine get_true rfl (hbe.2 (by omega))) | (refine get_iff rfl ?_; rw [hbe]; omega))
        refine XK.cut (fun e R H => ∃ (g5 : Nat) (q5 : Piece) (A1x A2x A3x A4x : Option Addr) (n1x k1x n2x k2x n3x k3x n4x k4x : Nat), SocQ q5 xS A1x n1x A2x n2x A3x n3x A4x n4x ∧ e = [(22, .int .i64 xE), (21, .pointer (some ⟨g5, 0, none⟩)), (20, .bool (decide (besideB (itemsT s.items) k = true))), (15, .int .i64 fE), (1, .int .i64 wt), (8, .int .i64 0), (7, .string (strOf (itemsT s.items))), (6, .pointer (some ⟨g1, 0, none⟩)), (4, .bool false)] ∧ R = [q5, q1, all w] ∧ H = [HP.blk g5 28 [.slice A1x n1x k1x, .slice A2x n2x k2x, .slice A3x n3x k3x, .slice A4x n4x k4x], HP.blk g1 28 [.slice A1 n1 k1, .slice A2 n2 k2, .slice A3 n3 k3, .slice A4 n4 k4]]) ?_ ?_
        ·

          refine XK.draw 14 (by kernel_rfl) (by kernel_rfl) ?_
          refine XA.dA 0 rfl rfl rfl (does_move rfl) ?_
          refine XA.dA 1 rfl rfl rfl (does_move rfl) ?_
          refine XA.dA 3 rfl rfl rfl (does_move rfl) ?_
          refine XA.dA 4 rfl rfl rfl (does_move rfl) ?_
          refine XA.dA 5 rfl rfl rfl (does_add rfl rfl (wrap_in (by omega))) ?_
          refine XA.dA 2 rfl rfl rfl (does_sliceTo k (by kernel_rfl) rfl rfl rfl (by omega)) ?_
          rw [extract0]
          refine XA.dA 6 rfl rfl rfl (does_sliceFrom (k + 1) (by kernel_rfl) rfl rfl rfl (by omega)) ?_
          rw [extractE]
          refine XA.dA 7 rfl rfl rfl (does_addStr rfl rfl (by rw [strOf_size, strOf_size, List.length_drop]; have := List.length_take_le k (itemsT s.items); omega)) ?_
          refine XA.either 8 12 rfl rfl (by kernel_rfl) ?_ ?_
          · skip
            refine xk_call [] (f := 11) (fi := []) (ca := []) (by kernel_rfl) rfl rfl (by decide) (by simp) (ParseR xE xS) (fun w1 st => parseR_ok _ _ _ hpx mm w1 ⟨Nat.lt_of_lt_of_le hM.1 (st.below (by simp)).size, hM.go (st.below (by simp))⟩) ?_
            rintro _ w1 q5 ⟨csx, rfl, hSx⟩ hfx _ _
            obtain ⟨A1x, n1x, k1x, A2x, n2x, k2x, A3x, n3x, k3x, A4x, n4x, k4x, rfl, hSQx⟩ := (hSx.mono (slq_le hfx)).Q
            clear hfx hSx
            refine XA.bk ?_
            refine XA.dA 9 rfl rfl rfl (does_move rfl) ?_
            refine XA.dA 10 rfl rfl rfl (does_extract rfl rfl) ?_
            refine XA.dA 11 rfl rfl rfl (does_extract rfl rfl) ?_
            refine XA.next 12 rfl (by kernel_rfl) ?_
            refine xk_alloc (cs := [.slice none 0 0, .slice none 0 0, .slice none 0 0, .slice none 0 0]) (zeroB_of (by kernel_rfl)) (by decide) fun g5 => ?_
            refine XA.bk ?_
            refine XA.next 13 rfl (by kernel_rfl) ?_
            (first | (refine xk_storeN 0 rfl rfl rfl (by kernel_rfl) (by simp [Value.cells, Value.oneCell']) (by simp [Value.cells]) ?_) | (refine xk_storeN 1 rfl rfl rfl (by kernel_rfl) (by simp [Value.cells, Value.oneCell']) (by simp [Value.cells]) ?_) | (refine xk_storeN 2 rfl rfl rfl (by kernel_rfl) (by simp [Value.cells, Value.oneCell']) (by simp [Value.cells]) ?_) | (refine xk_storeN 3 rfl rfl rfl (by kernel_rfl) (by simp [Value.cells, Value.oneCell']) (by simp [Value.cells]) ?_) | (refine xk_storeN 4 rfl rfl rfl (by kernel_rfl) (by simp [Value.cells, Value.oneCell']) (by simp [Value.cells]) ?_) | (refine xk_storeN 5 rfl rfl rfl (by kernel_rfl) (by simp [Value.cells, Value.oneCell']) (by simp [Value.cells]) ?_) | (refine xk_storeN 6 rfl rfl rfl (by kernel_rfl) (by simp [Value.cells, Value.oneCell']) (by simp [Value.cells]) ?_) | (refine xk_storeN 7 rfl rfl rfl (by kernel_rfl) (by simp [Value.cells, Value.oneCell']) (by simp [Value.cells]) ?_) | (refine xk_storeN 8 rfl rfl rfl (by kernel_rfl) (by simp [Value.cells, Value.oneCell']) (by simp [Value.cells]) ?_)); simp only [putN, Value.cells, List.set, List.take, List.drop, List.nil_append, List.append_nil, List.length_cons, List.length_nil, List.cons_append, Nat.reduceAdd]
            refine XA.bk ?_
            refine XA.next 14 rfl (by kernel_rfl) ?_
            refine xk_assign rfl (by decide) ?_
            refine XA.bt ?_
            refine XA.done (by kernel_rfl) ?_
            refine XK.norm ?_
            exact XK.weak (R' := [q5, q1, all w]) [0, 3] rfl (by decide) (by simp) (XK.envS [(22, .int .i64 xE), (21, .pointer (some ⟨g5, 0, none⟩)), (20, .bool (decide (besideB (itemsT s.items) k = true))), (15, .int .i64 fE), (1, .int .i64 wt), (8, .int .i64 0), (7, .string (strOf (itemsT s.items))), (6, .pointer (some ⟨g1, 0, none⟩)), (4, .bool false)] (XK.meet ⟨g5, q5, _, _, _, _, _, _, _, _, _, _, _, _, hSQx, rfl, rfl, rfl⟩))
          · skip
            refine xk_alloc (cs := [.slice none 0 0, .slice none 0 0, .slice none 0 0, .slice none 0 0]) (zeroB_of (by kernel_rfl)) (by decide) fun g5 => ?_
            refine XA.bk ?_
            refine XA.next 8 rfl (by kernel_rfl) ?_
            refine xk_call [] (f := 11) (fi := []) (ca := []) (by kernel_rfl) rfl rfl (by decide) (by simp) (ParseR xE xS) (fun w1 st => parseR_ok _ _ _ hpx mm w1 ⟨Nat.lt_of_lt_of_le hM.1 (st.below (by simp)).size, hM.go (st.below (by simp))⟩) ?_
            rintro _ w1 q5 ⟨csx, rfl, hSx⟩ hfx _ _
            obtain ⟨A1x, n1x, k1x, A2x, n2x, k2x, A3x, n3x, k3x, A4x, n4x, k4x, rfl, hSQx⟩ := (hSx.mono (slq_le hfx)).Q
            clear hfx hSx
            refine XA.bk ?_
            refine XA.dA 9 rfl rfl rfl (does_move rfl) ?_
            refine XA.dA 10 rfl rfl rfl (does_extract rfl rfl) ?_
            refine XA.dA 11 rfl rfl rfl (does_extract rfl rfl) ?_
            refine XA.next 13 rfl (by kernel_rfl) ?_
            (first | (refine xk_storeN 0 rfl rfl rfl (by kernel_rfl) (by simp [Value.cells, Value.oneCell']) (by simp [Value.cells]) ?_) | (refine xk_storeN 1 rfl rfl rfl (by kernel_rfl) (by simp [Value.cells, Value.oneCell']) (by simp [Value.cells]) ?_) | (refine xk_storeN 2 rfl rfl rfl (by kernel_rfl) (by simp [Value.cells, Value.oneCell']) (by simp [Value.cells]) ?_) | (refine xk_storeN 3 rfl rfl rfl (by kernel_rfl) (by simp [Value.cells, Value.oneCell']) (by simp [Value.cells]) ?_) | (refine xk_storeN 4 rfl rfl rfl (by kernel_rfl) (by simp [Value.cells, Value.oneCell']) (by simp [Value.cells]) ?_) | (refine xk_storeN 5 rfl rfl rfl (by kernel_rfl) (by simp [Value.cells, Value.oneCell']) (by simp [Value.cells]) ?_) | (refine xk_storeN 6 rfl rfl rfl (by kernel_rfl) (by simp [Value.cells, Value.oneCell']) (by simp [Value.cells]) ?_) | (refine xk_storeN 7 rfl rfl rfl (by kernel_rfl) (by simp [Value.cells, Value.oneCell']) (by simp [Value.cells]) ?_) | (refine xk_storeN 8 rfl rfl rfl (by kernel_rfl) (by simp [Value.cells, Value.oneCell']) (by simp [Value.cells]) ?_)); simp only [putN, Value.cells, List.set, List.take, List.drop, List.nil_append, List.append_nil, List.length_cons, List.length_nil, List.cons_append, Nat.reduceAdd]
            refine XA.bk ?_
            refine XA.next 14 rfl (by kernel_rfl) ?_
            refine xk_assign rfl (by decide) ?_
            refine XA.bt ?_
            refine XA.done (by kernel_rfl) ?_
            refine XK.norm ?_
            exact XK.weak (R' := [q5, q1, all w]) [0, 3] rfl (by decide) (by simp) (XK.envS [(22, .int .i64 xE), (21, .pointer (some ⟨g5, 0, none⟩)), (20, .bool (decide (besideB (itemsT s.items) k = true))), (15, .int .i64 fE), (1, .int .i64 wt), (8, .int .i64 0), (7, .string (strOf (itemsT s.items))), (6, .pointer (some ⟨g1, 0, none⟩)), (4, .bool false)] (XK.meet ⟨g5, q5, _, _, _, _, _, _, _, _, _, _, _, _, hSQx, rfl, rfl, rfl⟩))
        rintro _ _ _ ⟨g5, q5, A1x, A2x, A3x, A4x, n1x, k1x, n2x, k2x, n3x, k3x, n4x, k4x, hSQx, rfl, rfl, rfl⟩
        refine XK.seq ?_

        refine XK.region ?_
        refine xk_move rfl (by decide) ?_
        (first | refine xk_notD rfl (by decide) ?_ | refine xk_not rfl (by decide) ?_)
        refine xk_move rfl (by decide) ?_
        (first | refine xk_split (t := 166) rfl (fun hg => ?_) (fun hg => ?_) | refine xk_splitB (t := 166) rfl (fun hg => ?_) (fun hg => ?_))
        ·
          refine xk_guardF rfl rfl rfl (by decide) ?_
          refine xk_guardF rfl rfl rfl (by decide) ?_
          (first | refine xk_pickT rfl rfl (by decide) ?_ | refine xk_pickF rfl rfl (by decide) ?_)
          refine xk_move rfl (by decide) ?_
          refine xk_guardT rfl rfl ?_; refine xk_move rfl (by decide) ?_
          refine xk_guardT rfl rfl ?_; refine xk_neq rfl rfl (by decide) ?_
          refine xk_guardT rfl rfl ?_; refine xk_move rfl (by decide) ?_
          (first | refine xk_split (t := 173) rfl (fun hg => ?_) (fun hg => ?_) | refine xk_splitB (t := 173) rfl (fun hg => ?_) (fun hg => ?_))
          ·
            refine xk_guardF rfl rfl rfl (by decide) ?_
            refine xk_guardF rfl rfl rfl (by decide) ?_
            refine xk_guardF rfl rfl rfl (by decide) ?_
            refine xk_guardF rfl rfl rfl (by decide) ?_
            refine xk_guardT rfl rfl ?_; (first | refine xk_pickT rfl rfl (by decide) ?_ | refine xk_pickF rfl rfl (by decide) ?_)
            (first | refine xk_pickT rfl rfl (by decide) ?_ | refine xk_pickF rfl rfl (by decide) ?_)
            refine xk_assign rfl (by decide) ?_
            refine XK.nilN ?_
            refine XK.ret ?_
            refine XK.norm ?_
            exact XK.ret1 rfl rfl fun w1 st => ⟨rfl, st.below (by simp)⟩
          ·
            refine xk_guardT rfl rfl ?_; refine xk_ldN 4 rfl ?_
            refine xk_guardT rfl rfl ?_; refine xk_ldN 4 rfl ?_
            obtain ⟨hxn, hxo⟩ := hxE (Classical.not_not.1 hg)
            refine xk_guardT rfl rfl ?_; refine xk_callR (f := 21) (fi := []) (ca := []) (by kernel_rfl) rfl rfl (by decide) (fun w1 st => same_ok xS s A1x A2x A3x A4x A1 A2 A3 A4 n1x k1x n2x k2x n3x k3x n4x k4x n1 k1 n2 k2 n3 k3 n4 k4 w1 (hSQx.W (st.le (by simp)) (ok_small hxo)) (hSQ.W (st.le (by simp)) (made_small hm)) (fun d hd => by have := (hxo.devs d hd).1; omega)) ?_
            rw [eqB_f hxn]
            refine xk_guardT rfl rfl ?_; (first | refine xk_notD rfl (by decide) ?_ | refine xk_not rfl (by decide) ?_)
            refine xk_guardT rfl rfl ?_; (first | refine xk_pickT rfl rfl (by decide) ?_ | refine xk_pickF rfl rfl (by decide) ?_)
            (first | refine xk_pickT rfl rfl (by decide) ?_ | refine xk_pickF rfl rfl (by decide) ?_)
            refine xk_assign rfl (by decide) ?_
            refine XK.nilN ?_
            refine XK.ret ?_
            refine XK.norm ?_
            exact XK.ret1 rfl rfl fun w1 st => ⟨rfl, st.below (by simp)⟩
        ·
          refine xk_guardT rfl rfl ?_; refine xk_move rfl (by decide) ?_
          refine xk_guardT rfl rfl ?_; refine xk_eql rfl rfl (by decide) ?_
          (first | refine xk_pickT rfl rfl (by decide) ?_ | refine xk_pickF rfl rfl (by decide) ?_)
          refine xk_move rfl (by decide) ?_
          have hf2 := hfE (Classical.not_not.1 hg)
          refine xk_isV (t := 170) true rfl (by first | (exact decide_eq_true (by omega)) | (exact decide_eq_false (by omega)) | rfl | assumption | (simp_all; done)) ?_
          refine xk_guardT rfl rfl ?_; refine xk_move rfl (by decide) ?_
          refine xk_guardT rfl rfl ?_; refine xk_neq rfl rfl (by decide) ?_
          refine xk_guardT rfl rfl ?_; refine xk_move rfl (by decide) ?_
          (first | refine xk_split (t := 173) rfl (fun hg => ?_) (fun hg => ?_) | refine xk_splitB (t := 173) rfl (fun hg => ?_) (fun hg => ?_))
          ·
            refine xk_guardF rfl rfl rfl (by decide) ?_
            refine xk_guardF rfl rfl rfl (by decide) ?_
            refine xk_guardF rfl rfl rfl (by decide) ?_
            refine xk_guardF rfl rfl rfl (by decide) ?_
            refine xk_guardT rfl rfl ?_; (first | refine xk_pickT rfl rfl (by decide) ?_ | refine xk_pickF rfl rfl (by decide) ?_)
            (first | refine xk_pickT rfl rfl (by decide) ?_ | refine xk_pickF rfl rfl (by decide) ?_)
            refine xk_assign rfl (by decide) ?_
            refine XK.nilN ?_
            refine XK.ret ?_
            refine XK.norm ?_
            exact XK.ret1 rfl rfl fun w1 st => ⟨rfl, st.below (by simp)⟩
          ·
            refine xk_guardT rfl rfl ?_; refine xk_ldN 4 rfl ?_
            refine xk_guardT rfl rfl ?_; refine xk_ldN 4 rfl ?_
            obtain ⟨hxn, hxo⟩ := hxE (Classical.not_not.1 hg)
            refine xk_guardT rfl rfl ?_; refine xk_callR (f := 21) (fi := []) (ca := []) (by kernel_rfl) rfl rfl (by decide) (fun w1 st => same_ok xS s A1x A2x A3x A4x A1 A2 A3 A4 n1x k1x n2x k2x n3x k3x n4x k4x n1 k1 n2 k2 n3 k3 n4 k4 w1 (hSQx.W (st.le (by simp)) (ok_small hxo)) (hSQ.W (st.le (by simp)) (made_small hm)) (fun d hd => by have := (hxo.devs d hd).1; omega)) ?_
            rw [eqB_f hxn]
            refine xk_guardT rfl rfl ?_; (first | refine xk_notD rfl (by decide) ?_ | refine xk_not rfl (by decide) ?_)
            refine xk_guardT rfl rfl ?_; (first | refine xk_pickT rfl rfl (by decide) ?_ | refine xk_pickF rfl rfl (by decide) ?_)
            (first | refine xk_pickT rfl rfl (by decide) ?_ | refine xk_pickF rfl rfl (by decide) ?_)
            refine xk_assign rfl (by decide) ?_
            refine XK.nilN ?_
            refine XK.ret ?_
            refine XK.norm ?_
            exact XK.ret1 rfl rfl fun w1 st => ⟨rfl, st.below (by simp)⟩

end Go.Proofs.YtgopaoidgcgalaaGreatDoor
