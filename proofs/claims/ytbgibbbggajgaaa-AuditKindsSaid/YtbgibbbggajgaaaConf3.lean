/- conf: the graphs of a chip, and whether they have a cycle. -/
import Derived.Test.YtbgibbbggajgaaaConf2
import Derived.Test.YtbgibbbggajgaaaOrder
namespace Go.Proofs.Ytbgibbbggajgaaa
set_option linter.all false
open Go.RowKit
def Soc.small (s : Soc) : Prop := s.clocks.length ≤ 1000000 ∧ s.domains.length ≤ 1000000 ∧ s.resets.length ≤ 1000000 ∧ s.devs.length ≤ 1000000 ∧ (∀ c ∈ s.clocks, c.src.length ≤ 1000000) ∧ ∀ d ∈ s.devs, d.needs.length ≤ 1000000
structure SocW (w : World) (s : Soc) (A1 : Option Addr) (n1 : Nat) (A2 : Option Addr) (n2 : Nat) (A3 : Option Addr) (n3 : Nat) (A4 : Option Addr) (n4 : Nat) : Prop where
  clk : RsR (slq (all w)) (ClkR (slq (all w))) 65 6 A1 n1 s.clocks
  dom : RsR (slq (all w)) DomR 61 3 A2 n2 s.domains
  rst : RsR (slq (all w)) RstR 102 1 A3 n3 s.resets
  dev : RsR (slq (all w)) (DevR (slq (all w))) 83 6 A4 n4 s.devs
  small : s.small
section
variable {w w' : World} {s : Soc} {A1 A2 A3 A4 : Option Addr} {n1 n2 n3 n4 : Nat}
theorem SocW.le (h : SocW w s A1 n1 A2 n2 A3 n3 A4 n4) (hb : Below w.heap.size w w') : SocW w' s A1 n1 A2 n2 A3 n3 A4 n4 :=
  ⟨h.clk.mono (slq_le (all_le hb)) (fun _ _ => ClkR.mono (slq_le (all_le hb))), h.dom.mono (slq_le (all_le hb)) (fun _ _ h => h), h.rst.mono (slq_le (all_le hb)) (fun _ _ h => h), h.dev.mono (slq_le (all_le hb)) (fun _ _ => DevR.mono (slq_le (all_le hb))), h.small⟩
theorem SocW.len1 (h : SocW w s A1 n1 A2 n2 A3 n3 A4 n4) : n1 = s.clocks.length := by obtain ⟨_, _, h, _⟩ := h.clk; exact h
theorem SocW.len2 (h : SocW w s A1 n1 A2 n2 A3 n3 A4 n4) : n2 = s.domains.length := by obtain ⟨_, _, h, _⟩ := h.dom; exact h
theorem SocW.len3 (h : SocW w s A1 n1 A2 n2 A3 n3 A4 n4) : n3 = s.resets.length := by obtain ⟨_, _, h, _⟩ := h.rst; exact h
theorem SocW.len4 (h : SocW w s A1 n1 A2 n2 A3 n3 A4 n4) : n4 = s.devs.length := by obtain ⟨_, _, h, _⟩ := h.dev; exact h
end
/-- the elements of a row, one by one -/
theorem RsR.row {α : Type} {w : World} {R : α → List Value → Prop} {t : TypeId} {sz n : Nat} {A : Option Addr} {es : List α} (h : RsR (slq (all w)) R t sz A n es) {k : Nat} {e : α} (hk : es[k]? = some e) :
    ∃ b off r, A = some ⟨b, off, none⟩ ∧ r.length = sz ∧ R e r ∧ ROn w b (off + k * sz) r := by
  obtain ⟨rows, h1, h2, h3⟩ := h
  have hke := (List.getElem?_eq_some_iff.1 hk).1
  have hl := h1.len.1
  obtain ⟨r, hr⟩ : ∃ r, rows[k]? = some r := ⟨_, List.getElem?_eq_getElem (by omega)⟩
  obtain ⟨e', he, hrl, hR⟩ := h1.at_ hr
  rw [hk] at he
  cases he
  obtain ⟨b, off, hA, hro⟩ := SlS.row h3 h1.all_len hr (by omega)
  exact ⟨b, off, r, hA, hrl, hR, hro⟩
def clocksG (s : Soc) : List (List Int) := s.clocks.map (·.src)
def domsG (s : Soc) : List (List Int) := s.domains.map fun d => if d.above = -1 then [] else [d.above]
def needsG (s : Soc) : List (List Int) := s.devs.map (·.needs)
def cycE (g : List (List Int)) : Int := whenE (decide ((orderE g).1 = 5)) 5
theorem fill_set {vs : List Value} {v z : Value} {k n : Nat} (h : vs.length = k) (hk : k < n) : (vs ++ List.replicate (n - k) z).set k v = (vs ++ [v]) ++ List.replicate (n - (k + 1)) z := by
  rw [List.set_append_right _ _ (by omega), h, Nat.sub_self, show n - k = (n - (k + 1)) + 1 by omega, List.replicate_succ, List.set_cons_zero, List.append_assoc]; rfl
theorem fill_nil {vs : List Value} {z : Value} {k n : Nat} (hk : k < n) : vs ++ List.replicate (n - k) z = (vs ++ [z]) ++ List.replicate (n - (k + 1)) z := by
  rw [show n - k = (n - (k + 1)) + 1 by omega, List.replicate_succ, List.append_assoc]; rfl
theorem rows_next {g : List (List Int)} {k : Nat} {vs : List Value} {q q' : Piece} {l : List Int} {v : Value} (h : Rows (LstR (slq q)) 1 (g.take k) (vs.map fun v => [v])) (hl : q.Le q') (hg : g[k]? = some l) (hv : LstR (slq q') l [v]) : Rows (LstR (slq q')) 1 (g.take (k + 1)) ((vs ++ [v]).map fun v => [v]) := by
  rw [List.take_add_one, hg, Option.toList_some, List.map_append]
  exact (h.mono (fun _ _ => LstR.mono (slq_le hl))).snoc rfl hv
theorem GrS.ofBlk {q q2 : Piece} {g : List (List Int)} {vs : List Value} {gG n : Nat} {t : TypeId} (h : Rows (LstR (slq q)) 1 g (vs.map fun v => [v])) (hl : q.Le q2) (h1 : ∃ F, (HP.blk gG t vs).sat F q2.w ∧ ∀ b, F b → q2.Z b) (hn : n = g.length) : GrS q2 (some ⟨gG, 0, none⟩) n g := by
  obtain ⟨F, hs, hz⟩ := h1
  refine ⟨_, h.mono (fun _ _ => LstR.mono (slq_le hl)), hn, ?_⟩
  rw [show (vs.map fun v => [v]).flatten = vs by clear h hs; induction vs <;> simp_all]
  refine SlS.of_blk (c := 0) hs hz ?_
  have := h.len.1
  simp at this
  omega
/-- a list of the callee's own -/
def OwnOk (zs : List Int) (v : Value) (w w' : World) : Prop := ∃ A c, v = .slice A zs.length c ∧ SlS (fresh w w') 1 A zs.length (intCells zs)
/-- a graph of the callee's own -/
def GrOk (g : List (List Int)) (v : Value) (w w' : World) : Prop := ∃ A c, v = .slice A g.length c ∧ GrS (fresh w w') A g.length g

theorem check_any (A : Option Addr) (n c : Nat) (g : List (List Int)) (w : World) (hg : GrS (all w) A n g) (hn : n = g.length) (hn2 : (n : Int) ≤ 9223372036854775806) (hlen : ∀ l ∈ g, (l.length : Int) ≤ 9223372036854775806) :
    Calls Try.prog 122 #[.slice A n c] w (Rt (.int .i64 (orderE g).1) w) := by
  refine XK.enter (vs := [.slice A n c]) Try.func122 rfl Try.ntmps122 (by simp) ?_
  refine XK.seq ?_

  refine XK.region ?_
  refine xk_assign rfl (by decide) ?_
  refine XK.nil ?_
  (repeat (first | refine XK.thenN ?_ | refine XK.thenE ?_ | refine XK.thenR ?_ | refine XK.inN ?_ | refine XK.inE ?_ | refine XK.inR ?_ | refine XK.inF rfl ?_))
  refine XK.seq ?_

  refine XK.region ?_
  refine xk_move rfl (by decide) ?_
  refine xk_callV (f := 44) (fi := []) (ca := []) (by kernel_rfl) rfl rfl (by decide) (fun v => ∃ A m c, v = .tuple #[.slice A m c, .int .i64 (orderE g).1]) (fun w1 st => (order_any A n c g w1 (hg.le (all_le (st.started (by simp)))) hn hn2 hlen).mono fun y w2 h => ?_) ?_
  · obtain ⟨⟨A', m, c', hy, _, _⟩, hb⟩ := h
    exact ⟨⟨_, hy, A', m, c', rfl⟩, hb⟩
  rintro _ ⟨A', m, c', rfl⟩
  refine xk_move rfl (by decide) ?_
  refine xk_extract rfl rfl (by decide) ?_
  refine xk_extract rfl rfl (by decide) ?_
  refine xk_assign rfl (by decide) ?_
  refine xk_assign rfl (by decide) ?_
  refine XK.nil ?_
  (repeat (first | refine XK.thenN ?_ | refine XK.thenE ?_ | refine XK.thenR ?_ | refine XK.inN ?_ | refine XK.inE ?_ | refine XK.inR ?_ | refine XK.inF rfl ?_))
  refine XK.seq ?_

  refine XK.region ?_
  refine xk_move rfl (by decide) ?_
  refine xk_assign rfl (by decide) ?_
  refine XK.nil ?_
  (repeat (first | refine XK.thenN ?_ | refine XK.thenE ?_ | refine XK.thenR ?_ | refine XK.inN ?_ | refine XK.inE ?_ | refine XK.inR ?_ | refine XK.inF rfl ?_))
  refine XK.ret ?_
  (repeat (first | refine XK.thenN ?_ | refine XK.thenE ?_ | refine XK.thenR ?_ | refine XK.inN ?_ | refine XK.inE ?_ | refine XK.inR ?_ | refine XK.inF rfl ?_))
  exact XK.ret1 rfl rfl fun w1 st => ⟨rfl, st.below (by simp)⟩

theorem cycle_any (A : Option Addr) (n c : Nat) (g : List (List Int)) (w : World) (hg : GrS (all w) A n g) (hn : n = g.length) (hn2 : (n : Int) ≤ 9223372036854775806) (hlen : ∀ l ∈ g, (l.length : Int) ≤ 9223372036854775806) :
    Calls Try.prog 73 #[.slice A n c] w (Rt (.int .i64 (cycE g)) w) := by
  refine XK.enter (vs := [.slice A n c]) Try.func73 rfl Try.ntmps73 (by simp) ?_
  refine XK.seq ?_

  refine XK.region ?_
  refine xk_assign rfl (by decide) ?_
  refine XK.nil ?_
  (repeat (first | refine XK.thenN ?_ | refine XK.thenE ?_ | refine XK.thenR ?_ | refine XK.inN ?_ | refine XK.inE ?_ | refine XK.inR ?_ | refine XK.inF rfl ?_))
  refine XK.seq ?_

  refine XK.region ?_
  refine xk_move rfl (by decide) ?_
  refine xk_callR (f := 122) (fi := []) (ca := []) (by kernel_rfl) rfl rfl (by decide) (fun w1 st => check_any A n c g w1 (hg.le (all_le (st.started (by simp)))) hn hn2 hlen) ?_
  refine xk_eql rfl rfl (by decide) ?_
  refine xk_callR (f := 113) (fi := []) (ca := []) (by kernel_rfl) rfl rfl (by decide) (fun w1 st => when_any _ _ w1) ?_
  refine xk_assign rfl (by decide) ?_
  refine XK.nil ?_
  (repeat (first | refine XK.thenN ?_ | refine XK.thenE ?_ | refine XK.thenR ?_ | refine XK.inN ?_ | refine XK.inE ?_ | refine XK.inR ?_ | refine XK.inF rfl ?_))
  refine XK.ret ?_
  (repeat (first | refine XK.thenN ?_ | refine XK.thenE ?_ | refine XK.thenR ?_ | refine XK.inN ?_ | refine XK.inE ?_ | refine XK.inR ?_ | refine XK.inF rfl ?_))
  exact XK.ret1 rfl rfl fun w1 st => ⟨rfl, st.below (by simp)⟩

theorem own_any (A : Option Addr) (n c : Nat) (zs : List Int) (w : World) (hs : SlS (all w) 1 A n (intCells zs)) (hn : n = zs.length) (hn2 : n ≤ 1000000) :
    Calls Try.prog 92 #[.slice A n c] w (fun y w' => (∃ v, y = .returned v ∧ OwnOk zs v w w') ∧ Below w.heap.size w w') := by
  refine XK.enter (vs := [.slice A n c]) Try.func92 rfl Try.ntmps92 (by simp) ?_
  refine XK.seq ?_

  refine XK.region ?_
  refine xk_assign rfl (by decide) ?_
  refine XK.nil ?_
  (repeat (first | refine XK.thenN ?_ | refine XK.thenE ?_ | refine XK.thenR ?_ | refine XK.inN ?_ | refine XK.inE ?_ | refine XK.inR ?_ | refine XK.inF rfl ?_))
  refine XK.seq ?_

  refine XK.region ?_
  refine xk_move rfl (by decide) ?_
  refine XK.nilrow 3 1 ?_
  refine xk_appendT 0 1 8 n (n' := n) (v := .slice none 0 0) (el := 3) (by kernel_rfl) (by kernel_rfl) (by decide) rfl rfl rfl (sl_ro (by simp) hs) (by simp [intCells, Value.oneCell']) (by omega) (by omega) (by omega) (by decide) fun A' k' => ?_
  refine xk_assign rfl (by decide) ?_
  refine XK.nil ?_
  (repeat (first | refine XK.thenN ?_ | refine XK.thenE ?_ | refine XK.thenR ?_ | refine XK.inN ?_ | refine XK.inE ?_ | refine XK.inR ?_ | refine XK.inF rfl ?_))
  refine XK.ret ?_
  (repeat (first | refine XK.thenN ?_ | refine XK.thenE ?_ | refine XK.thenR ?_ | refine XK.inN ?_ | refine XK.inE ?_ | refine XK.inR ?_ | refine XK.inF rfl ?_))
  refine XK.still [] [0] [] (by simp) rfl (by decide) (by decide) fun q hq _ hfr => ?_
  subst hn
  exact XK.ret1 rfl rfl fun w1 st => ⟨⟨_, rfl, A', k', rfl, (SlS.own (hq 0 _ (by simp) rfl)).le (st.fresh_le (by simp) (hfr (by simp) (by simp)))⟩, st.below (by simp)⟩

theorem clocks_any (s : Soc) (A1 A2 A3 A4 : Option Addr) (n1 k1 n2 k2 n3 k3 n4 k4 : Nat) (w : World) (hW : SocW w s A1 n1 A2 n2 A3 n3 A4 n4) :
    Calls Try.prog 46 #[.agg #[.slice A1 n1 k1, .slice A2 n2 k2, .slice A3 n3 k3, .slice A4 n4 k4]] w (fun y w' => (∃ v, y = .returned v ∧ GrOk (clocksG s) v w w') ∧ Below w.heap.size w w') := by
  have hn := hW.len1
  have hsm := hW.small
  unfold Soc.small at hsm
  obtain ⟨hs1, hs2, hs3, hs4, hs5, hs6⟩ := hsm
  refine XK.enter (vs := [.agg #[.slice A1 n1 k1, .slice A2 n2 k2, .slice A3 n3 k3, .slice A4 n4 k4]]) Try.func46 rfl Try.ntmps46 (by simp) ?_
  refine XK.seq ?_

  refine XK.region ?_
  refine xk_box rfl (by decide) fun g1 => ?_
  refine xk_assign rfl (by decide) ?_
  refine XK.nil ?_
  (repeat (first | refine XK.thenN ?_ | refine XK.thenE ?_ | refine XK.thenR ?_ | refine XK.inN ?_ | refine XK.inE ?_ | refine XK.inR ?_ | refine XK.inF rfl ?_))
  refine XK.seq ?_

  refine XK.region ?_
  refine xk_field (off := 0) (by kernel_rfl) rfl (by decide) ?_
  refine xk_load (by kernel_rfl) rfl (by first | assumption | exact Rd.blk 0 rfl rfl | exact Rd.blk 1 rfl rfl | exact Rd.blk 2 rfl rfl | exact Rd.blk 3 rfl rfl | exact Rd.blk 4 rfl rfl | exact Rd.blk 5 rfl rfl | exact Rd.blk 6 rfl rfl | exact Rd.blk 7 rfl rfl | exact Rd.blk 8 rfl rfl | exact Rd.roc (by simp) (by assumption) | (apply Rd.rocN (by simp); assumption; rfl)) (by decide) ?_
  refine xk_len (el := 65) (by kernel_rfl) rfl (by decide) ?_
  refine xk_makeT 24 (el := 41) (z := .slice none 0 0) (by kernel_rfl) (by kernel_rfl) rfl rfl rfl (by omega) (by omega) (by decide) fun g2 => ?_
  refine xk_assign rfl (by decide) ?_
  refine XK.nil ?_
  (repeat (first | refine XK.thenN ?_ | refine XK.thenE ?_ | refine XK.thenR ?_ | refine XK.inN ?_ | refine XK.inE ?_ | refine XK.inR ?_ | refine XK.inF rfl ?_))
  refine XK.seq ?_
  refine XK.seq ?_

  refine XK.region ?_
  refine xk_field (off := 0) (by kernel_rfl) rfl (by decide) ?_
  refine xk_load (by kernel_rfl) rfl (by first | assumption | exact Rd.blk 0 rfl rfl | exact Rd.blk 1 rfl rfl | exact Rd.blk 2 rfl rfl | exact Rd.blk 3 rfl rfl | exact Rd.blk 4 rfl rfl | exact Rd.blk 5 rfl rfl | exact Rd.blk 6 rfl rfl | exact Rd.blk 7 rfl rfl | exact Rd.blk 8 rfl rfl | exact Rd.roc (by simp) (by assumption) | (apply Rd.rocN (by simp); assumption; rfl)) (by decide) ?_
  refine xk_len (el := 65) (by kernel_rfl) rfl (by decide) ?_
  refine xk_move rfl (by decide) ?_
  refine XK.nil ?_
  (repeat (first | refine XK.thenN ?_ | refine XK.thenE ?_ | refine XK.thenR ?_ | refine XK.inN ?_ | refine XK.inE ?_ | refine XK.inR ?_ | refine XK.inF rfl ?_))
  refine XK.env [(13, .int .i64 0), (12, .int .i64 n1), (11, .slice A1 n1 k1), (3, .slice (some ⟨g2, 0, none⟩) n1 n1), (1, .pointer (some ⟨g1, 0, none⟩))] ⟨rfl, rfl, rfl, rfl, rfl, trivial⟩ ?_
  refine XK.still [] [] [0, 1] (by simp) rfl (by decide) (by decide) fun q0 _ _ hfr0 => ?_
  refine XK.block ?_
  refine XK.loop (fun m e R H => ∃ (k : Nat) (vs : List Value) (q : Piece), k ≤ n1 ∧ m = n1 - k ∧ Fresh w q ∧ Rows (LstR (slq q)) 1 ((clocksG s).take k) (vs.map fun v => [v]) ∧ vs.length = k ∧ e = [(13, .int .i64 k), (12, .int .i64 n1), (11, .slice A1 n1 k1), (3, .slice (some ⟨g2, 0, none⟩) n1 n1), (1, .pointer (some ⟨g1, 0, none⟩))] ∧ R = [q, all w] ∧ H = [HP.blk g2 41 (vs ++ List.replicate (n1 - k) (.slice none 0 0)), HP.blk g1 50 [.slice A1 n1 k1, .slice A2 n2 k2, .slice A3 n3 k3, .slice A4 n4 k4]]) n1 ⟨0, [], _, by omega, rfl, hfr0 (by simp) (by simp), trivial, rfl, rfl, rfl, rfl⟩ fun m e R H hI => ?_
  obtain ⟨k, vs, q, hk, rfl, hfq, hrows, hvl, rfl, rfl, rfl⟩ := hI
  refine XK.seq ?_

  refine XK.region ?_
  refine xk_lss rfl rfl (by decide) ?_
  refine XK.nil ?_
  (repeat (first | refine XK.thenN ?_ | refine XK.thenE ?_ | refine XK.thenR ?_ | refine XK.inN ?_ | refine XK.inE ?_ | refine XK.inR ?_ | refine XK.inF rfl ?_))
  refine XK.seq ?_
  refine XK.if_ rfl (fun h => ?_) (fun h => ?_)
  ·
    refine XK.skip ?_
    (repeat (first | refine XK.thenN ?_ | refine XK.thenE ?_ | refine XK.thenR ?_ | refine XK.inN ?_ | refine XK.inE ?_ | refine XK.inR ?_ | refine XK.inF rfl ?_))
    refine XK.seq ?_
    refine XK.block ?_
    refine XK.seq ?_
    have hkn : k < s.clocks.length := by omega
    obtain ⟨e, he⟩ : ∃ e, s.clocks[k]? = some e := ⟨_, List.getElem?_eq_getElem hkn⟩
    obtain ⟨b, off, r, rfl, hrl, hR, hro⟩ := hW.clk.row he
    obtain ⟨Af, nf, kf, rfl, hnf, hsf⟩ := hR
    have hgk : (clocksG s)[k]? = some (e.src) := by simp [clocksG, he]

    refine XK.region ?_
    refine xk_move rfl (by decide) ?_
    refine xk_at (k) (off + k * 6) (el := 65) (sz := 6) (by kernel_rfl) (by kernel_rfl) rfl rfl (by omega) (by omega) (by omega) (by decide) ?_
    refine xk_loadN 6 (by kernel_rfl) rfl (by first | assumption | exact RdN.whole 0 rfl | exact RdN.whole 1 rfl | exact RdN.whole 2 rfl | exact RdN.whole 3 rfl | exact RdN.whole 4 rfl | exact RdN.whole 5 rfl | exact RdN.whole 6 rfl | exact RdN.whole 7 rfl | exact RdN.whole 8 rfl | exact RdN.roc (by simp) (by assumption)) rfl (by decide) ?_
    refine xk_alloc (cs := [.int .u8 0, .slice none 0 0, .int .u64 0, .int .i64 0, .int .i64 0, .int .i64 0]) (zeroB_of (by kernel_rfl)) (by decide) fun g3 => ?_
    refine xk_assign rfl (by decide) ?_
    (first | (refine xk_storeN 0 rfl rfl rfl (by kernel_rfl) (by simp [Value.cells, Value.oneCell']) (by simp [Value.cells]) ?_) | (refine xk_storeN 1 rfl rfl rfl (by kernel_rfl) (by simp [Value.cells, Value.oneCell']) (by simp [Value.cells]) ?_) | (refine xk_storeN 2 rfl rfl rfl (by kernel_rfl) (by simp [Value.cells, Value.oneCell']) (by simp [Value.cells]) ?_) | (refine xk_storeN 3 rfl rfl rfl (by kernel_rfl) (by simp [Value.cells, Value.oneCell']) (by simp [Value.cells]) ?_) | (refine xk_storeN 4 rfl rfl rfl (by kernel_rfl) (by simp [Value.cells, Value.oneCell']) (by simp [Value.cells]) ?_) | (refine xk_storeN 5 rfl rfl rfl (by kernel_rfl) (by simp [Value.cells, Value.oneCell']) (by simp [Value.cells]) ?_) | (refine xk_storeN 6 rfl rfl rfl (by kernel_rfl) (by simp [Value.cells, Value.oneCell']) (by simp [Value.cells]) ?_) | (refine xk_storeN 7 rfl rfl rfl (by kernel_rfl) (by simp [Value.cells, Value.oneCell']) (by simp [Value.cells]) ?_) | (refine xk_storeN 8 rfl rfl rfl (by kernel_rfl) (by simp [Value.cells, Value.oneCell']) (by simp [Value.cells]) ?_)); simp only [putN, Value.cells, List.set, List.take, List.drop, List.nil_append, List.append_nil, List.length_cons, List.length_nil, List.cons_append, Nat.reduceAdd]
    refine XK.nil ?_
    (repeat (first | refine XK.thenN ?_ | refine XK.thenE ?_ | refine XK.thenR ?_ | refine XK.inN ?_ | refine XK.inE ?_ | refine XK.inR ?_ | refine XK.inF rfl ?_))

    refine XK.region ?_
    refine xk_move rfl (by decide) ?_
    refine xk_move rfl (by decide) ?_
    refine xk_field (off := 1) (by kernel_rfl) rfl (by decide) ?_
    refine xk_load (by kernel_rfl) rfl (by first | assumption | exact Rd.blk 0 rfl rfl | exact Rd.blk 1 rfl rfl | exact Rd.blk 2 rfl rfl | exact Rd.blk 3 rfl rfl | exact Rd.blk 4 rfl rfl | exact Rd.blk 5 rfl rfl | exact Rd.blk 6 rfl rfl | exact Rd.blk 7 rfl rfl | exact Rd.blk 8 rfl rfl | exact Rd.roc (by simp) (by assumption) | (apply Rd.rocN (by simp); assumption; rfl)) (by decide) ?_
    refine xk_call [q] (f := 92) (fi := []) (ca := []) (by kernel_rfl) rfl rfl (by decide) (by simp) (OwnOk e.src) (fun w1 st => own_any Af nf kf e.src w1 (SlS.le hsf (all_le (st.started (by simp)))) hnf (by have := hs5 e (List.mem_of_getElem? he); omega)) ?_
    rintro _ w1 q' ⟨Ao, co, rfl, hso⟩ hf' hle hfr2
    refine xk_at (k) (k) (el := 41) (sz := 1) (by kernel_rfl) (by kernel_rfl) rfl rfl (by omega) (by omega) (by omega) (by decide) ?_
    refine xk_store 1 rfl (by kernel_rfl) rfl rfl rfl (by simp; omega) ?_
    dsimp only [List.set]
    rw [fill_set hvl (by omega)]
    refine XK.nil ?_
    (repeat (first | refine XK.thenN ?_ | refine XK.thenE ?_ | refine XK.thenR ?_ | refine XK.inN ?_ | refine XK.inE ?_ | refine XK.inR ?_ | refine XK.inF rfl ?_))

    refine XK.region ?_
    refine xk_add rfl rfl (wrap_in (by omega)) (by decide) ?_
    refine xk_move rfl (by decide) ?_
    refine XK.nil ?_
    (repeat (first | refine XK.thenN ?_ | refine XK.thenE ?_ | refine XK.thenR ?_ | refine XK.inN ?_ | refine XK.inE ?_ | refine XK.inR ?_ | refine XK.inF rfl ?_))
    exact XK.weak [1, 2] rfl (by decide) (by simp) (XK.env [(13, .int .i64 (k + 1)), (12, .int .i64 n1), (11, .slice (some ⟨b, off, none⟩) n1 k1), (3, .slice (some ⟨g2, 0, none⟩) n1 n1), (1, .pointer (some ⟨g1, 0, none⟩))] ⟨rfl, rfl, rfl, rfl, rfl, trivial⟩ (XK.round (n1 - (k + 1)) (by omega) ⟨k + 1, vs ++ [_], q', by omega, rfl, hfr2 (by simpa using hfq), rows_next hrows (hle q (by simp)) hgk ⟨Ao, _, co, rfl, rfl, SlS.le hso hf'⟩, by simp [hvl], rfl, rfl, rfl⟩))
  ·
    refine XK.exit ?_
    (repeat (first | refine XK.thenN ?_ | refine XK.thenE ?_ | refine XK.thenR ?_ | refine XK.inN ?_ | refine XK.inE ?_ | refine XK.inR ?_ | refine XK.inF rfl ?_))
    refine XK.seq ?_
    obtain rfl : k = n1 := by omega
    rw [Nat.sub_self, List.replicate_zero, List.append_nil]
    rw [List.take_of_length_le (by simp [clocksG]; omega)] at hrows

    refine XK.region ?_
    refine xk_move rfl (by decide) ?_
    refine xk_assign rfl (by decide) ?_
    refine XK.nil ?_
    (repeat (first | refine XK.thenN ?_ | refine XK.thenE ?_ | refine XK.thenR ?_ | refine XK.inN ?_ | refine XK.inE ?_ | refine XK.inR ?_ | refine XK.inF rfl ?_))
    refine XK.ret ?_
    (repeat (first | refine XK.thenN ?_ | refine XK.thenE ?_ | refine XK.thenR ?_ | refine XK.inN ?_ | refine XK.inE ?_ | refine XK.inR ?_ | refine XK.inF rfl ?_))
    refine XK.still [q] [0] [] (by simp) rfl (by decide) (by decide) fun q2 hq hle hfr => ?_
    have hgl : k = (clocksG s).length := by simp [clocksG]; omega
    exact XK.ret1 rfl rfl fun w1 st => ⟨⟨_, rfl, some ⟨g2, 0, none⟩, k, by rw [← hgl], by rw [← hgl]; exact (GrS.ofBlk hrows (hle q (by simp)) (hq 0 _ (by simp) rfl) hgl).le (st.fresh_le (by simp) (hfr (by simp) (by simpa using hfq)))⟩, st.below (by simp)⟩

theorem needs_any (s : Soc) (A1 A2 A3 A4 : Option Addr) (n1 k1 n2 k2 n3 k3 n4 k4 : Nat) (w : World) (hW : SocW w s A1 n1 A2 n2 A3 n3 A4 n4) :
    Calls Try.prog 87 #[.agg #[.slice A1 n1 k1, .slice A2 n2 k2, .slice A3 n3 k3, .slice A4 n4 k4]] w (fun y w' => (∃ v, y = .returned v ∧ GrOk (needsG s) v w w') ∧ Below w.heap.size w w') := by
  have hn := hW.len4
  have hsm := hW.small
  unfold Soc.small at hsm
  obtain ⟨hs1, hs2, hs3, hs4, hs5, hs6⟩ := hsm
  refine XK.enter (vs := [.agg #[.slice A1 n1 k1, .slice A2 n2 k2, .slice A3 n3 k3, .slice A4 n4 k4]]) Try.func87 rfl Try.ntmps87 (by simp) ?_
  refine XK.seq ?_

  refine XK.region ?_
  refine xk_box rfl (by decide) fun g1 => ?_
  refine xk_assign rfl (by decide) ?_
  refine XK.nil ?_
  (repeat (first | refine XK.thenN ?_ | refine XK.thenE ?_ | refine XK.thenR ?_ | refine XK.inN ?_ | refine XK.inE ?_ | refine XK.inR ?_ | refine XK.inF rfl ?_))
  refine XK.seq ?_

  refine XK.region ?_
  refine xk_field (off := 3) (by kernel_rfl) rfl (by decide) ?_
  refine xk_load (by kernel_rfl) rfl (by first | assumption | exact Rd.blk 0 rfl rfl | exact Rd.blk 1 rfl rfl | exact Rd.blk 2 rfl rfl | exact Rd.blk 3 rfl rfl | exact Rd.blk 4 rfl rfl | exact Rd.blk 5 rfl rfl | exact Rd.blk 6 rfl rfl | exact Rd.blk 7 rfl rfl | exact Rd.blk 8 rfl rfl | exact Rd.roc (by simp) (by assumption) | (apply Rd.rocN (by simp); assumption; rfl)) (by decide) ?_
  refine xk_len (el := 83) (by kernel_rfl) rfl (by decide) ?_
  refine xk_makeT 24 (el := 41) (z := .slice none 0 0) (by kernel_rfl) (by kernel_rfl) rfl rfl rfl (by omega) (by omega) (by decide) fun g2 => ?_
  refine xk_assign rfl (by decide) ?_
  refine XK.nil ?_
  (repeat (first | refine XK.thenN ?_ | refine XK.thenE ?_ | refine XK.thenR ?_ | refine XK.inN ?_ | refine XK.inE ?_ | refine XK.inR ?_ | refine XK.inF rfl ?_))
  refine XK.seq ?_
  refine XK.seq ?_

  refine XK.region ?_
  refine xk_field (off := 3) (by kernel_rfl) rfl (by decide) ?_
  refine xk_load (by kernel_rfl) rfl (by first | assumption | exact Rd.blk 0 rfl rfl | exact Rd.blk 1 rfl rfl | exact Rd.blk 2 rfl rfl | exact Rd.blk 3 rfl rfl | exact Rd.blk 4 rfl rfl | exact Rd.blk 5 rfl rfl | exact Rd.blk 6 rfl rfl | exact Rd.blk 7 rfl rfl | exact Rd.blk 8 rfl rfl | exact Rd.roc (by simp) (by assumption) | (apply Rd.rocN (by simp); assumption; rfl)) (by decide) ?_
  refine xk_len (el := 83) (by kernel_rfl) rfl (by decide) ?_
  refine xk_move rfl (by decide) ?_
  refine XK.nil ?_
  (repeat (first | refine XK.thenN ?_ | refine XK.thenE ?_ | refine XK.thenR ?_ | refine XK.inN ?_ | refine XK.inE ?_ | refine XK.inR ?_ | refine XK.inF rfl ?_))
  refine XK.env [(13, .int .i64 0), (12, .int .i64 n4), (11, .slice A4 n4 k4), (3, .slice (some ⟨g2, 0, none⟩) n4 n4), (1, .pointer (some ⟨g1, 0, none⟩))] ⟨rfl, rfl, rfl, rfl, rfl, trivial⟩ ?_
  refine XK.still [] [] [0, 1] (by simp) rfl (by decide) (by decide) fun q0 _ _ hfr0 => ?_
  refine XK.block ?_
  refine XK.loop (fun m e R H => ∃ (k : Nat) (vs : List Value) (q : Piece), k ≤ n4 ∧ m = n4 - k ∧ Fresh w q ∧ Rows (LstR (slq q)) 1 ((needsG s).take k) (vs.map fun v => [v]) ∧ vs.length = k ∧ e = [(13, .int .i64 k), (12, .int .i64 n4), (11, .slice A4 n4 k4), (3, .slice (some ⟨g2, 0, none⟩) n4 n4), (1, .pointer (some ⟨g1, 0, none⟩))] ∧ R = [q, all w] ∧ H = [HP.blk g2 41 (vs ++ List.replicate (n4 - k) (.slice none 0 0)), HP.blk g1 50 [.slice A1 n1 k1, .slice A2 n2 k2, .slice A3 n3 k3, .slice A4 n4 k4]]) n4 ⟨0, [], _, by omega, rfl, hfr0 (by simp) (by simp), trivial, rfl, rfl, rfl, rfl⟩ fun m e R H hI => ?_
  obtain ⟨k, vs, q, hk, rfl, hfq, hrows, hvl, rfl, rfl, rfl⟩ := hI
  refine XK.seq ?_

  refine XK.region ?_
  refine xk_lss rfl rfl (by decide) ?_
  refine XK.nil ?_
  (repeat (first | refine XK.thenN ?_ | refine XK.thenE ?_ | refine XK.thenR ?_ | refine XK.inN ?_ | refine XK.inE ?_ | refine XK.inR ?_ | refine XK.inF rfl ?_))
  refine XK.seq ?_
  refine XK.if_ rfl (fun h => ?_) (fun h => ?_)
  ·
    refine XK.skip ?_
    (repeat (first | refine XK.thenN ?_ | refine XK.thenE ?_ | refine XK.thenR ?_ | refine XK.inN ?_ | refine XK.inE ?_ | refine XK.inR ?_ | refine XK.inF rfl ?_))
    refine XK.seq ?_
    refine XK.block ?_
    refine XK.seq ?_
    have hkn : k < s.devs.length := by omega
    obtain ⟨e, he⟩ : ∃ e, s.devs[k]? = some e := ⟨_, List.getElem?_eq_getElem hkn⟩
    obtain ⟨b, off, r, rfl, hrl, hR, hro⟩ := hW.dev.row he
    obtain ⟨Ar, nr, kr, Af, nf, kf, rfl, _, hnf, _, hsf⟩ := hR
    have hgk : (needsG s)[k]? = some (e.needs) := by simp [needsG, he]

    refine XK.region ?_
    refine xk_move rfl (by decide) ?_
    refine xk_at (k) (off + k * 6) (el := 83) (sz := 6) (by kernel_rfl) (by kernel_rfl) rfl rfl (by omega) (by omega) (by omega) (by decide) ?_
    refine xk_loadN 6 (by kernel_rfl) rfl (by first | assumption | exact RdN.whole 0 rfl | exact RdN.whole 1 rfl | exact RdN.whole 2 rfl | exact RdN.whole 3 rfl | exact RdN.whole 4 rfl | exact RdN.whole 5 rfl | exact RdN.whole 6 rfl | exact RdN.whole 7 rfl | exact RdN.whole 8 rfl | exact RdN.roc (by simp) (by assumption)) rfl (by decide) ?_
    refine xk_alloc (cs := [.int .i64 0, .int .i64 0, .int .i64 0, .int .u32 0, .slice none 0 0, .slice none 0 0]) (zeroB_of (by kernel_rfl)) (by decide) fun g3 => ?_
    refine xk_assign rfl (by decide) ?_
    (first | (refine xk_storeN 0 rfl rfl rfl (by kernel_rfl) (by simp [Value.cells, Value.oneCell']) (by simp [Value.cells]) ?_) | (refine xk_storeN 1 rfl rfl rfl (by kernel_rfl) (by simp [Value.cells, Value.oneCell']) (by simp [Value.cells]) ?_) | (refine xk_storeN 2 rfl rfl rfl (by kernel_rfl) (by simp [Value.cells, Value.oneCell']) (by simp [Value.cells]) ?_) | (refine xk_storeN 3 rfl rfl rfl (by kernel_rfl) (by simp [Value.cells, Value.oneCell']) (by simp [Value.cells]) ?_) | (refine xk_storeN 4 rfl rfl rfl (by kernel_rfl) (by simp [Value.cells, Value.oneCell']) (by simp [Value.cells]) ?_) | (refine xk_storeN 5 rfl rfl rfl (by kernel_rfl) (by simp [Value.cells, Value.oneCell']) (by simp [Value.cells]) ?_) | (refine xk_storeN 6 rfl rfl rfl (by kernel_rfl) (by simp [Value.cells, Value.oneCell']) (by simp [Value.cells]) ?_) | (refine xk_storeN 7 rfl rfl rfl (by kernel_rfl) (by simp [Value.cells, Value.oneCell']) (by simp [Value.cells]) ?_) | (refine xk_storeN 8 rfl rfl rfl (by kernel_rfl) (by simp [Value.cells, Value.oneCell']) (by simp [Value.cells]) ?_)); simp only [putN, Value.cells, List.set, List.take, List.drop, List.nil_append, List.append_nil, List.length_cons, List.length_nil, List.cons_append, Nat.reduceAdd]
    refine XK.nil ?_
    (repeat (first | refine XK.thenN ?_ | refine XK.thenE ?_ | refine XK.thenR ?_ | refine XK.inN ?_ | refine XK.inE ?_ | refine XK.inR ?_ | refine XK.inF rfl ?_))

    refine XK.region ?_
    refine xk_move rfl (by decide) ?_
    refine xk_move rfl (by decide) ?_
    refine xk_field (off := 5) (by kernel_rfl) rfl (by decide) ?_
    refine xk_load (by kernel_rfl) rfl (by first | assumption | exact Rd.blk 0 rfl rfl | exact Rd.blk 1 rfl rfl | exact Rd.blk 2 rfl rfl | exact Rd.blk 3 rfl rfl | exact Rd.blk 4 rfl rfl | exact Rd.blk 5 rfl rfl | exact Rd.blk 6 rfl rfl | exact Rd.blk 7 rfl rfl | exact Rd.blk 8 rfl rfl | exact Rd.roc (by simp) (by assumption) | (apply Rd.rocN (by simp); assumption; rfl)) (by decide) ?_
    refine xk_call [q] (f := 92) (fi := []) (ca := []) (by kernel_rfl) rfl rfl (by decide) (by simp) (OwnOk e.needs) (fun w1 st => own_any Af nf kf e.needs w1 (SlS.le hsf (all_le (st.started (by simp)))) hnf (by have := hs6 e (List.mem_of_getElem? he); omega)) ?_
    rintro _ w1 q' ⟨Ao, co, rfl, hso⟩ hf' hle hfr2
    refine xk_at (k) (k) (el := 41) (sz := 1) (by kernel_rfl) (by kernel_rfl) rfl rfl (by omega) (by omega) (by omega) (by decide) ?_
    refine xk_store 1 rfl (by kernel_rfl) rfl rfl rfl (by simp; omega) ?_
    dsimp only [List.set]
    rw [fill_set hvl (by omega)]
    refine XK.nil ?_
    (repeat (first | refine XK.thenN ?_ | refine XK.thenE ?_ | refine XK.thenR ?_ | refine XK.inN ?_ | refine XK.inE ?_ | refine XK.inR ?_ | refine XK.inF rfl ?_))

    refine XK.region ?_
    refine xk_add rfl rfl (wrap_in (by omega)) (by decide) ?_
    refine xk_move rfl (by decide) ?_
    refine XK.nil ?_
    (repeat (first | refine XK.thenN ?_ | refine XK.thenE ?_ | refine XK.thenR ?_ | refine XK.inN ?_ | refine XK.inE ?_ | refine XK.inR ?_ | refine XK.inF rfl ?_))
    exact XK.weak [1, 2] rfl (by decide) (by simp) (XK.env [(13, .int .i64 (k + 1)), (12, .int .i64 n4), (11, .slice (some ⟨b, off, none⟩) n4 k4), (3, .slice (some ⟨g2, 0, none⟩) n4 n4), (1, .pointer (some ⟨g1, 0, none⟩))] ⟨rfl, rfl, rfl, rfl, rfl, trivial⟩ (XK.round (n4 - (k + 1)) (by omega) ⟨k + 1, vs ++ [_], q', by omega, rfl, hfr2 (by simpa using hfq), rows_next hrows (hle q (by simp)) hgk ⟨Ao, _, co, rfl, rfl, SlS.le hso hf'⟩, by simp [hvl], rfl, rfl, rfl⟩))
  ·
    refine XK.exit ?_
    (repeat (first | refine XK.thenN ?_ | refine XK.thenE ?_ | refine XK.thenR ?_ | refine XK.inN ?_ | refine XK.inE ?_ | refine XK.inR ?_ | refine XK.inF rfl ?_))
    refine XK.seq ?_
    obtain rfl : k = n4 := by omega
    rw [Nat.sub_self, List.replicate_zero, List.append_nil]
    rw [List.take_of_length_le (by simp [needsG]; omega)] at hrows

    refine XK.region ?_
    refine xk_move rfl (by decide) ?_
    refine xk_assign rfl (by decide) ?_
    refine XK.nil ?_
    (repeat (first | refine XK.thenN ?_ | refine XK.thenE ?_ | refine XK.thenR ?_ | refine XK.inN ?_ | refine XK.inE ?_ | refine XK.inR ?_ | refine XK.inF rfl ?_))
    refine XK.ret ?_
    (repeat (first | refine XK.thenN ?_ | refine XK.thenE ?_ | refine XK.thenR ?_ | refine XK.inN ?_ | refine XK.inE ?_ | refine XK.inR ?_ | refine XK.inF rfl ?_))
    refine XK.still [q] [0] [] (by simp) rfl (by decide) (by decide) fun q2 hq hle hfr => ?_
    have hgl : k = (needsG s).length := by simp [needsG]; omega
    exact XK.ret1 rfl rfl fun w1 st => ⟨⟨_, rfl, some ⟨g2, 0, none⟩, k, by rw [← hgl], by rw [← hgl]; exact (GrS.ofBlk hrows (hle q (by simp)) (hq 0 _ (by simp) rfl) hgl).le (st.fresh_le (by simp) (hfr (by simp) (by simpa using hfq)))⟩, st.below (by simp)⟩

theorem doms_any (s : Soc) (A1 A2 A3 A4 : Option Addr) (n1 k1 n2 k2 n3 k3 n4 k4 : Nat) (w : World) (hW : SocW w s A1 n1 A2 n2 A3 n3 A4 n4) :
    Calls Try.prog 45 #[.agg #[.slice A1 n1 k1, .slice A2 n2 k2, .slice A3 n3 k3, .slice A4 n4 k4]] w (fun y w' => (∃ v, y = .returned v ∧ GrOk (domsG s) v w w') ∧ Below w.heap.size w w') := by
  have hn := hW.len2
  have hsm := hW.small
  unfold Soc.small at hsm
  obtain ⟨hs1, hs2, hs3, hs4, hs5, hs6⟩ := hsm
  refine XK.enter (vs := [.agg #[.slice A1 n1 k1, .slice A2 n2 k2, .slice A3 n3 k3, .slice A4 n4 k4]]) Try.func45 rfl Try.ntmps45 (by simp) ?_
  refine XK.seq ?_

  refine XK.region ?_
  refine xk_box rfl (by decide) fun g1 => ?_
  refine xk_assign rfl (by decide) ?_
  refine XK.nil ?_
  (repeat (first | refine XK.thenN ?_ | refine XK.thenE ?_ | refine XK.thenR ?_ | refine XK.inN ?_ | refine XK.inE ?_ | refine XK.inR ?_ | refine XK.inF rfl ?_))
  refine XK.seq ?_

  refine XK.region ?_
  refine xk_field (off := 1) (by kernel_rfl) rfl (by decide) ?_
  refine xk_load (by kernel_rfl) rfl (by first | assumption | exact Rd.blk 0 rfl rfl | exact Rd.blk 1 rfl rfl | exact Rd.blk 2 rfl rfl | exact Rd.blk 3 rfl rfl | exact Rd.blk 4 rfl rfl | exact Rd.blk 5 rfl rfl | exact Rd.blk 6 rfl rfl | exact Rd.blk 7 rfl rfl | exact Rd.blk 8 rfl rfl | exact Rd.roc (by simp) (by assumption) | (apply Rd.rocN (by simp); assumption; rfl)) (by decide) ?_
  refine xk_len (el := 61) (by kernel_rfl) rfl (by decide) ?_
  refine xk_makeT 24 (el := 41) (z := .slice none 0 0) (by kernel_rfl) (by kernel_rfl) rfl rfl rfl (by omega) (by omega) (by decide) fun g2 => ?_
  refine xk_assign rfl (by decide) ?_
  refine XK.nil ?_
  (repeat (first | refine XK.thenN ?_ | refine XK.thenE ?_ | refine XK.thenR ?_ | refine XK.inN ?_ | refine XK.inE ?_ | refine XK.inR ?_ | refine XK.inF rfl ?_))
  refine XK.seq ?_
  refine XK.seq ?_

  refine XK.region ?_
  refine xk_field (off := 1) (by kernel_rfl) rfl (by decide) ?_
  refine xk_load (by kernel_rfl) rfl (by first | assumption | exact Rd.blk 0 rfl rfl | exact Rd.blk 1 rfl rfl | exact Rd.blk 2 rfl rfl | exact Rd.blk 3 rfl rfl | exact Rd.blk 4 rfl rfl | exact Rd.blk 5 rfl rfl | exact Rd.blk 6 rfl rfl | exact Rd.blk 7 rfl rfl | exact Rd.blk 8 rfl rfl | exact Rd.roc (by simp) (by assumption) | (apply Rd.rocN (by simp); assumption; rfl)) (by decide) ?_
  refine xk_len (el := 61) (by kernel_rfl) rfl (by decide) ?_
  refine xk_move rfl (by decide) ?_
  refine XK.nil ?_
  (repeat (first | refine XK.thenN ?_ | refine XK.thenE ?_ | refine XK.thenR ?_ | refine XK.inN ?_ | refine XK.inE ?_ | refine XK.inR ?_ | refine XK.inF rfl ?_))
  refine XK.env [(13, .int .i64 0), (12, .int .i64 n2), (11, .slice A2 n2 k2), (3, .slice (some ⟨g2, 0, none⟩) n2 n2), (1, .pointer (some ⟨g1, 0, none⟩))] ⟨rfl, rfl, rfl, rfl, rfl, trivial⟩ ?_
  refine XK.still [] [] [0, 1] (by simp) rfl (by decide) (by decide) fun q0 _ _ hfr0 => ?_
  refine XK.block ?_
  refine XK.loop (fun m e R H => ∃ (k : Nat) (vs : List Value) (q : Piece), k ≤ n2 ∧ m = n2 - k ∧ Fresh w q ∧ Rows (LstR (slq q)) 1 ((domsG s).take k) (vs.map fun v => [v]) ∧ vs.length = k ∧ e = [(13, .int .i64 k), (12, .int .i64 n2), (11, .slice A2 n2 k2), (3, .slice (some ⟨g2, 0, none⟩) n2 n2), (1, .pointer (some ⟨g1, 0, none⟩))] ∧ R = [q, all w] ∧ H = [HP.blk g2 41 (vs ++ List.replicate (n2 - k) (.slice none 0 0)), HP.blk g1 50 [.slice A1 n1 k1, .slice A2 n2 k2, .slice A3 n3 k3, .slice A4 n4 k4]]) n2 ⟨0, [], _, by omega, rfl, hfr0 (by simp) (by simp), trivial, rfl, rfl, rfl, rfl⟩ fun m e R H hI => ?_
  obtain ⟨k, vs, q, hk, rfl, hfq, hrows, hvl, rfl, rfl, rfl⟩ := hI
  refine XK.seq ?_

  refine XK.region ?_
  refine xk_lss rfl rfl (by decide) ?_
  refine XK.nil ?_
  (repeat (first | refine XK.thenN ?_ | refine XK.thenE ?_ | refine XK.thenR ?_ | refine XK.inN ?_ | refine XK.inE ?_ | refine XK.inR ?_ | refine XK.inF rfl ?_))
  refine XK.seq ?_
  refine XK.if_ rfl (fun h => ?_) (fun h => ?_)
  ·
    refine XK.skip ?_
    (repeat (first | refine XK.thenN ?_ | refine XK.thenE ?_ | refine XK.thenR ?_ | refine XK.inN ?_ | refine XK.inE ?_ | refine XK.inR ?_ | refine XK.inF rfl ?_))
    refine XK.seq ?_
    refine XK.block ?_
    refine XK.seq ?_
    have hkn : k < s.domains.length := by omega
    obtain ⟨e, he⟩ : ∃ e, s.domains[k]? = some e := ⟨_, List.getElem?_eq_getElem hkn⟩
    obtain ⟨b, off, r, rfl, hrl, hR, hro⟩ := hW.dom.row he
    obtain rfl := hR
    have hgk : (domsG s)[k]? = some (if e.above = -1 then [] else [e.above]) := by simp [domsG, he]

    refine XK.region ?_
    refine xk_move rfl (by decide) ?_
    refine xk_at (k) (off + k * 3) (el := 61) (sz := 3) (by kernel_rfl) (by kernel_rfl) rfl rfl (by omega) (by omega) (by omega) (by decide) ?_
    refine xk_loadN 3 (by kernel_rfl) rfl (by first | assumption | exact RdN.whole 0 rfl | exact RdN.whole 1 rfl | exact RdN.whole 2 rfl | exact RdN.whole 3 rfl | exact RdN.whole 4 rfl | exact RdN.whole 5 rfl | exact RdN.whole 6 rfl | exact RdN.whole 7 rfl | exact RdN.whole 8 rfl | exact RdN.roc (by simp) (by assumption)) rfl (by decide) ?_
    refine xk_alloc (cs := [.int .i64 0, .int .i64 0, .bool false]) (zeroB_of (by kernel_rfl)) (by decide) fun g3 => ?_
    refine xk_assign rfl (by decide) ?_
    (first | (refine xk_storeN 0 rfl rfl rfl (by kernel_rfl) (by simp [Value.cells, Value.oneCell']) (by simp [Value.cells]) ?_) | (refine xk_storeN 1 rfl rfl rfl (by kernel_rfl) (by simp [Value.cells, Value.oneCell']) (by simp [Value.cells]) ?_) | (refine xk_storeN 2 rfl rfl rfl (by kernel_rfl) (by simp [Value.cells, Value.oneCell']) (by simp [Value.cells]) ?_) | (refine xk_storeN 3 rfl rfl rfl (by kernel_rfl) (by simp [Value.cells, Value.oneCell']) (by simp [Value.cells]) ?_) | (refine xk_storeN 4 rfl rfl rfl (by kernel_rfl) (by simp [Value.cells, Value.oneCell']) (by simp [Value.cells]) ?_) | (refine xk_storeN 5 rfl rfl rfl (by kernel_rfl) (by simp [Value.cells, Value.oneCell']) (by simp [Value.cells]) ?_) | (refine xk_storeN 6 rfl rfl rfl (by kernel_rfl) (by simp [Value.cells, Value.oneCell']) (by simp [Value.cells]) ?_) | (refine xk_storeN 7 rfl rfl rfl (by kernel_rfl) (by simp [Value.cells, Value.oneCell']) (by simp [Value.cells]) ?_) | (refine xk_storeN 8 rfl rfl rfl (by kernel_rfl) (by simp [Value.cells, Value.oneCell']) (by simp [Value.cells]) ?_)); simp only [putN, Value.cells, List.set, List.take, List.drop, List.nil_append, List.append_nil, List.length_cons, List.length_nil, List.cons_append, Nat.reduceAdd]
    refine XK.nil ?_
    (repeat (first | refine XK.thenN ?_ | refine XK.thenE ?_ | refine XK.thenR ?_ | refine XK.inN ?_ | refine XK.inE ?_ | refine XK.inR ?_ | refine XK.inF rfl ?_))
    refine XK.seq ?_

    refine XK.region ?_
    refine xk_field (off := 0) (by kernel_rfl) rfl (by decide) ?_
    refine xk_load (by kernel_rfl) rfl (by first | assumption | exact Rd.blk 0 rfl rfl | exact Rd.blk 1 rfl rfl | exact Rd.blk 2 rfl rfl | exact Rd.blk 3 rfl rfl | exact Rd.blk 4 rfl rfl | exact Rd.blk 5 rfl rfl | exact Rd.blk 6 rfl rfl | exact Rd.blk 7 rfl rfl | exact Rd.blk 8 rfl rfl | exact Rd.roc (by simp) (by assumption) | (apply Rd.rocN (by simp); assumption; rfl)) (by decide) ?_
    refine xk_neq rfl rfl (by decide) ?_
    refine XK.nil ?_
    (repeat (first | refine XK.thenN ?_ | refine XK.thenE ?_ | refine XK.thenR ?_ | refine XK.inN ?_ | refine XK.inE ?_ | refine XK.inR ?_ | refine XK.inF rfl ?_))
    refine XK.if_ rfl (fun h => ?_) (fun h => ?_)
    ·

      refine XK.region ?_
      refine xk_move rfl (by decide) ?_
      refine xk_move rfl (by decide) ?_
      refine xk_field (off := 0) (by kernel_rfl) rfl (by decide) ?_
      refine xk_load (by kernel_rfl) rfl (by first | assumption | exact Rd.blk 0 rfl rfl | exact Rd.blk 1 rfl rfl | exact Rd.blk 2 rfl rfl | exact Rd.blk 3 rfl rfl | exact Rd.blk 4 rfl rfl | exact Rd.blk 5 rfl rfl | exact Rd.blk 6 rfl rfl | exact Rd.blk 7 rfl rfl | exact Rd.blk 8 rfl rfl | exact Rd.roc (by simp) (by assumption) | (apply Rd.rocN (by simp); assumption; rfl)) (by decide) ?_
      refine xk_slice (el := 3) (sz := 1) (zs := [.int .i64 0]) (by kernel_rfl) (zeroB_of (by kernel_rfl)) (by kernel_rfl) rfl (by decide) (by decide) rfl (by simp [fillL, setN, Value.cells, List.range_succ, List.set]; rfl) (by decide) fun g4 => ?_
      refine xk_at (k) (k) (el := 41) (sz := 1) (by kernel_rfl) (by kernel_rfl) rfl rfl (by omega) (by omega) (by omega) (by decide) ?_
      refine xk_store 2 rfl (by kernel_rfl) rfl rfl rfl (by simp; omega) ?_
      dsimp only [List.set]
      rw [fill_set hvl (by omega)]
      refine XK.nil ?_
      (repeat (first | refine XK.thenN ?_ | refine XK.thenE ?_ | refine XK.thenR ?_ | refine XK.inN ?_ | refine XK.inE ?_ | refine XK.inR ?_ | refine XK.inF rfl ?_))

      refine XK.region ?_
      refine xk_add rfl rfl (wrap_in (by omega)) (by decide) ?_
      refine xk_move rfl (by decide) ?_
      refine XK.nil ?_
      (repeat (first | refine XK.thenN ?_ | refine XK.thenE ?_ | refine XK.thenR ?_ | refine XK.inN ?_ | refine XK.inE ?_ | refine XK.inR ?_ | refine XK.inF rfl ?_))
      refine XK.still [q] [0] [2, 3] (by simp) rfl (by decide) (by decide) fun q' hq' hle hfr' => ?_
      obtain ⟨Fg, hsg, hzg⟩ := hq' 0 _ (by simp) rfl
      have hso := SlS.of_blk (n := 1) (sz := 1) (c := 0) hsg hzg rfl
      exact XK.weak [0, 1] rfl (by decide) (by simp) (XK.env [(13, .int .i64 (k + 1)), (12, .int .i64 n2), (11, .slice (some ⟨b, off, none⟩) n2 k2), (3, .slice (some ⟨g2, 0, none⟩) n2 n2), (1, .pointer (some ⟨g1, 0, none⟩))] ⟨rfl, rfl, rfl, rfl, rfl, trivial⟩ (XK.round (n2 - (k + 1)) (by omega) ⟨k + 1, vs ++ [_], q', by omega, rfl, hfr' (by simp) (by simpa using hfq), rows_next hrows (hle q (by simp)) hgk (by rw [if_neg h]; exact ⟨_, 1, 1, rfl, rfl, hso⟩), by simp [hvl], rfl, rfl, rfl⟩))
    ·
      refine XK.skip ?_
      (repeat (first | refine XK.thenN ?_ | refine XK.thenE ?_ | refine XK.thenR ?_ | refine XK.inN ?_ | refine XK.inE ?_ | refine XK.inR ?_ | refine XK.inF rfl ?_))

      refine XK.region ?_
      refine xk_add rfl rfl (wrap_in (by omega)) (by decide) ?_
      refine xk_move rfl (by decide) ?_
      refine XK.nil ?_
      (repeat (first | refine XK.thenN ?_ | refine XK.thenE ?_ | refine XK.thenR ?_ | refine XK.inN ?_ | refine XK.inE ?_ | refine XK.inR ?_ | refine XK.inF rfl ?_))
      rw [fill_nil (k := k) (by omega)]
      exact XK.weak [1, 2] rfl (by decide) (by simp) (XK.env [(13, .int .i64 (k + 1)), (12, .int .i64 n2), (11, .slice (some ⟨b, off, none⟩) n2 k2), (3, .slice (some ⟨g2, 0, none⟩) n2 n2), (1, .pointer (some ⟨g1, 0, none⟩))] ⟨rfl, rfl, rfl, rfl, rfl, trivial⟩ (XK.round (n2 - (k + 1)) (by omega) ⟨k + 1, vs ++ [_], q, by omega, rfl, hfq, rows_next hrows (fun b hb => ⟨hb, rfl⟩) hgk (by rw [if_pos (Classical.not_not.1 h)]; exact ⟨_, 0, 0, rfl, rfl, SlS.nil _ 1⟩), by simp [hvl], rfl, rfl, rfl⟩))
  ·
    refine XK.exit ?_
    (repeat (first | refine XK.thenN ?_ | refine XK.thenE ?_ | refine XK.thenR ?_ | refine XK.inN ?_ | refine XK.inE ?_ | refine XK.inR ?_ | refine XK.inF rfl ?_))
    refine XK.seq ?_
    obtain rfl : k = n2 := by omega
    rw [Nat.sub_self, List.replicate_zero, List.append_nil]
    rw [List.take_of_length_le (by simp [domsG]; omega)] at hrows

    refine XK.region ?_
    refine xk_move rfl (by decide) ?_
    refine xk_assign rfl (by decide) ?_
    refine XK.nil ?_
    (repeat (first | refine XK.thenN ?_ | refine XK.thenE ?_ | refine XK.thenR ?_ | refine XK.inN ?_ | refine XK.inE ?_ | refine XK.inR ?_ | refine XK.inF rfl ?_))
    refine XK.ret ?_
    (repeat (first | refine XK.thenN ?_ | refine XK.thenE ?_ | refine XK.thenR ?_ | refine XK.inN ?_ | refine XK.inE ?_ | refine XK.inR ?_ | refine XK.inF rfl ?_))
    refine XK.still [q] [0] [] (by simp) rfl (by decide) (by decide) fun q2 hq hle hfr => ?_
    have hgl : k = (domsG s).length := by simp [domsG]; omega
    exact XK.ret1 rfl rfl fun w1 st => ⟨⟨_, rfl, some ⟨g2, 0, none⟩, k, by rw [← hgl], by rw [← hgl]; exact (GrS.ofBlk hrows (hle q (by simp)) (hq 0 _ (by simp) rfl) hgl).le (st.fresh_le (by simp) (hfr (by simp) (by simpa using hfq)))⟩, st.below (by simp)⟩

end Go.Proofs.Ytbgibbbggajgaaa
