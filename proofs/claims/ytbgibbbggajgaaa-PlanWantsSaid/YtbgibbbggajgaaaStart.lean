/- table.Start: no wishes. -/
import Derived.Test.YtbgibbbggajgaaaWantsP
import Derived.Test.YtbgibbbggajgaaaVal
namespace Go.Proofs.Ytbgibbbggajgaaa
set_option linter.all false
open Go.RowKit
/-- what both agents wish, as it lies in a piece -/
def StR (p : Piece) (x y : Wsh) (v : Value) : Prop := ∃ A1 k1 A2 k2 A3 k3 B1 m1 B2 m2 B3 m3, v = .agg #[.slice A1 x.d.length k1, .slice A2 x.c.length k2, .slice A3 x.l.length k3, .slice B1 y.d.length m1, .slice B2 y.c.length m2, .slice B3 y.l.length m3] ∧
  SlS p 1 A1 x.d.length (boolCells x.d) ∧ SlS p 1 A2 x.c.length (boolCells x.c) ∧ SlS p 1 A3 x.l.length (boolCells x.l) ∧ SlS p 1 B1 y.d.length (boolCells y.d) ∧ SlS p 1 B2 y.c.length (boolCells y.c) ∧ SlS p 1 B3 y.l.length (boolCells y.l)
theorem StR.le {p q : Piece} {x y : Wsh} {v : Value} (h : StR p x y v) (hl : p.Le q) : StR q x y v := by
  obtain ⟨A1, k1, A2, k2, A3, k3, B1, m1, B2, m2, B3, m3, h0, h1, h2, h3, h4, h5, h6⟩ := h
  exact ⟨A1, k1, A2, k2, A3, k3, B1, m1, B2, m2, B3, m3, h0, h1.le hl, h2.le hl, h3.le hl, h4.le hl, h5.le hl, h6.le hl⟩
/-- the first i agents' wishes are none -/
def StC (s : Soc) (p : Piece) : Nat → List Value → Prop
  | 0, cs => cs = [.slice none 0 0, .slice none 0 0, .slice none 0 0, .slice none 0 0, .slice none 0 0, .slice none 0 0]
  | 1, cs => ∃ a b c, cs = [a, b, c, .slice none 0 0, .slice none 0 0, .slice none 0 0] ∧ WshR p (zeroW s) (.agg #[a, b, c])
  | _, cs => ∃ a b c a' b' c', cs = [a, b, c, a', b', c'] ∧ WshR p (zeroW s) (.agg #[a, b, c]) ∧ WshR p (zeroW s) (.agg #[a', b', c'])
theorem StC.len {s : Soc} {p : Piece} : ∀ {i : Nat} {cs : List Value}, StC s p i cs → cs.length = 6
  | 0, _, h => by rw [show _ = _ from h]; rfl
  | 1, _, ⟨_, _, _, h, _⟩ => by rw [h]; rfl
  | _ + 2, _, ⟨_, _, _, _, _, _, h, _⟩ => by rw [h]; rfl
theorem StC.next {s : Soc} {p q : Piece} (hl : p.Le q) {a b c : Value} (hw : WshR q (zeroW s) (.agg #[a, b, c])) {i : Nat} {cs : List Value} (hi : i < 2) (h : StC s p i cs) : StC s q (i + 1) (putN cs (i * 3) [a, b, c]) := by
  obtain rfl | rfl : i = 0 ∨ i = 1 := by omega
  · have h0 : cs = [.slice none 0 0, .slice none 0 0, .slice none 0 0, .slice none 0 0, .slice none 0 0, .slice none 0 0] := h
    subst h0
    exact ⟨a, b, c, rfl, hw⟩
  · obtain ⟨a1, b1, c1, h0, h1⟩ := h
    subst h0
    exact ⟨a1, b1, c1, a, b, c, rfl, WshR.le h1 hl, hw⟩

theorem start_any (s : Soc) (A1 A2 A3 A4 : Option Addr) (k1 k2 k3 k4 : Nat) (w : World) (hm : s.made) :
    Calls Try.prog 29 #[.agg #[.slice A1 s.clocks.length k1, .slice A2 s.domains.length k2, .slice A3 s.resets.length k3, .slice A4 s.devs.length k4]] w (RtW (fun v w w' => StR (fresh w w') (zeroW s) (zeroW s) v) w) := by
  have hn9 := hm.nc
  have hn4 := hm.nd
  have hn3 := hm.nr
  refine XK.enter (vs := [.agg #[.slice A1 s.clocks.length k1, .slice A2 s.domains.length k2, .slice A3 s.resets.length k3, .slice A4 s.devs.length k4]]) Try.func29 rfl Try.ntmps29 (by simp) ?_
  refine XK.seq ?_

  refine XK.region ?_
  refine xk_box rfl (by decide) fun g1 => ?_
  refine xk_alloc (cs := [.slice none 0 0, .slice none 0 0, .slice none 0 0, .slice none 0 0, .slice none 0 0, .slice none 0 0]) (zeroB_of (by kernel_rfl)) (by decide) fun g2 => ?_
  refine XK.nil ?_
  (repeat (first | refine XK.thenN ?_ | refine XK.thenE ?_ | refine XK.thenR ?_ | refine XK.inN ?_ | refine XK.inE ?_ | refine XK.inR ?_ | refine XK.inF rfl ?_))
  refine XK.seq ?_

  refine XK.region ?_
  refine xk_alloc (cs := [.slice none 0 0, .slice none 0 0, .slice none 0 0, .slice none 0 0, .slice none 0 0, .slice none 0 0]) (zeroB_of (by kernel_rfl)) (by decide) fun g3 => ?_
  refine XK.nil ?_
  (repeat (first | refine XK.thenN ?_ | refine XK.thenE ?_ | refine XK.thenR ?_ | refine XK.inN ?_ | refine XK.inE ?_ | refine XK.inR ?_ | refine XK.inF rfl ?_))
  refine XK.seq ?_
  refine XK.seq ?_

  refine XK.region ?_
  refine xk_move rfl (by decide) ?_
  refine XK.nil ?_
  (repeat (first | refine XK.thenN ?_ | refine XK.thenE ?_ | refine XK.thenR ?_ | refine XK.inN ?_ | refine XK.inE ?_ | refine XK.inR ?_ | refine XK.inF rfl ?_))
  refine XK.env [(5, .int .i64 0), (3, .pointer (some ⟨g3, 0, none⟩)), (2, .pointer (some ⟨g2, 0, none⟩)), (1, .pointer (some ⟨g1, 0, none⟩))] ⟨rfl, rfl, rfl, rfl, trivial⟩ ?_
  refine XK.piece ⟨w, fun _ => False⟩ (by simp) (fun _ h => h.elim) ?_
  refine XK.block ?_
  refine XK.loop (fun m e R H => ∃ (i : Nat) (cs : List Value) (qs : Piece), i ≤ 2 ∧ m = 2 - i ∧ StC s qs i cs ∧ Fresh w qs ∧ e = [(5, .int .i64 i), (3, .pointer (some ⟨g3, 0, none⟩)), (2, .pointer (some ⟨g2, 0, none⟩)), (1, .pointer (some ⟨g1, 0, none⟩))] ∧ R = [qs, all w] ∧ H = [HP.blk g3 79 cs, HP.blk g2 79 [.slice none 0 0, .slice none 0 0, .slice none 0 0, .slice none 0 0, .slice none 0 0, .slice none 0 0], HP.blk g1 50 [.slice A1 s.clocks.length k1, .slice A2 s.domains.length k2, .slice A3 s.resets.length k3, .slice A4 s.devs.length k4]]) 2 ⟨0, _, ⟨w, fun _ => False⟩, by omega, rfl, rfl, (fun _ h => h.elim), rfl, rfl, rfl⟩ fun m e R H hI => ?_
  obtain ⟨i, cs, qs, hi2, rfl, hcs, hfrs, rfl, rfl, rfl⟩ := hI
  refine XK.seq ?_

  refine XK.region ?_
  refine xk_lss rfl rfl (by decide) ?_
  refine XK.nil ?_
  (repeat (first | refine XK.thenN ?_ | refine XK.thenE ?_ | refine XK.thenR ?_ | refine XK.inN ?_ | refine XK.inE ?_ | refine XK.inR ?_ | refine XK.inF rfl ?_))
  refine XK.seq ?_
  refine XK.if_ rfl (fun h => ?_) (fun h => ?_)
  ·
    refine XK.skip ?_
    (repeat (first | refine XK.thenN ?_ | refine XK.thenE ?_ | refine XK.thenR ?_ | refine XK.inN ?_ | refine XK.inE ?_ | refine XK.inR ?_ | refine XK.inF rfl ?_))
    refine XK.seq ?_
    refine XK.block ?_
    refine XK.seq ?_

    refine XK.region ?_
    refine xk_move rfl (by decide) ?_
    refine xk_assign rfl (by decide) ?_
    refine XK.nil ?_
    (repeat (first | refine XK.thenN ?_ | refine XK.thenE ?_ | refine XK.thenR ?_ | refine XK.inN ?_ | refine XK.inE ?_ | refine XK.inR ?_ | refine XK.inF rfl ?_))

    refine XK.draw 15 (by kernel_rfl) (by kernel_rfl) ?_
    refine XA.do_ 0 rfl rfl rfl (by decide) (does_move rfl) (by kernel_rfl) (fun _ _ _ h => h) (by first | exact fun _ h => h | exact fun _ h => h.tail | exact fun _ h => h.tailR | exact fun _ h => h.tail.tail | exact fun _ h => h.tailR.tail | exact fun _ h => h.tailR.tailR) ?_
    refine XA.do_ 1 rfl rfl rfl (by decide) (does_field (off := 1) (by kernel_rfl) rfl) (by kernel_rfl) (fun _ _ _ h => h) (by first | exact fun _ h => h | exact fun _ h => h.tail | exact fun _ h => h.tailR | exact fun _ h => h.tail.tail | exact fun _ h => h.tailR.tail | exact fun _ h => h.tailR.tailR) ?_
    refine XA.do_ 2 rfl rfl rfl (by decide) (does_load (by kernel_rfl) rfl (by first | assumption | exact Rd.blk 0 rfl rfl | exact Rd.blk 1 rfl rfl | exact Rd.blk 2 rfl rfl | exact Rd.blk 3 rfl rfl | exact Rd.blk 4 rfl rfl | exact Rd.blk 5 rfl rfl | exact Rd.blk 6 rfl rfl | exact Rd.blk 7 rfl rfl | exact Rd.blk 8 rfl rfl | exact Rd.roc (by simp) (by assumption) | (apply Rd.rocN (by simp); assumption; rfl))) (by kernel_rfl) (fun _ _ _ h => h) (by first | exact fun _ h => h | exact fun _ h => h.tail | exact fun _ h => h.tailR | exact fun _ h => h.tail.tail | exact fun _ h => h.tailR.tail | exact fun _ h => h.tailR.tailR) ?_
    refine XA.do_ 3 rfl rfl rfl (by decide) (does_len (el := 61) (by kernel_rfl) rfl) (by kernel_rfl) (fun _ _ _ h => h) (by first | exact fun _ h => h | exact fun _ h => h.tail | exact fun _ h => h.tailR | exact fun _ h => h.tail.tail | exact fun _ h => h.tailR.tail | exact fun _ h => h.tailR.tailR) ?_
    refine XA.do_ 5 rfl rfl rfl (by decide) (does_field (off := 0) (by kernel_rfl) rfl) (by kernel_rfl) (fun _ _ _ h => h) (by first | exact fun _ h => h | exact fun _ h => h.tail | exact fun _ h => h.tailR | exact fun _ h => h.tail.tail | exact fun _ h => h.tailR.tail | exact fun _ h => h.tailR.tailR) ?_
    refine XA.do_ 6 rfl rfl rfl (by decide) (does_load (by kernel_rfl) rfl (by first | assumption | exact Rd.blk 0 rfl rfl | exact Rd.blk 1 rfl rfl | exact Rd.blk 2 rfl rfl | exact Rd.blk 3 rfl rfl | exact Rd.blk 4 rfl rfl | exact Rd.blk 5 rfl rfl | exact Rd.blk 6 rfl rfl | exact Rd.blk 7 rfl rfl | exact Rd.blk 8 rfl rfl | exact Rd.roc (by simp) (by assumption) | (apply Rd.rocN (by simp); assumption; rfl))) (by kernel_rfl) (fun _ _ _ h => h) (by first | exact fun _ h => h | exact fun _ h => h.tail | exact fun _ h => h.tailR | exact fun _ h => h.tail.tail | exact fun _ h => h.tailR.tail | exact fun _ h => h.tailR.tailR) ?_
    refine XA.do_ 7 rfl rfl rfl (by decide) (does_len (el := 65) (by kernel_rfl) rfl) (by kernel_rfl) (fun _ _ _ h => h) (by first | exact fun _ h => h | exact fun _ h => h.tail | exact fun _ h => h.tailR | exact fun _ h => h.tail.tail | exact fun _ h => h.tailR.tail | exact fun _ h => h.tailR.tailR) ?_
    refine XA.do_ 9 rfl rfl rfl (by decide) (does_field (off := 2) (by kernel_rfl) rfl) (by kernel_rfl) (fun _ _ _ h => h) (by first | exact fun _ h => h | exact fun _ h => h.tail | exact fun _ h => h.tailR | exact fun _ h => h.tail.tail | exact fun _ h => h.tailR.tail | exact fun _ h => h.tailR.tailR) ?_
    refine XA.do_ 10 rfl rfl rfl (by decide) (does_load (by kernel_rfl) rfl (by first | assumption | exact Rd.blk 0 rfl rfl | exact Rd.blk 1 rfl rfl | exact Rd.blk 2 rfl rfl | exact Rd.blk 3 rfl rfl | exact Rd.blk 4 rfl rfl | exact Rd.blk 5 rfl rfl | exact Rd.blk 6 rfl rfl | exact Rd.blk 7 rfl rfl | exact Rd.blk 8 rfl rfl | exact Rd.roc (by simp) (by assumption) | (apply Rd.rocN (by simp); assumption; rfl))) (by kernel_rfl) (fun _ _ _ h => h) (by first | exact fun _ h => h | exact fun _ h => h.tail | exact fun _ h => h.tailR | exact fun _ h => h.tail.tail | exact fun _ h => h.tailR.tail | exact fun _ h => h.tailR.tailR) ?_
    refine XA.do_ 11 rfl rfl rfl (by decide) (does_len (el := 102) (by kernel_rfl) rfl) (by kernel_rfl) (fun _ _ _ h => h) (by first | exact fun _ h => h | exact fun _ h => h.tail | exact fun _ h => h.tailR | exact fun _ h => h.tail.tail | exact fun _ h => h.tailR.tail | exact fun _ h => h.tailR.tailR) ?_
    refine XA.do_ 14 rfl rfl rfl (by decide) (does_field (off := 0) (by kernel_rfl) rfl) (by kernel_rfl) (fun _ _ _ h => h) (by first | exact fun _ h => h | exact fun _ h => h.tail | exact fun _ h => h.tailR | exact fun _ h => h.tail.tail | exact fun _ h => h.tailR.tail | exact fun _ h => h.tailR.tailR) ?_
    refine XA.allocs (fuel := 3) [4, 8, 12] [[4, 8, 12]] (fun i => match i with | 4 => ⟨12, 4, List.replicate s.domains.length (.bool false), fun g => .slice (some ⟨g, 0, none⟩) s.domains.length s.domains.length⟩ | 8 => ⟨16, 4, List.replicate s.clocks.length (.bool false), fun g => .slice (some ⟨g, 0, none⟩) s.clocks.length s.clocks.length⟩ | _ => ⟨20, 4, List.replicate s.resets.length (.bool false), fun g => .slice (some ⟨g, 0, none⟩) s.resets.length s.resets.length⟩) (fun i hi => ?_) (by show [12, 16, 20].Nodup; decide) (by kernel_rfl) (fun _ h => h) (fun sub hsub hex g => ?_)
    · simp only [List.mem_cons, List.not_mem_nil, or_false] at hi
      rcases hi with rfl | rfl | rfl
      · exact ALok.of rfl rfl rfl (makes_make 1 (el := 4) (z := .bool false) (by kernel_rfl) (by kernel_rfl) rfl rfl rfl (by omega) (by omega)) (Nat.le_of_ble_eq_true rfl) rfl
      · exact ALok.of rfl rfl rfl (makes_make 1 (el := 4) (z := .bool false) (by kernel_rfl) (by kernel_rfl) rfl rfl rfl (by omega) (by omega)) (Nat.le_of_ble_eq_true rfl) rfl
      · exact ALok.of rfl rfl rfl (makes_make 1 (el := 4) (z := .bool false) (by kernel_rfl) (by kernel_rfl) rfl rfl rfl (by omega) (by omega)) (Nat.le_of_ble_eq_true rfl) rfl
    have hs2 : sub = [4, 8, 12] := by simpa using hex
    have er : ∀ n : Nat, List.replicate n (Value.bool false) = boolCells (List.replicate n false) := fun n => by simp [boolCells]
    have hi : i < 2 := by have h' : (i : Int) < 2 := h; omega
    have hlen := hcs.len
    subst hs2
    dsimp only [envA, hpA, markA, List.map, List.foldr, List.cons_append, List.nil_append, List.length_cons, List.length_nil, Nat.reduceAdd, Nat.reduceSub]
    refine XA.do_ 13 rfl rfl rfl (by decide) (does_buildS (zs := [.slice none 0 0, .slice none 0 0, .slice none 0 0]) (L := [(0, 1), (1, 1), (2, 1)]) (zeroB_of (by kernel_rfl)) (by kernel_rfl) rfl (by simp [fillL, setN, Value.cells]; rfl)) (by kernel_rfl) (fun _ _ _ h => h) (fun _ h => h.tail.tail.tail) ?_
    refine XA.next 15 rfl (by kernel_rfl) ?_
    refine xk_atA i (i * 3) (el := 56) (sz := 3) (by kernel_rfl) (by kernel_rfl) rfl rfl rfl hi (by omega) (by decide) ?_
    refine XK.nil ?_; refine XK.thenN ?_; refine XA.backT rfl ?_
    refine XA.next 16 rfl (by kernel_rfl) ?_
    refine xk_storeN 3 rfl rfl rfl (by kernel_rfl) (by simp [Value.cells, Value.oneCell']) (by simp [Value.cells]; omega) ?_
    dsimp only [List.set]
    rw [show (Value.agg [.slice (some ⟨g 4, 0, none⟩) s.domains.length s.domains.length, .slice (some ⟨g 8, 0, none⟩) s.clocks.length s.clocks.length, .slice (some ⟨g 12, 0, none⟩) s.resets.length s.resets.length].toArray).cells.toList = [.slice (some ⟨g 4, 0, none⟩) s.domains.length s.domains.length, .slice (some ⟨g 8, 0, none⟩) s.clocks.length s.clocks.length, .slice (some ⟨g 12, 0, none⟩) s.resets.length s.resets.length] from rfl]
    refine XK.nil ?_; refine XK.thenN ?_; refine XA.backT rfl ?_
    refine XA.done (by kernel_rfl) ?_
    (repeat (first | refine XK.thenN ?_ | refine XK.thenE ?_ | refine XK.thenR ?_ | refine XK.inN ?_ | refine XK.inE ?_ | refine XK.inR ?_ | refine XK.inF rfl ?_))
    refine XK.region ?_
    refine xk_add rfl rfl (wrap_in (by omega)) (by decide) ?_
    refine xk_move rfl (by decide) ?_
    refine XK.nil ?_
    (repeat (first | refine XK.thenN ?_ | refine XK.thenE ?_ | refine XK.thenR ?_ | refine XK.inN ?_ | refine XK.inE ?_ | refine XK.inR ?_ | refine XK.inF rfl ?_))
    refine XK.still [qs] [0, 1, 2] [3, 4, 5] (by simp) rfl (by decide) (by decide) fun qn hqn hle hfr => ?_
    have hfn := hfr (by simp) (fun p hp => by simp only [List.mem_cons, List.not_mem_nil, or_false] at hp; subst hp; exact hfrs)
    have b1 : SlS qn 1 (some ⟨g 4, 0, none⟩) (s.domains.length) (List.replicate (s.domains.length) (Value.bool false)) := SlS.of_blk (n := s.domains.length) (sz := 1) (c := 0) (hqn 0 _ (by simp) rfl).choose_spec.1 (hqn 0 _ (by simp) rfl).choose_spec.2 (by simp)
    have b2 : SlS qn 1 (some ⟨g 8, 0, none⟩) (s.clocks.length) (List.replicate (s.clocks.length) (Value.bool false)) := SlS.of_blk (n := s.clocks.length) (sz := 1) (c := 0) (hqn 1 _ (by simp) rfl).choose_spec.1 (hqn 1 _ (by simp) rfl).choose_spec.2 (by simp)
    have b3 : SlS qn 1 (some ⟨g 12, 0, none⟩) (s.resets.length) (List.replicate (s.resets.length) (Value.bool false)) := SlS.of_blk (n := s.resets.length) (sz := 1) (c := 0) (hqn 2 _ (by simp) rfl).choose_spec.1 (hqn 2 _ (by simp) rfl).choose_spec.2 (by simp)
    rw [er] at b1 b2 b3
    have hww : WshR qn (zeroW s) (.agg #[.slice (some ⟨g 4, 0, none⟩) s.domains.length s.domains.length, .slice (some ⟨g 8, 0, none⟩) s.clocks.length s.clocks.length, .slice (some ⟨g 12, 0, none⟩) s.resets.length s.resets.length]) := by
      unfold WshR zeroW
      simp only [List.length_replicate]
      exact ⟨_, _, _, _, _, _, rfl, b1, b2, b3⟩
    refine XK.weakR (R' := [qn, all w]) (by simp) ?_
    exact XK.env [(5, .int .i64 ((i : Int) + 1)), (3, .pointer (some ⟨g3, 0, none⟩)), (2, .pointer (some ⟨g2, 0, none⟩)), (1, .pointer (some ⟨g1, 0, none⟩))] ⟨rfl, rfl, rfl, rfl, trivial⟩ (XK.round (2 - (i + 1)) (by omega) ⟨i + 1, _, qn, by omega, rfl, StC.next (hle qs (by simp)) hww hi hcs, hfn, rfl, rfl, rfl⟩)

  ·
    refine XK.exit ?_
    (repeat (first | refine XK.thenN ?_ | refine XK.thenE ?_ | refine XK.thenR ?_ | refine XK.inN ?_ | refine XK.inE ?_ | refine XK.inR ?_ | refine XK.inF rfl ?_))
    refine XK.seq ?_
    have hie : i = 2 := by have h' : ¬ (i : Int) < 2 := h; omega
    subst hie
    obtain ⟨a, b, c, a', b', c', rfl, hw1, hw2⟩ := hcs
    obtain ⟨D1, d1, D2, d2, D3, d3, e1, x1, x2, x3⟩ := hw1
    obtain ⟨F1, f1, F2, f2, F3, f3, e2, y1, y2, y3⟩ := hw2
    cases e1
    cases e2

    refine XK.region ?_
    refine xk_loadN 6 (by kernel_rfl) rfl (by first | assumption | exact RdN.whole 0 rfl | exact RdN.whole 1 rfl | exact RdN.whole 2 rfl | exact RdN.whole 3 rfl | exact RdN.whole 4 rfl | exact RdN.whole 5 rfl | exact RdN.whole 6 rfl | exact RdN.whole 7 rfl | exact RdN.whole 8 rfl | exact RdN.roc (by simp) (by assumption)) rfl (by decide) ?_
    (first | (refine xk_storeN 0 rfl rfl rfl (by kernel_rfl) (by simp [Value.cells, Value.oneCell']) (by simp [Value.cells]) ?_) | (refine xk_storeN 1 rfl rfl rfl (by kernel_rfl) (by simp [Value.cells, Value.oneCell']) (by simp [Value.cells]) ?_) | (refine xk_storeN 2 rfl rfl rfl (by kernel_rfl) (by simp [Value.cells, Value.oneCell']) (by simp [Value.cells]) ?_) | (refine xk_storeN 3 rfl rfl rfl (by kernel_rfl) (by simp [Value.cells, Value.oneCell']) (by simp [Value.cells]) ?_) | (refine xk_storeN 4 rfl rfl rfl (by kernel_rfl) (by simp [Value.cells, Value.oneCell']) (by simp [Value.cells]) ?_) | (refine xk_storeN 5 rfl rfl rfl (by kernel_rfl) (by simp [Value.cells, Value.oneCell']) (by simp [Value.cells]) ?_) | (refine xk_storeN 6 rfl rfl rfl (by kernel_rfl) (by simp [Value.cells, Value.oneCell']) (by simp [Value.cells]) ?_) | (refine xk_storeN 7 rfl rfl rfl (by kernel_rfl) (by simp [Value.cells, Value.oneCell']) (by simp [Value.cells]) ?_) | (refine xk_storeN 8 rfl rfl rfl (by kernel_rfl) (by simp [Value.cells, Value.oneCell']) (by simp [Value.cells]) ?_)); simp only [putN, Value.cells, List.set, List.take, List.drop, List.nil_append, List.append_nil, List.length_cons, List.length_nil, List.cons_append, Nat.reduceAdd]
    refine XK.nil ?_
    (repeat (first | refine XK.thenN ?_ | refine XK.thenE ?_ | refine XK.thenR ?_ | refine XK.inN ?_ | refine XK.inE ?_ | refine XK.inR ?_ | refine XK.inF rfl ?_))
    refine XK.ret ?_
    (repeat (first | refine XK.thenN ?_ | refine XK.thenE ?_ | refine XK.thenR ?_ | refine XK.inN ?_ | refine XK.inE ?_ | refine XK.inR ?_ | refine XK.inF rfl ?_))
    exact XK.retC rfl (by kernel_rfl) rfl rfl (RdN.whole 1 rfl) fun w1 st => ⟨⟨_, rfl, by
      have hl := st.fresh_le (by simp) hfrs
      exact ⟨_, _, _, _, _, _, _, _, _, _, _, _, rfl, x1.le hl, x2.le hl, x3.le hl, y1.le hl, y2.le hl, y3.le hl⟩⟩, st.below (by simp)⟩

end Go.Proofs.Ytbgibbbggajgaaa
