/- table.Chain and plan.Wants, of a chip that is made. -/
import Derived.Test.YtbgibbbggajgaaaGreatPlanTellsK4
namespace Go.Proofs.YtbgibbbggajgaaaGreat
set_option linter.all false
open Go.RowKit
def IntsOk (l : List Nat) (v : Value) (w w' : World) : Prop := ∃ A c, v = .slice A l.length c ∧ SlS (fresh w w') 1 A l.length (intCells (natI l))
theorem natI_get {l : List Nat} {k i : Nat} (h : l[k]? = some i) : (intCells (natI l))[k]? = some (.int .i64 (i : Int)) := by simp [intCells, natI, h]

theorem chain_any (q : Piece) (s : Soc) (A1 A2 A3 A4 : Option Addr) (n1 k1 n2 k2 n3 k3 n4 k4 : Nat) (c : Nat) (w : World) (hSP : SocP q s A1 n1 A2 n2 A3 n3 A4 n4) (hm : s.okT) (hq : q.Le (all w)) (hc : c < s.clocks.length) :
    Calls Tryz.prog 49 #[.agg #[.slice A1 n1 k1, .slice A2 n2 k2, .slice A3 n3 k3, .slice A4 n4 k4], .int .i64 (c : Int)] w (RtW (IntsOk (chainL s c)) w) := by
  obtain ⟨rfl, rfl, rfl, rfl⟩ := hSP.len
  refine XK.enter (vs := [.agg #[.slice A1 s.clocks.length k1, .slice A2 s.domains.length k2, .slice A3 s.resets.length k3, .slice A4 s.devs.length k4], .int .i64 (c : Int)]) Tryz.func49 rfl Tryz.ntmps49 (by simp) ?_
  refine XK.piece q (by simp) hq ?_
  refine XK.seq ?_

  refine XK.region ?_
  refine xk_box rfl (by decide) fun g1 => ?_
  refine xk_assign rfl (by decide) ?_
  refine XK.nilN ?_
  refine XK.seq ?_

  refine XK.region ?_
  refine xk_assign rfl (by decide) ?_
  refine XK.nilN ?_
  refine XK.seq ?_
  refine XK.nilrow 3 1 ?_
  refine XK.envS [(1, .int .i64 (c : Int)), (5, .slice none 0 0), (2, .pointer (some ⟨g1, 0, none⟩))] ?_
  refine XK.block ?_
  refine XK.loop (fun m e R H => ∃ (cur : Nat) (l : List Nat) (A : Option Addr) (k : Nat), cur < s.clocks.length ∧ l.length ≤ s.clocks.length ∧ m = s.clocks.length - l.length ∧ chainL s c = l ++ chainN s (s.clocks.length - l.length) cur ∧ e = [(1, .int .i64 (cur : Int)), (5, .slice A l.length k), (2, .pointer (some ⟨g1, 0, none⟩))] ∧ R = [q, all w] ∧ H = [HP.own 3 1 (.slice A l.length k) l.length (intCells (natI l)), HP.blk g1 30 [.slice A1 s.clocks.length k1, .slice A2 s.domains.length k2, .slice A3 s.resets.length k3, .slice A4 s.devs.length k4]]) s.clocks.length ⟨c, [], none, 0, hc, by simp, rfl, rfl, rfl, rfl, rfl⟩ fun m e R H hI => ?_
  obtain ⟨cur, l, A, k, hcur, hll, rfl, hch, rfl, rfl, rfl⟩ := hI
  refine XK.seq ?_
  refine XK.cutB 22 (l.length < s.clocks.length) ?_ ?_
  · skip

    refine XK.region ?_
    refine xk_move rfl (by decide) ?_
    refine xk_geq rfl rfl (by decide) ?_
    refine xk_move rfl (by decide) ?_
    refine xk_split (t := 8) rfl (fun hg => ?_) (fun hg => ?_)
    ·
      refine xk_guardT rfl rfl ?_; refine xk_move rfl (by decide) ?_
      refine xk_guardT rfl rfl ?_; refine xk_field (off := 0) (by kernel_rfl) rfl (by decide) ?_
      refine xk_guardT rfl rfl ?_; refine xk_ld rfl ?_
      refine xk_guardT rfl rfl ?_; refine xk_len (el := 87) (by kernel_rfl) rfl (by decide) ?_
      refine xk_guardT rfl rfl ?_; refine xk_lss rfl rfl (by decide) ?_
      (first | refine xk_pickT rfl rfl (by decide) ?_ | refine xk_pickF rfl rfl (by decide) ?_)
      refine xk_move rfl (by decide) ?_
      refine xk_split (t := 15) rfl (fun hg => ?_) (fun hg => ?_)
      ·
        refine xk_guardT rfl rfl ?_; refine xk_move rfl (by decide) ?_
        refine xk_guardT rfl rfl ?_; refine xk_len (el := 3) (by kernel_rfl) rfl (by decide) ?_
        refine xk_guardT rfl rfl ?_; refine xk_field (off := 0) (by kernel_rfl) rfl (by decide) ?_
        refine xk_guardT rfl rfl ?_; refine xk_ld rfl ?_
        refine xk_guardT rfl rfl ?_; refine xk_len (el := 87) (by kernel_rfl) rfl (by decide) ?_
        refine xk_guardT rfl rfl ?_; refine xk_lss rfl rfl (by decide) ?_
        (first | refine xk_pickT rfl rfl (by decide) ?_ | refine xk_pickF rfl rfl (by decide) ?_)
        refine XK.nilN ?_
        exact XK.meetB (by repeat (first | exact trivial | refine ⟨rfl, ?_⟩)) (get_iff rfl (by omega))
      ·
        refine xk_guardF rfl rfl rfl (by decide) ?_
        refine xk_guardF rfl rfl rfl (by decide) ?_
        refine xk_guardF rfl rfl rfl (by decide) ?_
        refine xk_guardF rfl rfl rfl (by decide) ?_
        refine xk_guardF rfl rfl rfl (by decide) ?_
        refine xk_guardF rfl rfl rfl (by decide) ?_
        (first | refine xk_pickT rfl rfl (by decide) ?_ | refine xk_pickF rfl rfl (by decide) ?_)
        refine XK.nilN ?_
        exact XK.meetB (by repeat (first | exact trivial | refine ⟨rfl, ?_⟩)) (get_false rfl (by omega))
    ·
      refine xk_guardF rfl rfl rfl (by decide) ?_
      refine xk_guardF rfl rfl rfl (by decide) ?_
      refine xk_guardF rfl rfl rfl (by decide) ?_
      refine xk_guardF rfl rfl rfl (by decide) ?_
      refine xk_guardF rfl rfl rfl (by decide) ?_
      (first | refine xk_pickT rfl rfl (by decide) ?_ | refine xk_pickF rfl rfl (by decide) ?_)
      refine xk_move rfl (by decide) ?_
      refine xk_guardF rfl rfl rfl (by decide) ?_
      refine xk_guardF rfl rfl rfl (by decide) ?_
      refine xk_guardF rfl rfl rfl (by decide) ?_
      refine xk_guardF rfl rfl rfl (by decide) ?_
      refine xk_guardF rfl rfl rfl (by decide) ?_
      refine xk_guardF rfl rfl rfl (by decide) ?_
      (first | refine xk_pickT rfl rfl (by decide) ?_ | refine xk_pickF rfl rfl (by decide) ?_)
      refine XK.nilN ?_
      exact XK.meetB (by repeat (first | exact trivial | refine ⟨rfl, ?_⟩)) (get_false rfl (by omega))
  refine XK.if_ rfl (fun h => ?_) (fun h => ?_)
  ·
    refine XK.skip ?_
    refine XK.norm ?_
    refine XK.block ?_
    refine XK.seq ?_
    have hlt : l.length < s.clocks.length := h
    obtain ⟨x, hx⟩ : ∃ x, s.clocks[cur]? = some x := ⟨_, List.getElem?_eq_getElem hcur⟩
    obtain ⟨k0, hk0⟩ : ∃ k0, s.clocks.length - l.length = k0 + 1 := ⟨s.clocks.length - l.length - 1, by omega⟩
    rw [hk0, chainN_cons hx] at hch
    have hn9 := hm.nc
    have hfit := (hm.clocks cur x hx).1

    refine XK.region ?_
    refine xk_move rfl (by decide) ?_
    refine xk_move rfl (by decide) ?_
    refine xk_slice (el := 3) (sz := 1) (zs := [.int .i64 0]) (by kernel_rfl) (zeroB_of (by kernel_rfl)) (by kernel_rfl) rfl (by decide) (by decide) rfl (by simp [fillL, setN, Value.cells, List.range_succ, List.set]; rfl) (by decide) fun g2 => ?_
    refine xk_appendT 1 1 8 1 (n' := l.length + 1) (el := 3) (by kernel_rfl) (by kernel_rfl) (by decide) rfl rfl rfl (sl_blk 0 rfl rfl) (by simp [Value.oneCell']) rfl (by omega) (by omega) (by decide) fun A' k' => ?_
    dsimp only [List.set]
    rw [show intCells (natI l) ++ [Value.int .i64 (cur : Int)] = intCells (natI (l ++ [cur])) by simp [intCells, natI]]
    refine XK.weak [1, 2] rfl (by decide) (R' := [q, all w]) (by simp) ?_
    refine xk_assign rfl (by decide) ?_
    refine XK.nilN ?_
    refine XK.seq ?_
    refine XK.seq ?_
    obtain ⟨bC, oC, rC, rfl, hzC, _, hR, hcC⟩ := hSP.clk.rowP hx
    obtain ⟨As, ns, ks, rfl, rfl, hsr⟩ := hR

    refine XK.region ?_
    refine xk_field (off := 0) (by kernel_rfl) rfl (by decide) ?_
    refine xk_ld rfl ?_
    refine xk_move rfl (by decide) ?_
    refine xk_at (cur) (oC + cur * 6) (el := 87) (sz := 6) (by kernel_rfl) (by kernel_rfl) rfl rfl (by omega) (by omega) (by omega) (by decide) ?_
    refine xk_field (off := 1) (by kernel_rfl) rfl (by decide) ?_
    refine xk_load (by kernel_rfl) rfl (Rd.ro (p := q) (by simp) hzC (hcC 1 _ rfl)) (by decide) ?_
    refine xk_len (el := 3) (by kernel_rfl) rfl (by decide) ?_
    refine xk_eql rfl rfl (by decide) ?_
    refine XK.nilN ?_
    refine XK.if_ rfl (fun h0 => ?_) (fun h0 => ?_)
    ·
      refine XK.exit ?_
      refine XK.norm ?_
      refine XK.seq ?_

      refine XK.region ?_
      refine xk_move rfl (by decide) ?_
      refine xk_assign rfl (by decide) ?_
      refine XK.nilN ?_
      refine XK.ret ?_
      refine XK.norm ?_
      have hs0 : x.src = [] := List.eq_nil_of_length_eq_zero (by have : ((x.src.length : Nat) : Int) = 0 := h0; omega)
      rw [hs0] at hch
      have hfin : (l ++ [cur]) = chainL s c := hch.symm
      refine XK.still [] [0] [] (by simp) rfl (by decide) (by decide) fun qf hqf _ hfr => ?_
      obtain ⟨Ff, sf, zf⟩ := hqf 0 _ (by simp) rfl
      obtain ⟨Av, cv, hv, hsv⟩ := SlS.of_own (Y := qf.Z) sf zf
      exact XK.ret1 rfl rfl fun w1 st => ⟨⟨_, rfl, by
        rw [← hfin]
        unfold IntsOk
        rw [hv]
        exact ⟨Av, cv, by simp, by simpa using SlS.le hsv (st.fresh_le (by simp) (hfr (by simp) (by simp)))⟩⟩, st.below (by simp)⟩
    ·
      refine XK.skip ?_
      refine XK.norm ?_
      obtain ⟨f, fs, hs0⟩ : ∃ f fs, x.src = f :: fs := by
        cases hs0 : x.src with
        | nil => exact absurd (by rw [hs0]; rfl) h0
        | cons f fs => exact ⟨f, fs, rfl⟩
      have hf := hfit f (by rw [hs0]; simp)
      obtain ⟨f', rfl⟩ : ∃ f' : Nat, f = (f' : Int) := ⟨f.toNat, by omega⟩
      rw [hs0] at hch
      obtain ⟨bS, oS, rfl, hzS, hcS⟩ := hsr.2 (by rw [hs0]; simp)

      refine XK.region ?_
      refine xk_field (off := 0) (by kernel_rfl) rfl (by decide) ?_
      refine xk_ld rfl ?_
      refine xk_move rfl (by decide) ?_
      refine xk_at (cur) (oC + cur * 6) (el := 87) (sz := 6) (by kernel_rfl) (by kernel_rfl) rfl rfl (by omega) (by omega) (by omega) (by decide) ?_
      refine xk_field (off := 1) (by kernel_rfl) rfl (by decide) ?_
      refine xk_load (by kernel_rfl) rfl (Rd.ro (p := q) (by simp) hzC (hcC 1 _ rfl)) (by decide) ?_
      refine xk_at 0 oS (el := 3) (sz := 1) (by kernel_rfl) (by kernel_rfl) rfl rfl rfl (by rw [hs0]; simp) (by omega) (by decide) ?_
      refine xk_load (by kernel_rfl) rfl (Rd.ro (p := q) (by simp) hzS (hcS 0 _ (by rw [hs0]; rfl))) (by decide) ?_
      refine xk_assign rfl (by decide) ?_
      refine XK.nilN ?_
      exact XK.envS [(1, .int .i64 (f' : Int)), (5, .slice A' (l.length + 1) k'), (2, .pointer (some ⟨g1, 0, none⟩))] (XK.round (s.clocks.length - (l.length + 1)) (by omega) ⟨f', l ++ [cur], A', k', by omega, by simp; omega, by simp, by rw [hch]; simp [show s.clocks.length - (l.length + 1) = k0 by omega], by simp, rfl, by simp⟩)
  ·
    refine XK.exit ?_
    refine XK.norm ?_
    refine XK.seq ?_

    refine XK.region ?_
    refine xk_move rfl (by decide) ?_
    refine xk_assign rfl (by decide) ?_
    refine XK.nilN ?_
    refine XK.ret ?_
    refine XK.norm ?_
    have hge : ¬ l.length < s.clocks.length := h
    rw [show s.clocks.length - l.length = 0 by omega] at hch
    have hfin : l = chainL s c := by rw [hch]; simp [chainN]
    refine XK.still [] [0] [] (by simp) rfl (by decide) (by decide) fun qf hqf _ hfr => ?_
    obtain ⟨Ff, sf, zf⟩ := hqf 0 _ (by simp) rfl
    obtain ⟨Av, cv, hv, hsv⟩ := SlS.of_own (Y := qf.Z) sf zf
    exact XK.ret1 rfl rfl fun w1 st => ⟨⟨_, rfl, by
      rw [← hfin]
      unfold IntsOk
      rw [hv]
      exact ⟨Av, cv, rfl, SlS.le hsv (st.fresh_le (by simp) (hfr (by simp) (by simp)))⟩⟩, st.below (by simp)⟩

set_option maxHeartbeats 4000000 in
set_option maxRecDepth 10000 in
theorem wants_any (q : Piece) (s : Soc) (A1 A2 A3 A4 : Option Addr) (n1 k1 n2 k2 n3 k3 n4 k4 : Nat) (Aa : Option Addr) (ca : Nat) (act : List Bool) (w : World) (hSP : SocP q s A1 n1 A2 n2 A3 n3 A4 n4) (hm : s.made) (hq : q.Le (all w)) (hact : SlS (all w) 1 Aa act.length (boolCells act)) :
    Calls Tryz.prog 22 #[.agg #[.slice A1 n1 k1, .slice A2 n2 k2, .slice A3 n3 k3, .slice A4 n4 k4], .slice Aa act.length ca] w (RtW (WishOk (wants s act)) w) := by
  obtain ⟨rfl, rfl, rfl, rfl⟩ := hSP.len
  refine XK.enter (vs := [.agg #[.slice A1 s.clocks.length k1, .slice A2 s.domains.length k2, .slice A3 s.resets.length k3, .slice A4 s.devs.length k4], .slice Aa act.length ca]) Tryz.func22 rfl Tryz.ntmps22 (by simp) ?_
  refine XK.piece q (by simp) hq ?_
  have hn9 := hm.nc
  have hn4 := hm.nd
  have hn3 := hm.nr
  have hnv := hm.nv
  refine XK.seq ?_

  refine XK.region ?_
  refine xk_box rfl (by decide) fun g1 => ?_
  refine xk_alloc (cs := [.slice none 0 0, .slice none 0 0, .slice none 0 0]) (zeroB_of (by kernel_rfl)) (by decide) fun g2 => ?_
  refine XK.nilN ?_
  refine XK.seq ?_
  refine XK.seq ?_

  refine XK.region ?_
  refine xk_ldN 4 rfl ?_
  refine xk_callR (f := 47) (fi := []) (ca := []) (by kernel_rfl) rfl rfl (by decide) (fun w1 st => checkS_any s A1 A2 A3 A4 _ k1 _ k2 _ k3 _ k4 w1 (hSP.W (st.le (by simp)) (made_small hm))) ?_
  rw [made_check hm]
  refine xk_neq rfl rfl (by decide) ?_
  refine XK.nilN ?_
  refine XK.if_ rfl (fun h => absurd rfl h) (fun h => ?_)

  ·
    refine XK.skip ?_
    refine XK.norm ?_
    refine XK.cut (fun e R H => ∃ ga gb gc gw, e = [(5, .pointer (some ⟨gw, 0, none⟩)), (4, .pointer (some ⟨g2, 0, none⟩)), (2, .pointer (some ⟨g1, 0, none⟩)), (1, .slice Aa act.length ca)] ∧ R = [q, all w] ∧ H = [HP.blk gw 62 [.slice (some ⟨ga, 0, none⟩) s.domains.length s.domains.length, .slice (some ⟨gb, 0, none⟩) s.clocks.length s.clocks.length, .slice (some ⟨gc, 0, none⟩) s.resets.length s.resets.length], HP.blk ga 4 (boolCells (zeroW s).d), HP.blk gb 4 (boolCells (zeroW s).c), HP.blk gc 4 (boolCells (zeroW s).l), HP.blk g2 62 [.slice none 0 0, .slice none 0 0, .slice none 0 0], HP.blk g1 30 [.slice A1 s.clocks.length k1, .slice A2 s.domains.length k2, .slice A3 s.resets.length k3, .slice A4 s.devs.length k4]]) ?_ ?_
    ·

      refine XK.draw 14 (by kernel_rfl) (by kernel_rfl) ?_
      refine XA.dA 0 rfl rfl rfl (does_field (off := 1) (by kernel_rfl) rfl) ?_
      refine XA.dA 1 rfl rfl rfl (does_ld rfl) ?_
      refine XA.dA 2 rfl rfl rfl (does_len (el := 89) (by kernel_rfl) rfl) ?_
      refine XA.dA 4 rfl rfl rfl (does_field (off := 0) (by kernel_rfl) rfl) ?_
      refine XA.dA 5 rfl rfl rfl (does_ld rfl) ?_
      refine XA.dA 6 rfl rfl rfl (does_len (el := 87) (by kernel_rfl) rfl) ?_
      refine XA.dA 8 rfl rfl rfl (does_field (off := 2) (by kernel_rfl) rfl) ?_
      refine XA.dA 9 rfl rfl rfl (does_ld rfl) ?_
      refine XA.dA 10 rfl rfl rfl (does_len (el := 91) (by kernel_rfl) rfl) ?_
      refine XA.allocs (fuel := 2) [3, 7, 11, 13] [[3, 7, 11], [3, 7, 11, 13]] (fun i => match i with | 3 => ⟨19, 4, List.replicate s.domains.length (.bool false), fun g => .slice (some ⟨g, 0, none⟩) s.domains.length s.domains.length⟩ | 7 => ⟨23, 4, List.replicate s.clocks.length (.bool false), fun g => .slice (some ⟨g, 0, none⟩) s.clocks.length s.clocks.length⟩ | 11 => ⟨27, 4, List.replicate s.resets.length (.bool false), fun g => .slice (some ⟨g, 0, none⟩) s.resets.length s.resets.length⟩ | _ => ⟨5, 62, [.slice none 0 0, .slice none 0 0, .slice none 0 0], fun g => .pointer (some ⟨g, 0, none⟩)⟩) (fun i hi => ?_) (by show [19, 23, 27, 5].Nodup; decide) (by kernel_rfl) (fun _ h => h) (fun sub hsub hex g => ?_)
      · simp only [List.mem_cons, List.not_mem_nil, or_false] at hi
        rcases hi with rfl | rfl | rfl | rfl
        · exact ALok.of rfl rfl rfl (makes_make 1 (el := 4) (z := .bool false) (by kernel_rfl) (by kernel_rfl) rfl rfl rfl (by omega) (by omega)) (Nat.le_of_ble_eq_true rfl) rfl
        · exact ALok.of rfl rfl rfl (makes_make 1 (el := 4) (z := .bool false) (by kernel_rfl) (by kernel_rfl) rfl rfl rfl (by omega) (by omega)) (Nat.le_of_ble_eq_true rfl) rfl
        · exact ALok.of rfl rfl rfl (makes_make 1 (el := 4) (z := .bool false) (by kernel_rfl) (by kernel_rfl) rfl rfl rfl (by omega) (by omega)) (Nat.le_of_ble_eq_true rfl) rfl
        · exact ALok.of rfl rfl rfl (makes_alloc (zeroB_of (by kernel_rfl))) (Nat.le_of_ble_eq_true rfl) rfl
      have hs2 : sub = [3, 7, 11] ∨ sub = [3, 7, 11, 13] := by simpa using hex
      have er : ∀ n : Nat, List.replicate n (Value.bool false) = boolCells (List.replicate n false) := fun n => by simp [boolCells]
      rcases hs2 with rfl | rfl
      · dsimp only [envA, hpA, markA, List.map, List.foldr, List.cons_append, List.nil_append, List.length_cons, List.length_nil, Nat.reduceAdd, Nat.reduceSub]
        refine XA.do_ 12 rfl rfl rfl (by decide) (does_buildS (zs := [.slice none 0 0, .slice none 0 0, .slice none 0 0]) (L := [(0, 1), (1, 1), (2, 1)]) (zeroB_of (by kernel_rfl)) (by kernel_rfl) rfl (by simp [fillL, setN, Value.cells]; rfl)) (by kernel_rfl) (fun _ _ _ h => h) (fun _ h => h.tail.tail.tail) ?_
        refine XA.next 13 rfl (by kernel_rfl) ?_
        refine xk_alloc (cs := [.slice none 0 0, .slice none 0 0, .slice none 0 0]) (zeroB_of (by kernel_rfl)) (by decide) fun g6 => ?_
        refine XK.nil ?_; refine XK.thenN ?_; refine XA.back (fun _ h => h.tail.tail.tail.tail) ?_
        refine XA.next 14 rfl (by kernel_rfl) ?_
        (first | (refine xk_storeN 0 rfl rfl rfl (by kernel_rfl) (by simp [Value.cells, Value.oneCell']) (by simp [Value.cells]) ?_) | (refine xk_storeN 1 rfl rfl rfl (by kernel_rfl) (by simp [Value.cells, Value.oneCell']) (by simp [Value.cells]) ?_) | (refine xk_storeN 2 rfl rfl rfl (by kernel_rfl) (by simp [Value.cells, Value.oneCell']) (by simp [Value.cells]) ?_) | (refine xk_storeN 3 rfl rfl rfl (by kernel_rfl) (by simp [Value.cells, Value.oneCell']) (by simp [Value.cells]) ?_) | (refine xk_storeN 4 rfl rfl rfl (by kernel_rfl) (by simp [Value.cells, Value.oneCell']) (by simp [Value.cells]) ?_) | (refine xk_storeN 5 rfl rfl rfl (by kernel_rfl) (by simp [Value.cells, Value.oneCell']) (by simp [Value.cells]) ?_) | (refine xk_storeN 6 rfl rfl rfl (by kernel_rfl) (by simp [Value.cells, Value.oneCell']) (by simp [Value.cells]) ?_) | (refine xk_storeN 7 rfl rfl rfl (by kernel_rfl) (by simp [Value.cells, Value.oneCell']) (by simp [Value.cells]) ?_) | (refine xk_storeN 8 rfl rfl rfl (by kernel_rfl) (by simp [Value.cells, Value.oneCell']) (by simp [Value.cells]) ?_)); simp only [putN, Value.cells, List.set, List.take, List.drop, List.nil_append, List.append_nil, List.length_cons, List.length_nil, List.cons_append, Nat.reduceAdd]
        refine XA.bt ?_
        refine XA.done (by kernel_rfl) ?_
        refine XK.norm ?_
        exact XK.weak [0, 1, 2, 3, 4, 5] rfl (by decide) (by simp) (XK.envS [(5, .pointer (some ⟨g6, 0, none⟩)), (4, .pointer (some ⟨g2, 0, none⟩)), (2, .pointer (some ⟨g1, 0, none⟩)), (1, .slice Aa act.length ca)] (XK.meet ⟨g 3, g 7, g 11, g6, rfl, rfl, by simp only [er, zeroW]⟩))
      · dsimp only [envA, hpA, markA, List.map, List.foldr, List.cons_append, List.nil_append, List.length_cons, List.length_nil, Nat.reduceAdd, Nat.reduceSub]
        refine XA.do_ 12 rfl rfl rfl (by decide) (does_buildS (zs := [.slice none 0 0, .slice none 0 0, .slice none 0 0]) (L := [(0, 1), (1, 1), (2, 1)]) (zeroB_of (by kernel_rfl)) (by kernel_rfl) rfl (by simp [fillL, setN, Value.cells]; rfl)) (by kernel_rfl) (fun _ _ _ h => h) (fun _ h => h.tail.tail.tail.tail) ?_
        refine XA.next 14 rfl (by kernel_rfl) ?_
        (first | (refine xk_storeN 0 rfl rfl rfl (by kernel_rfl) (by simp [Value.cells, Value.oneCell']) (by simp [Value.cells]) ?_) | (refine xk_storeN 1 rfl rfl rfl (by kernel_rfl) (by simp [Value.cells, Value.oneCell']) (by simp [Value.cells]) ?_) | (refine xk_storeN 2 rfl rfl rfl (by kernel_rfl) (by simp [Value.cells, Value.oneCell']) (by simp [Value.cells]) ?_) | (refine xk_storeN 3 rfl rfl rfl (by kernel_rfl) (by simp [Value.cells, Value.oneCell']) (by simp [Value.cells]) ?_) | (refine xk_storeN 4 rfl rfl rfl (by kernel_rfl) (by simp [Value.cells, Value.oneCell']) (by simp [Value.cells]) ?_) | (refine xk_storeN 5 rfl rfl rfl (by kernel_rfl) (by simp [Value.cells, Value.oneCell']) (by simp [Value.cells]) ?_) | (refine xk_storeN 6 rfl rfl rfl (by kernel_rfl) (by simp [Value.cells, Value.oneCell']) (by simp [Value.cells]) ?_) | (refine xk_storeN 7 rfl rfl rfl (by kernel_rfl) (by simp [Value.cells, Value.oneCell']) (by simp [Value.cells]) ?_) | (refine xk_storeN 8 rfl rfl rfl (by kernel_rfl) (by simp [Value.cells, Value.oneCell']) (by simp [Value.cells]) ?_)); simp only [putN, Value.cells, List.set, List.take, List.drop, List.nil_append, List.append_nil, List.length_cons, List.length_nil, List.cons_append, Nat.reduceAdd]
        refine XA.bt ?_
        refine XA.done (by kernel_rfl) ?_
        refine XK.norm ?_
        exact XK.weak [3, 0, 1, 2, 4, 5] rfl (by decide) (by simp) (XK.envS [(5, .pointer (some ⟨g 13, 0, none⟩)), (4, .pointer (some ⟨g2, 0, none⟩)), (2, .pointer (some ⟨g1, 0, none⟩)), (1, .slice Aa act.length ca)] (XK.meet ⟨g 3, g 7, g 11, g 13, rfl, rfl, by simp only [er, zeroW]⟩))

    rintro _ _ _ ⟨ga, gb, gc, gw, rfl, rfl, rfl⟩
    refine XK.seq ?_
    refine XK.seq ?_

    refine XK.region ?_
    refine xk_field (off := 3) (by kernel_rfl) rfl (by decide) ?_
    refine xk_ld rfl ?_
    refine xk_len (el := 94) (by kernel_rfl) rfl (by decide) ?_
    refine xk_move rfl (by decide) ?_
    refine XK.nilN ?_
    refine XK.envS [(32, .int .i64 0), (31, .int .i64 s.devs.length), (30, .slice A4 s.devs.length k4), (5, .pointer (some ⟨gw, 0, none⟩)), (4, .pointer (some ⟨g2, 0, none⟩)), (2, .pointer (some ⟨g1, 0, none⟩)), (1, .slice Aa act.length ca)] ?_
    refine XK.block ?_
    refine XK.loop (fun m e R H => ∃ (j : Nat), j ≤ s.devs.length ∧ m = s.devs.length - j ∧ e = [(32, .int .i64 j), (31, .int .i64 s.devs.length), (30, .slice A4 s.devs.length k4), (5, .pointer (some ⟨gw, 0, none⟩)), (4, .pointer (some ⟨g2, 0, none⟩)), (2, .pointer (some ⟨g1, 0, none⟩)), (1, .slice Aa act.length ca)] ∧ R = [q, all w] ∧ H = [HP.blk gw 62 [.slice (some ⟨ga, 0, none⟩) s.domains.length s.domains.length, .slice (some ⟨gb, 0, none⟩) s.clocks.length s.clocks.length, .slice (some ⟨gc, 0, none⟩) s.resets.length s.resets.length], HP.blk ga 4 (boolCells (wantN s act j).d), HP.blk gb 4 (boolCells (wantN s act j).c), HP.blk gc 4 (boolCells (wantN s act j).l), HP.blk g2 62 [.slice none 0 0, .slice none 0 0, .slice none 0 0], HP.blk g1 30 [.slice A1 s.clocks.length k1, .slice A2 s.domains.length k2, .slice A3 s.resets.length k3, .slice A4 s.devs.length k4]]) s.devs.length ⟨0, by omega, rfl, rfl, rfl, rfl⟩ fun m e R H hI => ?_
    obtain ⟨j, hj, rfl, rfl, rfl, rfl⟩ := hI
    refine XK.seq ?_

    refine XK.region ?_
    refine xk_lss rfl rfl (by decide) ?_
    refine XK.nilN ?_
    refine XK.seq ?_
    refine XK.if_ rfl (fun h => ?_) (fun h => ?_)
    ·
      refine XK.skip ?_
      refine XK.norm ?_
      refine XK.seq ?_
      refine XK.block ?_
      refine XK.seq ?_
      have hjl : j < s.devs.length := by have h' : (j : Int) < (s.devs.length : Int) := h; omega
      obtain ⟨x, hx⟩ : ∃ x, s.devs[j]? = some x := ⟨_, List.getElem?_eq_getElem hjl⟩
      obtain ⟨hx1, hx2, hx3, hx4, hx5, hx6, _⟩ := hm.devs j x hx
      obtain ⟨bV, oV, rV, rfl, hzV, _, hR, hcV⟩ := hSP.dev.rowP hx
      obtain ⟨Ar, nr, kr, An, nn, kn, rfl, _⟩ := hR
      have hwo := wantN_of s act j
      obtain ⟨xc, hxc⟩ : ∃ xc : Nat, x.clock = (xc : Int) := ⟨x.clock.toNat, by omega⟩
      obtain ⟨xd, hxd⟩ : ∃ xd : Nat, x.domain = (xd : Int) := ⟨x.domain.toNat, by omega⟩
      obtain ⟨xr, hxr⟩ : ∃ xr : Nat, x.reset = (xr : Int) := ⟨x.reset.toNat, by omega⟩
      have hnx : hasB act j = true → wantN s act (j + 1) = ⟨putAll (ups s xd) (wantN s act j).d, putAll ((chainL s xc).filter (swK s)) (wantN s act j).c, putB (wantN s act j).l (xr : Int) true⟩ := fun ha => by
        rw [wantN_next hx ha, wantStep, hxd, hxc, hxr]; rfl
      rw [hxc, hxd, hxr] at hcV
      generalize hwj : wantN s act j = wj at *

      refine XK.region ?_
      refine xk_move rfl (by decide) ?_
      refine xk_at (j) (oV + j * 6) (el := 94) (sz := 6) (by kernel_rfl) (by kernel_rfl) rfl rfl (by omega) (by omega) (by omega) (by decide) ?_
      refine xk_loadN 6 (by kernel_rfl) rfl (RdN.of (vs := [.int .i64 (xc : Int), .int .i64 (xd : Int), .int .i64 (xr : Int), .int .u32 x.clamp, .slice Ar nr kr, .slice An nn kn]) fun f v hf => Rd.ro (p := q) (by simp) hzV (hcV f v hf)) rfl (by decide) ?_
      refine xk_alloc (cs := [.int .i64 0, .int .i64 0, .int .i64 0, .int .u32 0, .slice none 0 0, .slice none 0 0]) (zeroB_of (by kernel_rfl)) (by decide) fun g7 => ?_
      refine xk_assign rfl (by decide) ?_
      (first | (refine xk_storeN 0 rfl rfl rfl (by kernel_rfl) (by simp [Value.cells, Value.oneCell']) (by simp [Value.cells]) ?_) | (refine xk_storeN 1 rfl rfl rfl (by kernel_rfl) (by simp [Value.cells, Value.oneCell']) (by simp [Value.cells]) ?_) | (refine xk_storeN 2 rfl rfl rfl (by kernel_rfl) (by simp [Value.cells, Value.oneCell']) (by simp [Value.cells]) ?_) | (refine xk_storeN 3 rfl rfl rfl (by kernel_rfl) (by simp [Value.cells, Value.oneCell']) (by simp [Value.cells]) ?_) | (refine xk_storeN 4 rfl rfl rfl (by kernel_rfl) (by simp [Value.cells, Value.oneCell']) (by simp [Value.cells]) ?_) | (refine xk_storeN 5 rfl rfl rfl (by kernel_rfl) (by simp [Value.cells, Value.oneCell']) (by simp [Value.cells]) ?_) | (refine xk_storeN 6 rfl rfl rfl (by kernel_rfl) (by simp [Value.cells, Value.oneCell']) (by simp [Value.cells]) ?_) | (refine xk_storeN 7 rfl rfl rfl (by kernel_rfl) (by simp [Value.cells, Value.oneCell']) (by simp [Value.cells]) ?_) | (refine xk_storeN 8 rfl rfl rfl (by kernel_rfl) (by simp [Value.cells, Value.oneCell']) (by simp [Value.cells]) ?_)); simp only [putN, Value.cells, List.set, List.take, List.drop, List.nil_append, List.append_nil, List.length_cons, List.length_nil, List.cons_append, Nat.reduceAdd]
      refine XK.nilN ?_
      refine XK.seq ?_
      refine XK.seq ?_

      refine XK.region ?_
      refine xk_move rfl (by decide) ?_
      refine xk_move rfl (by decide) ?_
      refine xk_callR (f := 48) (fi := []) (ca := []) (by kernel_rfl) rfl rfl (by decide) (fun w1 st => has_any Aa act.length ca j act w1 (hact.le (st.le (by simp))) rfl (by omega)) ?_
      (first | refine xk_notD rfl (by decide) ?_ | refine xk_not rfl (by decide) ?_)
      refine XK.nilN ?_
      refine XK.cond rfl (fun h => ?_) (fun h => ?_)
      ·
        refine XK.exit ?_
        refine XK.norm ?_

        refine XK.region ?_
        refine xk_add rfl rfl (wrap_in (by omega)) (by decide) ?_
        refine xk_move rfl (by decide) ?_
        refine XK.nilN ?_
        have hno : hasB act j = false := by simpa using h
        exact XK.weak [1, 2, 3, 4, 5, 6] rfl (by decide) (by simp) (XK.envS [(32, .int .i64 ((j : Int) + 1)), (31, .int .i64 s.devs.length), (30, .slice (some ⟨bV, oV, none⟩) s.devs.length k4), (5, .pointer (some ⟨gw, 0, none⟩)), (4, .pointer (some ⟨g2, 0, none⟩)), (2, .pointer (some ⟨g1, 0, none⟩)), (1, .slice Aa act.length ca)] (XK.round (s.devs.length - (j + 1)) (by omega) ⟨j + 1, by omega, rfl, rfl, rfl, by rw [wantN_skip hno, hwj]⟩))
      ·
        have hyes : hasB act j = true := by simpa using h
        have hnx := hnx hyes
        refine XK.skip ?_
        refine XK.norm ?_
        refine XK.seq ?_
        refine XK.seq ?_

        refine XK.region ?_
        refine xk_field (off := 1) (by kernel_rfl) rfl (by decide) ?_
        refine xk_ld rfl ?_
        refine xk_assign rfl (by decide) ?_
        refine XK.nilN ?_
        refine XK.envS [(8, .int .i64 (xd : Int)), (7, .pointer (some ⟨g7, 0, none⟩)), (32, .int .i64 j), (31, .int .i64 s.devs.length), (30, .slice (some ⟨bV, oV, none⟩) s.devs.length k4), (5, .pointer (some ⟨gw, 0, none⟩)), (4, .pointer (some ⟨g2, 0, none⟩)), (2, .pointer (some ⟨g1, 0, none⟩)), (1, .slice Aa act.length ca)] ?_
        refine XK.block ?_
        refine XK.loop (fun m e R H => ∃ (cur : Int) (rest : List Nat) (d : List Bool), m = rest.length ∧ UpsR s cur rest ∧ d.length = s.domains.length ∧ putAll rest d = putAll (ups s xd) wj.d ∧ e = [(8, .int .i64 cur), (7, .pointer (some ⟨g7, 0, none⟩)), (32, .int .i64 j), (31, .int .i64 s.devs.length), (30, .slice (some ⟨bV, oV, none⟩) s.devs.length k4), (5, .pointer (some ⟨gw, 0, none⟩)), (4, .pointer (some ⟨g2, 0, none⟩)), (2, .pointer (some ⟨g1, 0, none⟩)), (1, .slice Aa act.length ca)] ∧ R = [q, all w] ∧ H = [HP.blk g7 94 [.int .i64 (xc : Int), .int .i64 (xd : Int), .int .i64 (xr : Int), .int .u32 x.clamp, .slice Ar nr kr, .slice An nn kn], HP.blk gw 62 [.slice (some ⟨ga, 0, none⟩) s.domains.length s.domains.length, .slice (some ⟨gb, 0, none⟩) s.clocks.length s.clocks.length, .slice (some ⟨gc, 0, none⟩) s.resets.length s.resets.length], HP.blk ga 4 (boolCells d), HP.blk gb 4 (boolCells wj.c), HP.blk gc 4 (boolCells wj.l), HP.blk g2 62 [.slice none 0 0, .slice none 0 0, .slice none 0 0], HP.blk g1 30 [.slice A1 s.clocks.length k1, .slice A2 s.domains.length k2, .slice A3 s.resets.length k3, .slice (some ⟨bV, oV, none⟩) s.devs.length k4]]) (ups s xd).length ⟨_, ups s xd, wj.d, rfl, ups_R hm (by omega), hwo.d, rfl, rfl, rfl, rfl⟩ fun m e R H hI => ?_
        obtain ⟨cur, rest, d, rfl, hur, hdl, hpd, rfl, rfl, rfl⟩ := hI
        refine XK.seq ?_
        refine XK.seq ?_

        refine XK.region ?_
        refine xk_move rfl (by decide) ?_
        refine xk_neq rfl rfl (by decide) ?_
        refine XK.nilN ?_
        refine XK.if_ rfl (fun h => ?_) (fun h => ?_)
        ·
          refine XK.skip ?_
          refine XK.norm ?_
          refine XK.seq ?_
          obtain ⟨i, r, rfl⟩ : ∃ i r, rest = i :: r := by
            cases rest with
            | nil => exact absurd hur h
            | cons i r => exact ⟨i, r, rfl⟩
          obtain ⟨rfl, dm, hdm, hur⟩ := hur
          have hil := (List.getElem?_eq_some_iff.1 hdm).1
          refine XK.block ?_

          refine XK.region ?_
          refine xk_field (off := 0) (by kernel_rfl) rfl (by decide) ?_
          refine xk_ld rfl ?_
          refine xk_move rfl (by decide) ?_
          refine xk_at (i) (i) (el := 4) (sz := 1) (by kernel_rfl) (by kernel_rfl) rfl rfl (by omega) (by omega) (by omega) (by decide) ?_
          refine xk_store 2 rfl (by kernel_rfl) rfl rfl rfl (by rw [boolCells_len]; omega) ?_
          dsimp only [List.set]
          rw [boolCells_set, show d.set i true = putB d (i : Int) true by simp [putB]]
          refine XK.nilN ?_
          obtain ⟨bD, oD, rD, rfl, hzD, _, rfl, hcD⟩ := hSP.dom.rowP hdm

          refine XK.region ?_
          refine xk_field (off := 1) (by kernel_rfl) rfl (by decide) ?_
          refine xk_ld rfl ?_
          refine xk_move rfl (by decide) ?_
          refine xk_at (i) (oD + i * 3) (el := 89) (sz := 3) (by kernel_rfl) (by kernel_rfl) rfl rfl (by omega) (by omega) (by omega) (by decide) ?_
          refine xk_field (off := 0) (by kernel_rfl) rfl (by decide) ?_
          refine xk_load (by kernel_rfl) rfl (Rd.ro (p := q) (by simp) hzD (hcD 0 _ rfl)) (by decide) ?_
          refine xk_assign rfl (by decide) ?_
          refine XK.nilN ?_
          exact XK.envS [(8, .int .i64 dm.above), (7, .pointer (some ⟨g7, 0, none⟩)), (32, .int .i64 j), (31, .int .i64 s.devs.length), (30, .slice (some ⟨bV, oV, none⟩) s.devs.length k4), (5, .pointer (some ⟨gw, 0, none⟩)), (4, .pointer (some ⟨g2, 0, none⟩)), (2, .pointer (some ⟨g1, 0, none⟩)), (1, .slice Aa act.length ca)] (XK.round r.length (by simp) ⟨dm.above, r, putB d (i : Int) true, rfl, hur, by rw [putB_len]; exact hdl, by rw [← hpd]; rfl, rfl, rfl, rfl⟩)
        ·
          refine XK.exit ?_
          refine XK.norm ?_
          refine XK.seq ?_
          refine XK.seq ?_
          obtain rfl : rest = [] := by
            cases rest with
            | nil => rfl
            | cons i r => exact absurd (show cur = -1 from Classical.not_not.1 h) (by have := hur.1; omega)
          have hpd : d = putAll (ups s xd) wj.d := hpd

          refine XK.region ?_
          refine xk_ldN 4 rfl ?_
          refine xk_field (off := 0) (by kernel_rfl) rfl (by decide) ?_
          refine xk_ld rfl ?_
          refine xk_call [] (f := 49) (fi := []) (ca := []) (by kernel_rfl) rfl rfl (by decide) (by simp) (IntsOk (chainL s xc)) (fun w1 st => chain_any q s A1 A2 A3 (some ⟨bV, oV, none⟩) _ k1 _ k2 _ k3 _ k4 xc w1 hSP hm.okT (st.le (by simp)) (by omega)) ?_
          rintro _ w1 qc ⟨Ac, cc, rfl, hsc⟩ hf _ _
          have hsc := hsc.le hf
          have hcin := fun i (hi : i ∈ chainL s xc) => chainN_in s _ _ i hi
          have hcl : (chainL s xc).length ≤ s.clocks.length := chainN_len s _ _
          clear hf
          generalize hch : chainL s xc = ch at *
          refine xk_len (el := 3) (by kernel_rfl) rfl (by decide) ?_
          refine xk_move rfl (by decide) ?_
          refine XK.nilN ?_
          refine XK.envS [(60, .int .i64 0), (59, .int .i64 ch.length), (58, .slice Ac ch.length cc), (7, .pointer (some ⟨g7, 0, none⟩)), (32, .int .i64 j), (31, .int .i64 s.devs.length), (30, .slice (some ⟨bV, oV, none⟩) s.devs.length k4), (5, .pointer (some ⟨gw, 0, none⟩)), (4, .pointer (some ⟨g2, 0, none⟩)), (2, .pointer (some ⟨g1, 0, none⟩)), (1, .slice Aa act.length ca)] ?_
          refine XK.block ?_
          refine XK.loop (fun m e R H => ∃ (k : Nat), k ≤ ch.length ∧ m = ch.length - k ∧ e = [(60, .int .i64 k), (59, .int .i64 ch.length), (58, .slice Ac ch.length cc), (7, .pointer (some ⟨g7, 0, none⟩)), (32, .int .i64 j), (31, .int .i64 s.devs.length), (30, .slice (some ⟨bV, oV, none⟩) s.devs.length k4), (5, .pointer (some ⟨gw, 0, none⟩)), (4, .pointer (some ⟨g2, 0, none⟩)), (2, .pointer (some ⟨g1, 0, none⟩)), (1, .slice Aa act.length ca)] ∧ R = [qc, q, all w] ∧ H = [HP.blk g7 94 [.int .i64 (xc : Int), .int .i64 (xd : Int), .int .i64 (xr : Int), .int .u32 x.clamp, .slice Ar nr kr, .slice An nn kn], HP.blk gw 62 [.slice (some ⟨ga, 0, none⟩) s.domains.length s.domains.length, .slice (some ⟨gb, 0, none⟩) s.clocks.length s.clocks.length, .slice (some ⟨gc, 0, none⟩) s.resets.length s.resets.length], HP.blk ga 4 (boolCells d), HP.blk gb 4 (boolCells (putAll ((ch.take k).filter (swK s)) wj.c)), HP.blk gc 4 (boolCells wj.l), HP.blk g2 62 [.slice none 0 0, .slice none 0 0, .slice none 0 0], HP.blk g1 30 [.slice A1 s.clocks.length k1, .slice A2 s.domains.length k2, .slice A3 s.resets.length k3, .slice (some ⟨bV, oV, none⟩) s.devs.length k4]]) ch.length ⟨0, by omega, rfl, rfl, rfl, rfl⟩ fun m e R H hI => ?_
          obtain ⟨k, hk, rfl, rfl, rfl, rfl⟩ := hI
          refine XK.seq ?_

          refine XK.region ?_
          refine xk_lss rfl rfl (by decide) ?_
          refine XK.nilN ?_
          refine XK.seq ?_
          refine XK.if_ rfl (fun h => ?_) (fun h => ?_)
          ·
            refine XK.skip ?_
            refine XK.norm ?_
            refine XK.seq ?_
            refine XK.block ?_
            refine XK.seq ?_
            have hkl : k < ch.length := by have h' : (k : Int) < (ch.length : Int) := h; omega
            obtain ⟨ci, hci⟩ : ∃ ci, ch[k]? = some ci := ⟨_, List.getElem?_eq_getElem hkl⟩
            have hcil := hcin ci (List.mem_of_getElem? hci)
            obtain ⟨ck, hck⟩ : ∃ ck, s.clocks[ci]? = some ck := ⟨_, List.getElem?_eq_getElem hcil⟩
            obtain ⟨bI, oI, rfl, hzI, hcI⟩ := hsc.2 (by omega)
            obtain ⟨bC, oC, rC, rfl, hzC, _, hR2, hcC⟩ := hSP.clk.rowP hck
            obtain ⟨As, ns, ks, rfl, _⟩ := hR2
            have htk : (ch.take (k + 1)).filter (swK s) = (ch.take k).filter (swK s) ++ (if swK s ci then [ci] else []) := by
              rw [List.take_add_one, hci, List.filter_append]
              cases hsw : swK s ci <;> simp [hsw]
            have hswv : swK s ci = decide (ck.kind = 112 ∨ ck.kind = 103) := by unfold swK; rw [hck]
            have hcpl : (putAll ((ch.take k).filter (swK s)) wj.c).length = s.clocks.length := by rw [putAll_len]; exact hwo.c

            refine XK.region ?_
            refine xk_at (k) (oI + k) (el := 3) (sz := 1) (by kernel_rfl) (by kernel_rfl) rfl rfl (by omega) (by omega) (by omega) (by decide) ?_
            refine xk_load (by kernel_rfl) rfl (Rd.ro (p := qc) (by simp) hzI (hcI k _ (natI_get hci))) (by decide) ?_
            refine xk_assign rfl (by decide) ?_
            refine XK.nilN ?_
            refine XK.seq ?_

            refine XK.region ?_
            refine xk_field (off := 0) (by kernel_rfl) rfl (by decide) ?_
            refine xk_ld rfl ?_
            refine xk_move rfl (by decide) ?_
            refine xk_at (ci) (oC + ci * 6) (el := 87) (sz := 6) (by kernel_rfl) (by kernel_rfl) rfl rfl (by omega) (by omega) (by omega) (by decide) ?_
            refine xk_field (off := 0) (by kernel_rfl) rfl (by decide) ?_
            refine xk_load (by kernel_rfl) rfl (Rd.ro (p := q) (by simp) hzC (hcC 0 _ rfl)) (by decide) ?_
            refine xk_assign rfl (by decide) ?_
            refine XK.nilN ?_
            refine XK.cutB 75 (ck.kind = 112 ∨ ck.kind = 103) ?_ ?_
            · skip

              refine XK.region ?_
              refine xk_move rfl (by decide) ?_
              refine xk_eql rfl rfl (by decide) ?_
              refine xk_move rfl (by decide) ?_
              refine xk_split (t := 72) rfl (fun hg => ?_) (fun hg => ?_)
              ·
                refine xk_guardF rfl rfl rfl (by decide) ?_
                refine xk_guardF rfl rfl rfl (by decide) ?_
                (first | refine xk_pickT rfl rfl (by decide) ?_ | refine xk_pickF rfl rfl (by decide) ?_)
                refine XK.nilN ?_
                exact XK.meetB (by repeat (first | exact trivial | refine ⟨rfl, ?_⟩)) (by first | (refine get_iff rfl ?_; omega) | (refine get_iff rfl ?_; simp_all; done) | (refine get_false rfl ?_; first | omega | (simp_all; done)) | (refine get_true rfl ?_; first | omega | (simp_all; done)) | (refine get_bool rfl ?_; simp_all; done) | (refine get_iff rfl ⟨fun hh => ?_, fun hh => ?_⟩ <;> first | omega | (simp_all; done) | (simp_all; omega)) | (exfalso; omega))
              ·
                refine xk_guardT rfl rfl ?_; refine xk_move rfl (by decide) ?_
                refine xk_guardT rfl rfl ?_; refine xk_eql rfl rfl (by decide) ?_
                (first | refine xk_pickT rfl rfl (by decide) ?_ | refine xk_pickF rfl rfl (by decide) ?_)
                refine XK.nilN ?_
                exact XK.meetB (by repeat (first | exact trivial | refine ⟨rfl, ?_⟩)) (by first | (refine get_iff rfl ?_; omega) | (refine get_iff rfl ?_; simp_all; done) | (refine get_false rfl ?_; first | omega | (simp_all; done)) | (refine get_true rfl ?_; first | omega | (simp_all; done)) | (refine get_bool rfl ?_; simp_all; done) | (refine get_iff rfl ⟨fun hh => ?_, fun hh => ?_⟩ <;> first | omega | (simp_all; done) | (simp_all; omega)) | (exfalso; omega))
            refine XK.if_ rfl (fun hkd => ?_) (fun hkd => ?_)
            ·

              refine XK.region ?_
              refine xk_field (off := 1) (by kernel_rfl) rfl (by decide) ?_
              refine xk_ld rfl ?_
              refine xk_move rfl (by decide) ?_
              refine xk_at (ci) (ci) (el := 4) (sz := 1) (by kernel_rfl) (by kernel_rfl) rfl rfl (by omega) (by omega) (by omega) (by decide) ?_
              refine xk_store 3 rfl (by kernel_rfl) rfl rfl rfl (by rw [boolCells_len]; omega) ?_
              dsimp only [List.set]
              rw [boolCells_set, show (putAll ((ch.take k).filter (swK s)) wj.c).set ci true = putAll ((ch.take (k + 1)).filter (swK s)) wj.c by rw [htk, hswv, decide_eq_true hkd]; simp [putAll, putB, List.foldl_append]]
              refine XK.nilN ?_

              refine XK.region ?_
              refine xk_add rfl rfl (wrap_in (by omega)) (by decide) ?_
              refine xk_move rfl (by decide) ?_
              refine XK.nilN ?_
              exact XK.envS [(60, .int .i64 ((k : Int) + 1)), (59, .int .i64 ch.length), (58, .slice (some ⟨bI, oI, none⟩) ch.length cc), (7, .pointer (some ⟨g7, 0, none⟩)), (32, .int .i64 j), (31, .int .i64 s.devs.length), (30, .slice (some ⟨bV, oV, none⟩) s.devs.length k4), (5, .pointer (some ⟨gw, 0, none⟩)), (4, .pointer (some ⟨g2, 0, none⟩)), (2, .pointer (some ⟨g1, 0, none⟩)), (1, .slice Aa act.length ca)] (XK.round (ch.length - (k + 1)) (by omega) ⟨k + 1, by omega, rfl, rfl, rfl, rfl⟩)
            ·
              refine XK.skip ?_
              refine XK.norm ?_

              refine XK.region ?_
              refine xk_add rfl rfl (wrap_in (by omega)) (by decide) ?_
              refine xk_move rfl (by decide) ?_
              refine XK.nilN ?_
              exact XK.envS [(60, .int .i64 ((k : Int) + 1)), (59, .int .i64 ch.length), (58, .slice (some ⟨bI, oI, none⟩) ch.length cc), (7, .pointer (some ⟨g7, 0, none⟩)), (32, .int .i64 j), (31, .int .i64 s.devs.length), (30, .slice (some ⟨bV, oV, none⟩) s.devs.length k4), (5, .pointer (some ⟨gw, 0, none⟩)), (4, .pointer (some ⟨g2, 0, none⟩)), (2, .pointer (some ⟨g1, 0, none⟩)), (1, .slice Aa act.length ca)] (XK.round (ch.length - (k + 1)) (by omega) ⟨k + 1, by omega, rfl, rfl, rfl, by rw [htk, hswv, decide_eq_false hkd]; simp⟩)
          ·
            refine XK.exit ?_
            refine XK.norm ?_
            have hke : k = ch.length := by have h' : ¬ (k : Int) < (ch.length : Int) := h; omega
            rw [hke, List.take_length]
            have hll := hwo.l

            refine XK.region ?_
            refine xk_field (off := 2) (by kernel_rfl) rfl (by decide) ?_
            refine xk_ld rfl ?_
            refine xk_field (off := 2) (by kernel_rfl) rfl (by decide) ?_
            refine xk_ld rfl ?_
            refine xk_at (xr) (xr) (el := 4) (sz := 1) (by kernel_rfl) (by kernel_rfl) rfl rfl (by omega) (by omega) (by omega) (by decide) ?_
            refine xk_store 4 rfl (by kernel_rfl) rfl rfl rfl (by rw [boolCells_len]; omega) ?_
            dsimp only [List.set]
            rw [boolCells_set, show wj.l.set xr true = putB wj.l (xr : Int) true by simp [putB]]
            refine XK.nilN ?_

            refine XK.region ?_
            refine xk_add rfl rfl (wrap_in (by omega)) (by decide) ?_
            refine xk_move rfl (by decide) ?_
            refine XK.nilN ?_
            exact XK.weak [1, 2, 3, 4, 5, 6] rfl (by decide) (R' := [q, all w]) (by simp) (XK.envS [(32, .int .i64 ((j : Int) + 1)), (31, .int .i64 s.devs.length), (30, .slice (some ⟨bV, oV, none⟩) s.devs.length k4), (5, .pointer (some ⟨gw, 0, none⟩)), (4, .pointer (some ⟨g2, 0, none⟩)), (2, .pointer (some ⟨g1, 0, none⟩)), (1, .slice Aa act.length ca)] (XK.round (s.devs.length - (j + 1)) (by omega) ⟨j + 1, by omega, rfl, rfl, rfl, by rw [hnx, hpd]⟩))
    ·
      refine XK.exit ?_
      refine XK.norm ?_
      refine XK.seq ?_

      refine XK.region ?_
      refine xk_ldN 3 rfl ?_
      (first | (refine xk_storeN 0 rfl rfl rfl (by kernel_rfl) (by simp [Value.cells, Value.oneCell']) (by simp [Value.cells]) ?_) | (refine xk_storeN 1 rfl rfl rfl (by kernel_rfl) (by simp [Value.cells, Value.oneCell']) (by simp [Value.cells]) ?_) | (refine xk_storeN 2 rfl rfl rfl (by kernel_rfl) (by simp [Value.cells, Value.oneCell']) (by simp [Value.cells]) ?_) | (refine xk_storeN 3 rfl rfl rfl (by kernel_rfl) (by simp [Value.cells, Value.oneCell']) (by simp [Value.cells]) ?_) | (refine xk_storeN 4 rfl rfl rfl (by kernel_rfl) (by simp [Value.cells, Value.oneCell']) (by simp [Value.cells]) ?_) | (refine xk_storeN 5 rfl rfl rfl (by kernel_rfl) (by simp [Value.cells, Value.oneCell']) (by simp [Value.cells]) ?_) | (refine xk_storeN 6 rfl rfl rfl (by kernel_rfl) (by simp [Value.cells, Value.oneCell']) (by simp [Value.cells]) ?_) | (refine xk_storeN 7 rfl rfl rfl (by kernel_rfl) (by simp [Value.cells, Value.oneCell']) (by simp [Value.cells]) ?_) | (refine xk_storeN 8 rfl rfl rfl (by kernel_rfl) (by simp [Value.cells, Value.oneCell']) (by simp [Value.cells]) ?_)); simp only [putN, Value.cells, List.set, List.take, List.drop, List.nil_append, List.append_nil, List.length_cons, List.length_nil, List.cons_append, Nat.reduceAdd]
      refine XK.nilN ?_
      refine XK.ret ?_
      refine XK.norm ?_
      have hje : j = s.devs.length := by have h' : ¬ (j : Int) < (s.devs.length : Int) := h; omega
      have hwo := wantN_of s act j
      have hww : wants s act = wantN s act j := by rw [hje]; rfl
      generalize wantN s act j = wj at *
      refine XK.still [] [1, 2, 3] [4] (by simp) rfl (by decide) (by decide) fun qf hqf _ hfr => ?_
      have b1 := SlS.of_blk (n := wj.d.length) (sz := 1) (c := 0) (hqf 1 _ (by simp) rfl).choose_spec.1 (hqf 1 _ (by simp) rfl).choose_spec.2 (by rw [boolCells_len]; omega)
      have b2 := SlS.of_blk (n := wj.c.length) (sz := 1) (c := 0) (hqf 2 _ (by simp) rfl).choose_spec.1 (hqf 2 _ (by simp) rfl).choose_spec.2 (by rw [boolCells_len]; omega)
      have b3 := SlS.of_blk (n := wj.l.length) (sz := 1) (c := 0) (hqf 3 _ (by simp) rfl).choose_spec.1 (hqf 3 _ (by simp) rfl).choose_spec.2 (by rw [boolCells_len]; omega)
      exact XK.retC rfl (by kernel_rfl) rfl rfl (RdN.whole 0 rfl) fun w1 st => ⟨⟨_, rfl, by
        have hl := st.fresh_le (by simp) (hfr (by simp) (by simp))
        unfold WishOk
        rw [hww]
        exact ⟨_, s.domains.length, _, s.clocks.length, _, s.resets.length, by rw [hwo.d, hwo.c, hwo.l], b1.le hl, b2.le hl, b3.le hl⟩⟩, st.below (by simp)⟩

end Go.Proofs.YtbgibbbggajgaaaGreat
/- The reference's chain of a clock. -/
namespace Go.Proofs.YtbgibbbggajgaaaGreat
set_option linter.all false
open Go.RowKit

theorem refChain_any (q : Piece) (s : Soc) (A1 A2 A3 A4 : Option Addr) (n1 k1 n2 k2 n3 k3 n4 k4 : Nat) (c : Nat) (w : World) (hSP : SocP q s A1 n1 A2 n2 A3 n3 A4 n4) (hm : s.okT) (hq : q.Le (all w)) (hc : c < s.clocks.length) :
    Calls Tryz.prog 51 #[.agg #[.slice A1 n1 k1, .slice A2 n2 k2, .slice A3 n3 k3, .slice A4 n4 k4], .int .i64 (c : Int)] w (RtW (IntsOk (chainL s c)) w) := by
  obtain ⟨rfl, rfl, rfl, rfl⟩ := hSP.len
  refine XK.enter (vs := [.agg #[.slice A1 s.clocks.length k1, .slice A2 s.domains.length k2, .slice A3 s.resets.length k3, .slice A4 s.devs.length k4], .int .i64 (c : Int)]) Tryz.func51 rfl Tryz.ntmps51 (by simp) ?_
  refine XK.piece q (by simp) hq ?_
  refine XK.seq ?_

  refine XK.region ?_
  refine xk_box rfl (by decide) fun g1 => ?_
  refine xk_assign rfl (by decide) ?_
  refine XK.nilN ?_
  refine XK.seq ?_

  refine XK.region ?_
  refine xk_assign rfl (by decide) ?_
  refine XK.nilN ?_
  refine XK.seq ?_
  refine XK.nilrow 3 1 ?_
  refine XK.envS [(1, .int .i64 (c : Int)), (5, .slice none 0 0), (2, .pointer (some ⟨g1, 0, none⟩))] ?_
  refine XK.block ?_
  refine XK.loop (fun m e R H => ∃ (cur : Nat) (l : List Nat) (A : Option Addr) (k : Nat), cur < s.clocks.length ∧ l.length + cur ≤ c ∧ m = s.clocks.length - l.length ∧ chainL s c = l ++ chainN s (s.clocks.length - l.length) cur ∧ e = [(1, .int .i64 (cur : Int)), (5, .slice A l.length k), (2, .pointer (some ⟨g1, 0, none⟩))] ∧ R = [q, all w] ∧ H = [HP.own 3 1 (.slice A l.length k) l.length (intCells (natI l)), HP.blk g1 30 [.slice A1 s.clocks.length k1, .slice A2 s.domains.length k2, .slice A3 s.resets.length k3, .slice A4 s.devs.length k4]]) s.clocks.length ⟨c, [], none, 0, hc, by simp, rfl, rfl, rfl, rfl, rfl⟩ fun m e R H hI => ?_
  obtain ⟨cur, l, A, k, hcur, hll, rfl, hch, rfl, rfl, rfl⟩ := hI
  refine XK.seq ?_
  refine XK.cutB 22 (True) ?_ ?_
  · skip

    refine XK.region ?_
    refine xk_move rfl (by decide) ?_
    refine xk_geq rfl rfl (by decide) ?_
    refine xk_move rfl (by decide) ?_
    (first | refine xk_split (t := 8) rfl (fun hg => ?_) (fun hg => ?_) | refine xk_splitB (t := 8) rfl (fun hg => ?_) (fun hg => ?_))
    ·
      refine xk_guardT rfl rfl ?_; refine xk_move rfl (by decide) ?_
      refine xk_guardT rfl rfl ?_; refine xk_field (off := 0) (by kernel_rfl) rfl (by decide) ?_
      refine xk_guardT rfl rfl ?_; refine xk_ld rfl ?_
      refine xk_guardT rfl rfl ?_; refine xk_len (el := 87) (by kernel_rfl) rfl (by decide) ?_
      refine xk_guardT rfl rfl ?_; refine xk_lss rfl rfl (by decide) ?_
      (first | refine xk_pickT rfl rfl (by decide) ?_ | refine xk_pickF rfl rfl (by decide) ?_)
      refine xk_move rfl (by decide) ?_
      (first | refine xk_split (t := 15) rfl (fun hg => ?_) (fun hg => ?_) | refine xk_splitB (t := 15) rfl (fun hg => ?_) (fun hg => ?_))
      ·
        refine xk_guardT rfl rfl ?_; refine xk_move rfl (by decide) ?_
        refine xk_guardT rfl rfl ?_; refine xk_len (el := 3) (by kernel_rfl) rfl (by decide) ?_
        refine xk_guardT rfl rfl ?_; refine xk_field (off := 0) (by kernel_rfl) rfl (by decide) ?_
        refine xk_guardT rfl rfl ?_; refine xk_ld rfl ?_
        refine xk_guardT rfl rfl ?_; refine xk_len (el := 87) (by kernel_rfl) rfl (by decide) ?_
        refine xk_guardT rfl rfl ?_; refine xk_leq rfl rfl (by decide) ?_
        (first | refine xk_pickT rfl rfl (by decide) ?_ | refine xk_pickF rfl rfl (by decide) ?_)
        refine XK.nilN ?_
        exact XK.meetB (by repeat (first | exact trivial | refine ⟨rfl, ?_⟩)) (get_iff rfl ⟨fun _ => trivial, fun _ => by omega⟩)
      ·
        refine xk_guardF rfl rfl rfl (by decide) ?_
        refine xk_guardF rfl rfl rfl (by decide) ?_
        refine xk_guardF rfl rfl rfl (by decide) ?_
        refine xk_guardF rfl rfl rfl (by decide) ?_
        refine xk_guardF rfl rfl rfl (by decide) ?_
        refine xk_guardF rfl rfl rfl (by decide) ?_
        (first | refine xk_pickT rfl rfl (by decide) ?_ | refine xk_pickF rfl rfl (by decide) ?_)
        refine XK.nilN ?_
        exact XK.meetB (by repeat (first | exact trivial | refine ⟨rfl, ?_⟩)) (by exfalso; omega)
    ·
      refine xk_guardF rfl rfl rfl (by decide) ?_
      refine xk_guardF rfl rfl rfl (by decide) ?_
      refine xk_guardF rfl rfl rfl (by decide) ?_
      refine xk_guardF rfl rfl rfl (by decide) ?_
      refine xk_guardF rfl rfl rfl (by decide) ?_
      (first | refine xk_pickT rfl rfl (by decide) ?_ | refine xk_pickF rfl rfl (by decide) ?_)
      refine xk_move rfl (by decide) ?_
      refine xk_guardF rfl rfl rfl (by decide) ?_
      refine xk_guardF rfl rfl rfl (by decide) ?_
      refine xk_guardF rfl rfl rfl (by decide) ?_
      refine xk_guardF rfl rfl rfl (by decide) ?_
      refine xk_guardF rfl rfl rfl (by decide) ?_
      refine xk_guardF rfl rfl rfl (by decide) ?_
      (first | refine xk_pickT rfl rfl (by decide) ?_ | refine xk_pickF rfl rfl (by decide) ?_)
      refine XK.nilN ?_
      exact XK.meetB (by repeat (first | exact trivial | refine ⟨rfl, ?_⟩)) (by exfalso; omega)
  refine XK.if_ rfl (fun h => ?_) (fun h => ?_)
  ·
    refine XK.skip ?_
    refine XK.norm ?_
    refine XK.block ?_
    refine XK.seq ?_
    have hlt : l.length < s.clocks.length := by omega
    obtain ⟨x, hx⟩ : ∃ x, s.clocks[cur]? = some x := ⟨_, List.getElem?_eq_getElem hcur⟩
    obtain ⟨k0, hk0⟩ : ∃ k0, s.clocks.length - l.length = k0 + 1 := ⟨s.clocks.length - l.length - 1, by omega⟩
    rw [hk0, chainN_cons hx] at hch
    have hn9 := hm.nc
    have hfit := (hm.clocks cur x hx).1

    refine XK.region ?_
    refine xk_move rfl (by decide) ?_
    refine xk_move rfl (by decide) ?_
    refine xk_slice (el := 3) (sz := 1) (zs := [.int .i64 0]) (by kernel_rfl) (zeroB_of (by kernel_rfl)) (by kernel_rfl) rfl (by decide) (by decide) rfl (by simp [fillL, setN, Value.cells, List.range_succ, List.set]; rfl) (by decide) fun g2 => ?_
    refine xk_appendT 1 1 8 1 (n' := l.length + 1) (el := 3) (by kernel_rfl) (by kernel_rfl) (by decide) rfl rfl rfl (sl_blk 0 rfl rfl) (by simp [Value.oneCell']) rfl (by omega) (by omega) (by decide) fun A' k' => ?_
    dsimp only [List.set]
    rw [show intCells (natI l) ++ [Value.int .i64 (cur : Int)] = intCells (natI (l ++ [cur])) by simp [intCells, natI]]
    refine XK.weak [1, 2] rfl (by decide) (R' := [q, all w]) (by simp) ?_
    refine xk_assign rfl (by decide) ?_
    refine XK.nilN ?_
    refine XK.seq ?_
    refine XK.seq ?_
    obtain ⟨bC, oC, rC, rfl, hzC, _, hR, hcC⟩ := hSP.clk.rowP hx
    obtain ⟨As, ns, ks, rfl, rfl, hsr⟩ := hR

    refine XK.region ?_
    refine xk_field (off := 0) (by kernel_rfl) rfl (by decide) ?_
    refine xk_ld rfl ?_
    refine xk_move rfl (by decide) ?_
    refine xk_at (cur) (oC + cur * 6) (el := 87) (sz := 6) (by kernel_rfl) (by kernel_rfl) rfl rfl (by omega) (by omega) (by omega) (by decide) ?_
    refine xk_field (off := 1) (by kernel_rfl) rfl (by decide) ?_
    refine xk_load (by kernel_rfl) rfl (Rd.ro (p := q) (by simp) hzC (hcC 1 _ rfl)) (by decide) ?_
    refine xk_len (el := 3) (by kernel_rfl) rfl (by decide) ?_
    refine xk_eql rfl rfl (by decide) ?_
    refine XK.nilN ?_
    refine XK.if_ rfl (fun h0 => ?_) (fun h0 => ?_)
    ·
      refine XK.seq ?_

      refine XK.region ?_
      refine xk_move rfl (by decide) ?_
      refine xk_assign rfl (by decide) ?_
      refine XK.nilN ?_
      refine XK.ret ?_
      refine XK.norm ?_
      have hs0 : x.src = [] := List.eq_nil_of_length_eq_zero (by have : ((x.src.length : Nat) : Int) = 0 := h0; omega)
      rw [hs0] at hch
      have hfin : (l ++ [cur]) = chainL s c := hch.symm
      refine XK.still [] [0] [] (by simp) rfl (by decide) (by decide) fun qf hqf _ hfr => ?_
      obtain ⟨Ff, sf, zf⟩ := hqf 0 _ (by simp) rfl
      obtain ⟨Av, cv, hv, hsv⟩ := SlS.of_own (Y := qf.Z) sf zf
      exact XK.ret1 rfl rfl fun w1 st => ⟨⟨_, rfl, by
        rw [← hfin]
        unfold IntsOk
        rw [hv]
        exact ⟨Av, cv, by simp, by simpa using SlS.le hsv (st.fresh_le (by simp) (hfr (by simp) (by simp)))⟩⟩, st.below (by simp)⟩
    ·
      refine XK.skip ?_
      refine XK.norm ?_
      obtain ⟨f, fs, hs0⟩ : ∃ f fs, x.src = f :: fs := by
        cases hs0 : x.src with
        | nil => exact absurd (by rw [hs0]; rfl) h0
        | cons f fs => exact ⟨f, fs, rfl⟩
      have hf := hfit f (by rw [hs0]; simp)
      obtain ⟨f', rfl⟩ : ∃ f' : Nat, f = (f' : Int) := ⟨f.toNat, by omega⟩
      rw [hs0] at hch
      obtain ⟨bS, oS, rfl, hzS, hcS⟩ := hsr.2 (by rw [hs0]; simp)

      refine XK.region ?_
      refine xk_field (off := 0) (by kernel_rfl) rfl (by decide) ?_
      refine xk_ld rfl ?_
      refine xk_move rfl (by decide) ?_
      refine xk_at (cur) (oC + cur * 6) (el := 87) (sz := 6) (by kernel_rfl) (by kernel_rfl) rfl rfl (by omega) (by omega) (by omega) (by decide) ?_
      refine xk_field (off := 1) (by kernel_rfl) rfl (by decide) ?_
      refine xk_load (by kernel_rfl) rfl (Rd.ro (p := q) (by simp) hzC (hcC 1 _ rfl)) (by decide) ?_
      refine xk_at 0 oS (el := 3) (sz := 1) (by kernel_rfl) (by kernel_rfl) rfl rfl rfl (by rw [hs0]; simp) (by omega) (by decide) ?_
      refine xk_load (by kernel_rfl) rfl (Rd.ro (p := q) (by simp) hzS (hcS 0 _ (by rw [hs0]; rfl))) (by decide) ?_
      refine xk_assign rfl (by decide) ?_
      refine XK.nilN ?_
      exact XK.envS [(1, .int .i64 (f' : Int)), (5, .slice A' (l.length + 1) k'), (2, .pointer (some ⟨g1, 0, none⟩))] (XK.round (s.clocks.length - (l.length + 1)) (by omega) ⟨f', l ++ [cur], A', k', by omega, by simp; omega, by simp, by rw [hch]; simp [show s.clocks.length - (l.length + 1) = k0 by omega], by simp, rfl, by simp⟩)
  · exact absurd trivial h

end Go.Proofs.YtbgibbbggajgaaaGreat
/- The reference's Wants, of a chip that is made. -/
namespace Go.Proofs.YtbgibbbggajgaaaGreat
set_option linter.all false
open Go.RowKit
theorem putB_same {C : List Bool} {ci : Nat} (h : ci < C.length) : C.set ci (C[ci]?.getD false) = C := by
  rw [List.getElem?_eq_getElem h]
  simp
theorem putAll_step {s : Soc} {ch : List Nat} {k ci : Nat} (d : List Bool) (hci : ch[k]? = some ci) (hl : ci < d.length) :
    (putAll ((ch.take k).filter (swK s)) d).set ci ((putAll ((ch.take k).filter (swK s)) d)[ci]?.getD false || swK s ci) = putAll ((ch.take (k + 1)).filter (swK s)) d := by
  have htk : (ch.take (k + 1)).filter (swK s) = (ch.take k).filter (swK s) ++ (if swK s ci then [ci] else []) := by
    rw [List.take_add_one, hci, List.filter_append]
    cases hsw : swK s ci <;> simp [hsw]
  rw [htk]
  cases hsw : swK s ci
  · rw [Bool.or_false, putB_same (by rw [putAll_len]; exact hl)]; simp
  · simp [putAll, putB, List.foldl_append]

set_option maxHeartbeats 4000000 in
set_option maxRecDepth 10000 in
theorem refWants_any (q : Piece) (s : Soc) (A1 A2 A3 A4 : Option Addr) (n1 k1 n2 k2 n3 k3 n4 k4 : Nat) (Aa : Option Addr) (ca : Nat) (act : List Bool) (w : World) (hSP : SocP q s A1 n1 A2 n2 A3 n3 A4 n4) (hm : s.made) (hq : q.Le (all w)) (hact : SlS (all w) 1 Aa act.length (boolCells act)) (hal : act.length = s.devs.length) :
    Calls Tryz.prog 25 #[.agg #[.slice A1 n1 k1, .slice A2 n2 k2, .slice A3 n3 k3, .slice A4 n4 k4], .slice Aa act.length ca] w (RtW (WishOk (wants s act)) w) := by
  obtain ⟨rfl, rfl, rfl, rfl⟩ := hSP.len
  refine XK.enter (vs := [.agg #[.slice A1 s.clocks.length k1, .slice A2 s.domains.length k2, .slice A3 s.resets.length k3, .slice A4 s.devs.length k4], .slice Aa act.length ca]) Tryz.func25 rfl Tryz.ntmps25 (by simp) ?_
  refine XK.piece q (by simp) hq ?_
  have hn9 := hm.nc
  have hn4 := hm.nd
  have hn3 := hm.nr
  have hnv := hm.nv
  refine XK.seq ?_

  refine XK.region ?_
  refine xk_box rfl (by decide) fun g1 => ?_
  refine xk_alloc (cs := [.slice none 0 0, .slice none 0 0, .slice none 0 0]) (zeroB_of (by kernel_rfl)) (by decide) fun g2 => ?_
  refine XK.nilN ?_
  refine XK.cut (fun e R H => ∃ ga gb gc gw, e = [(5, .pointer (some ⟨gw, 0, none⟩)), (4, .pointer (some ⟨g2, 0, none⟩)), (2, .pointer (some ⟨g1, 0, none⟩)), (1, .slice Aa act.length ca)] ∧ R = [q, all w] ∧ H = [HP.blk gw 66 [.slice (some ⟨ga, 0, none⟩) s.domains.length s.domains.length, .slice (some ⟨gb, 0, none⟩) s.clocks.length s.clocks.length, .slice (some ⟨gc, 0, none⟩) s.resets.length s.resets.length], HP.blk ga 4 (boolCells (zeroW s).d), HP.blk gb 4 (boolCells (zeroW s).c), HP.blk gc 4 (boolCells (zeroW s).l), HP.blk g2 66 [.slice none 0 0, .slice none 0 0, .slice none 0 0], HP.blk g1 30 [.slice A1 s.clocks.length k1, .slice A2 s.domains.length k2, .slice A3 s.resets.length k3, .slice A4 s.devs.length k4]]) ?_ ?_
  ·

    refine XK.draw 14 (by kernel_rfl) (by kernel_rfl) ?_
    refine XA.dA 0 rfl rfl rfl (does_field (off := 1) (by kernel_rfl) rfl) ?_
    refine XA.dA 1 rfl rfl rfl (does_ld rfl) ?_
    refine XA.dA 2 rfl rfl rfl (does_len (el := 89) (by kernel_rfl) rfl) ?_
    refine XA.dA 4 rfl rfl rfl (does_field (off := 0) (by kernel_rfl) rfl) ?_
    refine XA.dA 5 rfl rfl rfl (does_ld rfl) ?_
    refine XA.dA 6 rfl rfl rfl (does_len (el := 87) (by kernel_rfl) rfl) ?_
    refine XA.dA 8 rfl rfl rfl (does_field (off := 2) (by kernel_rfl) rfl) ?_
    refine XA.dA 9 rfl rfl rfl (does_ld rfl) ?_
    refine XA.dA 10 rfl rfl rfl (does_len (el := 91) (by kernel_rfl) rfl) ?_
    refine XA.allocs (fuel := 2) [3, 7, 11, 13] [[3, 7, 11], [3, 7, 11, 13]] (fun i => match i with | 3 => ⟨14, 4, List.replicate s.domains.length (.bool false), fun g => .slice (some ⟨g, 0, none⟩) s.domains.length s.domains.length⟩ | 7 => ⟨18, 4, List.replicate s.clocks.length (.bool false), fun g => .slice (some ⟨g, 0, none⟩) s.clocks.length s.clocks.length⟩ | 11 => ⟨22, 4, List.replicate s.resets.length (.bool false), fun g => .slice (some ⟨g, 0, none⟩) s.resets.length s.resets.length⟩ | _ => ⟨5, 66, [.slice none 0 0, .slice none 0 0, .slice none 0 0], fun g => .pointer (some ⟨g, 0, none⟩)⟩) (fun i hi => ?_) (by show [14, 18, 22, 5].Nodup; decide) (by kernel_rfl) (fun _ h => h) (fun sub hsub hex g => ?_)
    · simp only [List.mem_cons, List.not_mem_nil, or_false] at hi
      rcases hi with rfl | rfl | rfl | rfl
      · exact ALok.of rfl rfl rfl (makes_make 1 (el := 4) (z := .bool false) (by kernel_rfl) (by kernel_rfl) rfl rfl rfl (by omega) (by omega)) (Nat.le_of_ble_eq_true rfl) rfl
      · exact ALok.of rfl rfl rfl (makes_make 1 (el := 4) (z := .bool false) (by kernel_rfl) (by kernel_rfl) rfl rfl rfl (by omega) (by omega)) (Nat.le_of_ble_eq_true rfl) rfl
      · exact ALok.of rfl rfl rfl (makes_make 1 (el := 4) (z := .bool false) (by kernel_rfl) (by kernel_rfl) rfl rfl rfl (by omega) (by omega)) (Nat.le_of_ble_eq_true rfl) rfl
      · exact ALok.of rfl rfl rfl (makes_alloc (zeroB_of (by kernel_rfl))) (Nat.le_of_ble_eq_true rfl) rfl
    have hs2 : sub = [3, 7, 11] ∨ sub = [3, 7, 11, 13] := by simpa using hex
    have er : ∀ n : Nat, List.replicate n (Value.bool false) = boolCells (List.replicate n false) := fun n => by simp [boolCells]
    rcases hs2 with rfl | rfl
    · dsimp only [envA, hpA, markA, List.map, List.foldr, List.cons_append, List.nil_append, List.length_cons, List.length_nil, Nat.reduceAdd, Nat.reduceSub]
      refine XA.do_ 12 rfl rfl rfl (by decide) (does_buildS (zs := [.slice none 0 0, .slice none 0 0, .slice none 0 0]) (L := [(0, 1), (1, 1), (2, 1)]) (zeroB_of (by kernel_rfl)) (by kernel_rfl) rfl (by simp [fillL, setN, Value.cells]; rfl)) (by kernel_rfl) (fun _ _ _ h => h) (fun _ h => h.tail.tail.tail) ?_
      refine XA.next 13 rfl (by kernel_rfl) ?_
      refine xk_alloc (cs := [.slice none 0 0, .slice none 0 0, .slice none 0 0]) (zeroB_of (by kernel_rfl)) (by decide) fun g6 => ?_
      refine XK.nil ?_; refine XK.thenN ?_; refine XA.back (fun _ h => h.tail.tail.tail.tail) ?_
      refine XA.next 14 rfl (by kernel_rfl) ?_
      (first | (refine xk_storeN 0 rfl rfl rfl (by kernel_rfl) (by simp [Value.cells, Value.oneCell']) (by simp [Value.cells]) ?_) | (refine xk_storeN 1 rfl rfl rfl (by kernel_rfl) (by simp [Value.cells, Value.oneCell']) (by simp [Value.cells]) ?_) | (refine xk_storeN 2 rfl rfl rfl (by kernel_rfl) (by simp [Value.cells, Value.oneCell']) (by simp [Value.cells]) ?_) | (refine xk_storeN 3 rfl rfl rfl (by kernel_rfl) (by simp [Value.cells, Value.oneCell']) (by simp [Value.cells]) ?_) | (refine xk_storeN 4 rfl rfl rfl (by kernel_rfl) (by simp [Value.cells, Value.oneCell']) (by simp [Value.cells]) ?_) | (refine xk_storeN 5 rfl rfl rfl (by kernel_rfl) (by simp [Value.cells, Value.oneCell']) (by simp [Value.cells]) ?_) | (refine xk_storeN 6 rfl rfl rfl (by kernel_rfl) (by simp [Value.cells, Value.oneCell']) (by simp [Value.cells]) ?_) | (refine xk_storeN 7 rfl rfl rfl (by kernel_rfl) (by simp [Value.cells, Value.oneCell']) (by simp [Value.cells]) ?_) | (refine xk_storeN 8 rfl rfl rfl (by kernel_rfl) (by simp [Value.cells, Value.oneCell']) (by simp [Value.cells]) ?_)); simp only [putN, Value.cells, List.set, List.take, List.drop, List.nil_append, List.append_nil, List.length_cons, List.length_nil, List.cons_append, Nat.reduceAdd]
      refine XA.bt ?_
      refine XA.done (by kernel_rfl) ?_
      refine XK.norm ?_
      exact XK.weak [0, 1, 2, 3, 4, 5] rfl (by decide) (by simp) (XK.envS [(5, .pointer (some ⟨g6, 0, none⟩)), (4, .pointer (some ⟨g2, 0, none⟩)), (2, .pointer (some ⟨g1, 0, none⟩)), (1, .slice Aa act.length ca)] (XK.meet ⟨g 3, g 7, g 11, g6, rfl, rfl, by simp only [er, zeroW]⟩))
    · dsimp only [envA, hpA, markA, List.map, List.foldr, List.cons_append, List.nil_append, List.length_cons, List.length_nil, Nat.reduceAdd, Nat.reduceSub]
      refine XA.do_ 12 rfl rfl rfl (by decide) (does_buildS (zs := [.slice none 0 0, .slice none 0 0, .slice none 0 0]) (L := [(0, 1), (1, 1), (2, 1)]) (zeroB_of (by kernel_rfl)) (by kernel_rfl) rfl (by simp [fillL, setN, Value.cells]; rfl)) (by kernel_rfl) (fun _ _ _ h => h) (fun _ h => h.tail.tail.tail.tail) ?_
      refine XA.next 14 rfl (by kernel_rfl) ?_
      (first | (refine xk_storeN 0 rfl rfl rfl (by kernel_rfl) (by simp [Value.cells, Value.oneCell']) (by simp [Value.cells]) ?_) | (refine xk_storeN 1 rfl rfl rfl (by kernel_rfl) (by simp [Value.cells, Value.oneCell']) (by simp [Value.cells]) ?_) | (refine xk_storeN 2 rfl rfl rfl (by kernel_rfl) (by simp [Value.cells, Value.oneCell']) (by simp [Value.cells]) ?_) | (refine xk_storeN 3 rfl rfl rfl (by kernel_rfl) (by simp [Value.cells, Value.oneCell']) (by simp [Value.cells]) ?_) | (refine xk_storeN 4 rfl rfl rfl (by kernel_rfl) (by simp [Value.cells, Value.oneCell']) (by simp [Value.cells]) ?_) | (refine xk_storeN 5 rfl rfl rfl (by kernel_rfl) (by simp [Value.cells, Value.oneCell']) (by simp [Value.cells]) ?_) | (refine xk_storeN 6 rfl rfl rfl (by kernel_rfl) (by simp [Value.cells, Value.oneCell']) (by simp [Value.cells]) ?_) | (refine xk_storeN 7 rfl rfl rfl (by kernel_rfl) (by simp [Value.cells, Value.oneCell']) (by simp [Value.cells]) ?_) | (refine xk_storeN 8 rfl rfl rfl (by kernel_rfl) (by simp [Value.cells, Value.oneCell']) (by simp [Value.cells]) ?_)); simp only [putN, Value.cells, List.set, List.take, List.drop, List.nil_append, List.append_nil, List.length_cons, List.length_nil, List.cons_append, Nat.reduceAdd]
      refine XA.bt ?_
      refine XA.done (by kernel_rfl) ?_
      refine XK.norm ?_
      exact XK.weak [3, 0, 1, 2, 4, 5] rfl (by decide) (by simp) (XK.envS [(5, .pointer (some ⟨g 13, 0, none⟩)), (4, .pointer (some ⟨g2, 0, none⟩)), (2, .pointer (some ⟨g1, 0, none⟩)), (1, .slice Aa act.length ca)] (XK.meet ⟨g 3, g 7, g 11, g 13, rfl, rfl, by simp only [er, zeroW]⟩))

  rintro _ _ _ ⟨ga, gb, gc, gw, rfl, rfl, rfl⟩
  refine XK.seq ?_
  refine XK.seq ?_

  refine XK.region ?_
  refine xk_assign rfl (by decide) ?_
  refine XK.nilN ?_
  refine XK.envS [(6, .int .i64 0), (5, .pointer (some ⟨gw, 0, none⟩)), (4, .pointer (some ⟨g2, 0, none⟩)), (2, .pointer (some ⟨g1, 0, none⟩)), (1, .slice Aa act.length ca)] ?_
  refine XK.block ?_
  refine XK.loop (fun m e R H => ∃ (j : Nat), j ≤ s.devs.length ∧ m = s.devs.length - j ∧ e = [(6, .int .i64 j), (5, .pointer (some ⟨gw, 0, none⟩)), (4, .pointer (some ⟨g2, 0, none⟩)), (2, .pointer (some ⟨g1, 0, none⟩)), (1, .slice Aa act.length ca)] ∧ R = [q, all w] ∧ H = [HP.blk gw 66 [.slice (some ⟨ga, 0, none⟩) s.domains.length s.domains.length, .slice (some ⟨gb, 0, none⟩) s.clocks.length s.clocks.length, .slice (some ⟨gc, 0, none⟩) s.resets.length s.resets.length], HP.blk ga 4 (boolCells (wantN s act j).d), HP.blk gb 4 (boolCells (wantN s act j).c), HP.blk gc 4 (boolCells (wantN s act j).l), HP.blk g2 66 [.slice none 0 0, .slice none 0 0, .slice none 0 0], HP.blk g1 30 [.slice A1 s.clocks.length k1, .slice A2 s.domains.length k2, .slice A3 s.resets.length k3, .slice A4 s.devs.length k4]]) s.devs.length ⟨0, by omega, rfl, rfl, rfl, rfl⟩ fun m e R H hI => ?_
  obtain ⟨j, hj, rfl, rfl, rfl, rfl⟩ := hI
  refine XK.seq ?_
  refine XK.cutB 34 (j < s.devs.length) ?_ ?_
  · skip

    refine XK.region ?_
    refine xk_move rfl (by decide) ?_
    refine xk_field (off := 3) (by kernel_rfl) rfl (by decide) ?_
    refine xk_ld rfl ?_
    refine xk_len (el := 94) (by kernel_rfl) rfl (by decide) ?_
    refine xk_lss rfl rfl (by decide) ?_
    refine xk_move rfl (by decide) ?_
    (first | refine xk_split (t := 29) rfl (fun hg => ?_) (fun hg => ?_) | refine xk_splitB (t := 29) rfl (fun hg => ?_) (fun hg => ?_))
    ·
      refine xk_guardT rfl rfl ?_; refine xk_move rfl (by decide) ?_
      refine xk_guardT rfl rfl ?_; refine xk_move rfl (by decide) ?_
      refine xk_guardT rfl rfl ?_; refine xk_len (el := 4) (by kernel_rfl) rfl (by decide) ?_
      refine xk_guardT rfl rfl ?_; refine xk_lss rfl rfl (by decide) ?_
      (first | refine xk_pickT rfl rfl (by decide) ?_ | refine xk_pickF rfl rfl (by decide) ?_)
      refine XK.nilN ?_
      exact XK.meetB (by repeat (first | exact trivial | refine ⟨rfl, ?_⟩)) (by first | (refine get_iff rfl ?_; omega) | (refine get_iff rfl ?_; simp_all; done) | (refine get_false rfl ?_; first | omega | (simp_all; done)) | (refine get_true rfl ?_; first | omega | (simp_all; done)) | (refine get_bool rfl ?_; simp_all; done) | (refine get_iff rfl ⟨fun hh => ?_, fun hh => ?_⟩ <;> first | omega | (simp_all; done) | (simp_all; omega)) | (exfalso; omega))
    ·
      refine xk_guardF rfl rfl rfl (by decide) ?_
      refine xk_guardF rfl rfl rfl (by decide) ?_
      refine xk_guardF rfl rfl rfl (by decide) ?_
      refine xk_guardF rfl rfl rfl (by decide) ?_
      (first | refine xk_pickT rfl rfl (by decide) ?_ | refine xk_pickF rfl rfl (by decide) ?_)
      refine XK.nilN ?_
      exact XK.meetB (by repeat (first | exact trivial | refine ⟨rfl, ?_⟩)) (by first | (refine get_iff rfl ?_; omega) | (refine get_iff rfl ?_; simp_all; done) | (refine get_false rfl ?_; first | omega | (simp_all; done)) | (refine get_true rfl ?_; first | omega | (simp_all; done)) | (refine get_bool rfl ?_; simp_all; done) | (refine get_iff rfl ⟨fun hh => ?_, fun hh => ?_⟩ <;> first | omega | (simp_all; done) | (simp_all; omega)) | (exfalso; omega))
  refine XK.if_ rfl (fun hjl => ?_) (fun hjl => ?_)
  ·
    refine XK.skip ?_
    refine XK.norm ?_
    refine XK.seq ?_
    refine XK.block ?_
    refine XK.seq ?_
    refine XK.seq ?_
    obtain ⟨av, hav⟩ : ∃ av, act[j]? = some av := ⟨_, List.getElem?_eq_getElem (by omega)⟩
    obtain ⟨bA, oA, rfl, hzA, hcA⟩ := hact.2 (by omega)
    have hacv : hasB act j = av := by unfold hasB; rw [hav]; rfl
    obtain ⟨x, hx⟩ : ∃ x, s.devs[j]? = some x := ⟨_, List.getElem?_eq_getElem hjl⟩
    obtain ⟨hx1, hx2, hx3, hx4, hx5, hx6, _⟩ := hm.devs j x hx
    obtain ⟨bV, oV, rV, rfl, hzV, _, hR, hcV⟩ := hSP.dev.rowP hx
    obtain ⟨Ar, nr, kr, An, nn, kn, rfl, _⟩ := hR
    have hwo := wantN_of s act j
    obtain ⟨xc, hxc⟩ : ∃ xc : Nat, x.clock = (xc : Int) := ⟨x.clock.toNat, by omega⟩
    obtain ⟨xd, hxd⟩ : ∃ xd : Nat, x.domain = (xd : Int) := ⟨x.domain.toNat, by omega⟩
    obtain ⟨xr, hxr⟩ : ∃ xr : Nat, x.reset = (xr : Int) := ⟨x.reset.toNat, by omega⟩
    have hnx : hasB act j = true → wantN s act (j + 1) = ⟨putAll (ups s xd) (wantN s act j).d, putAll ((chainL s xc).filter (swK s)) (wantN s act j).c, putB (wantN s act j).l (xr : Int) true⟩ := fun ha => by
      rw [wantN_next hx ha, wantStep, hxd, hxc, hxr]; rfl
    rw [hxc, hxd, hxr] at hcV
    generalize hwj : wantN s act j = wj at *

    refine XK.region ?_
    refine xk_move rfl (by decide) ?_
    refine xk_move rfl (by decide) ?_
    refine xk_at (j) (oA + j) (el := 4) (sz := 1) (by kernel_rfl) (by kernel_rfl) rfl rfl (by omega) (by omega) (by omega) (by decide) ?_
    refine xk_load (by kernel_rfl) rfl (Rd.ro (p := all w) (by simp) hzA (hcA j _ (boolCells_at hav))) (by decide) ?_
    refine xk_not rfl (by decide) ?_
    refine XK.nilN ?_
    refine XK.cond rfl (fun hb => ?_) (fun hb => ?_)
    ·
      refine XK.exit ?_
      refine XK.norm ?_

      refine XK.region ?_
      refine xk_move rfl (by decide) ?_
      refine xk_add rfl rfl (wrap_in (by omega)) (by decide) ?_
      refine xk_assign rfl (by decide) ?_
      refine XK.nilN ?_
      have hno : hasB act j = false := by rw [hacv]; simpa using hb
      exact XK.envS [(6, .int .i64 ((j : Int) + 1)), (5, .pointer (some ⟨gw, 0, none⟩)), (4, .pointer (some ⟨g2, 0, none⟩)), (2, .pointer (some ⟨g1, 0, none⟩)), (1, .slice (some ⟨bA, oA, none⟩) act.length ca)] (XK.round (s.devs.length - (j + 1)) (by omega) ⟨j + 1, by omega, rfl, rfl, rfl, by rw [wantN_skip hno, hwj]⟩)
    ·
      refine XK.skip ?_
      refine XK.norm ?_
      refine XK.seq ?_
      have hyes : hasB act j = true := by rw [hacv]; simpa using hb
      have hnx := hnx hyes

      refine XK.region ?_
      refine xk_field (off := 3) (by kernel_rfl) rfl (by decide) ?_
      refine xk_ld rfl ?_
      refine xk_move rfl (by decide) ?_
      refine xk_at (j) (oV + j * 6) (el := 94) (sz := 6) (by kernel_rfl) (by kernel_rfl) rfl rfl (by omega) (by omega) (by omega) (by decide) ?_
      refine xk_loadN 6 (by kernel_rfl) rfl (RdN.of (vs := [.int .i64 (xc : Int), .int .i64 (xd : Int), .int .i64 (xr : Int), .int .u32 x.clamp, .slice Ar nr kr, .slice An nn kn]) fun f v hf => Rd.ro (p := q) (by simp) hzV (hcV f v hf)) rfl (by decide) ?_
      refine xk_alloc (cs := [.int .i64 0, .int .i64 0, .int .i64 0, .int .u32 0, .slice none 0 0, .slice none 0 0]) (zeroB_of (by kernel_rfl)) (by decide) fun g7 => ?_
      (first | (refine xk_storeN 0 rfl rfl rfl (by kernel_rfl) (by simp [Value.cells, Value.oneCell']) (by simp [Value.cells]) ?_) | (refine xk_storeN 1 rfl rfl rfl (by kernel_rfl) (by simp [Value.cells, Value.oneCell']) (by simp [Value.cells]) ?_) | (refine xk_storeN 2 rfl rfl rfl (by kernel_rfl) (by simp [Value.cells, Value.oneCell']) (by simp [Value.cells]) ?_) | (refine xk_storeN 3 rfl rfl rfl (by kernel_rfl) (by simp [Value.cells, Value.oneCell']) (by simp [Value.cells]) ?_) | (refine xk_storeN 4 rfl rfl rfl (by kernel_rfl) (by simp [Value.cells, Value.oneCell']) (by simp [Value.cells]) ?_) | (refine xk_storeN 5 rfl rfl rfl (by kernel_rfl) (by simp [Value.cells, Value.oneCell']) (by simp [Value.cells]) ?_) | (refine xk_storeN 6 rfl rfl rfl (by kernel_rfl) (by simp [Value.cells, Value.oneCell']) (by simp [Value.cells]) ?_) | (refine xk_storeN 7 rfl rfl rfl (by kernel_rfl) (by simp [Value.cells, Value.oneCell']) (by simp [Value.cells]) ?_) | (refine xk_storeN 8 rfl rfl rfl (by kernel_rfl) (by simp [Value.cells, Value.oneCell']) (by simp [Value.cells]) ?_)); simp only [putN, Value.cells, List.set, List.take, List.drop, List.nil_append, List.append_nil, List.length_cons, List.length_nil, List.cons_append, Nat.reduceAdd]
      refine XK.nilN ?_
      refine XK.seq ?_
      refine XK.seq ?_

      refine XK.region ?_
      refine xk_field (off := 1) (by kernel_rfl) rfl (by decide) ?_
      refine xk_ld rfl ?_
      refine xk_assign rfl (by decide) ?_
      refine XK.nilN ?_
      refine XK.envS [(8, .int .i64 (xd : Int)), (7, .pointer (some ⟨g7, 0, none⟩)), (6, .int .i64 j), (5, .pointer (some ⟨gw, 0, none⟩)), (4, .pointer (some ⟨g2, 0, none⟩)), (2, .pointer (some ⟨g1, 0, none⟩)), (1, .slice (some ⟨bA, oA, none⟩) act.length ca)] ?_
      refine XK.block ?_
      refine XK.loop (fun m e R H => ∃ (cur : Int) (rest : List Nat) (d : List Bool), m = rest.length ∧ UpsR s cur rest ∧ d.length = s.domains.length ∧ putAll rest d = putAll (ups s xd) wj.d ∧ e = [(8, .int .i64 cur), (7, .pointer (some ⟨g7, 0, none⟩)), (6, .int .i64 j), (5, .pointer (some ⟨gw, 0, none⟩)), (4, .pointer (some ⟨g2, 0, none⟩)), (2, .pointer (some ⟨g1, 0, none⟩)), (1, .slice (some ⟨bA, oA, none⟩) act.length ca)] ∧ R = [q, all w] ∧ H = [HP.blk g7 94 [.int .i64 (xc : Int), .int .i64 (xd : Int), .int .i64 (xr : Int), .int .u32 x.clamp, .slice Ar nr kr, .slice An nn kn], HP.blk gw 66 [.slice (some ⟨ga, 0, none⟩) s.domains.length s.domains.length, .slice (some ⟨gb, 0, none⟩) s.clocks.length s.clocks.length, .slice (some ⟨gc, 0, none⟩) s.resets.length s.resets.length], HP.blk ga 4 (boolCells d), HP.blk gb 4 (boolCells wj.c), HP.blk gc 4 (boolCells wj.l), HP.blk g2 66 [.slice none 0 0, .slice none 0 0, .slice none 0 0], HP.blk g1 30 [.slice A1 s.clocks.length k1, .slice A2 s.domains.length k2, .slice A3 s.resets.length k3, .slice (some ⟨bV, oV, none⟩) s.devs.length k4]]) (ups s xd).length ⟨_, ups s xd, wj.d, rfl, ups_R hm (by omega), hwo.d, rfl, rfl, rfl, rfl⟩ fun m e R H hI => ?_
      obtain ⟨cur, rest, d, rfl, hur, hdl, hpd, rfl, rfl, rfl⟩ := hI
      refine XK.seq ?_
      refine XK.seq ?_

      refine XK.region ?_
      refine xk_move rfl (by decide) ?_
      refine xk_geq rfl rfl (by decide) ?_
      refine XK.nilN ?_
      refine XK.if_ rfl (fun h => ?_) (fun h => ?_)
      ·
        refine XK.skip ?_
        refine XK.norm ?_
        refine XK.seq ?_
        obtain ⟨i, r, rfl⟩ : ∃ i r, rest = i :: r := by
          cases rest with
          | nil => exact absurd (show (0 : Int) ≤ cur from h) (by have h2 : cur = -1 := hur; omega)
          | cons i r => exact ⟨i, r, rfl⟩
        obtain ⟨rfl, dm, hdm, hur⟩ := hur
        have hil := (List.getElem?_eq_some_iff.1 hdm).1
        refine XK.block ?_

        refine XK.region ?_
        refine xk_field (off := 0) (by kernel_rfl) rfl (by decide) ?_
        refine xk_ld rfl ?_
        refine xk_move rfl (by decide) ?_
        refine xk_at (i) (i) (el := 4) (sz := 1) (by kernel_rfl) (by kernel_rfl) rfl rfl (by omega) (by omega) (by omega) (by decide) ?_
        refine xk_store 2 rfl (by kernel_rfl) rfl rfl rfl (by rw [boolCells_len]; omega) ?_
        dsimp only [List.set]
        rw [boolCells_set, show d.set i true = putB d (i : Int) true by simp [putB]]
        refine XK.nilN ?_
        obtain ⟨bD, oD, rD, rfl, hzD, _, rfl, hcD⟩ := hSP.dom.rowP hdm

        refine XK.region ?_
        refine xk_field (off := 1) (by kernel_rfl) rfl (by decide) ?_
        refine xk_ld rfl ?_
        refine xk_move rfl (by decide) ?_
        refine xk_at (i) (oD + i * 3) (el := 89) (sz := 3) (by kernel_rfl) (by kernel_rfl) rfl rfl (by omega) (by omega) (by omega) (by decide) ?_
        refine xk_field (off := 0) (by kernel_rfl) rfl (by decide) ?_
        refine xk_load (by kernel_rfl) rfl (Rd.ro (p := q) (by simp) hzD (hcD 0 _ rfl)) (by decide) ?_
        refine xk_assign rfl (by decide) ?_
        refine XK.nilN ?_
        exact XK.envS [(8, .int .i64 dm.above), (7, .pointer (some ⟨g7, 0, none⟩)), (6, .int .i64 j), (5, .pointer (some ⟨gw, 0, none⟩)), (4, .pointer (some ⟨g2, 0, none⟩)), (2, .pointer (some ⟨g1, 0, none⟩)), (1, .slice (some ⟨bA, oA, none⟩) act.length ca)] (XK.round r.length (by simp) ⟨dm.above, r, putB d (i : Int) true, rfl, hur, by rw [putB_len]; exact hdl, by rw [← hpd]; rfl, rfl, rfl, rfl⟩)
      ·
        refine XK.exit ?_
        refine XK.norm ?_
        refine XK.seq ?_
        obtain rfl : rest = [] := by
          cases rest with
          | nil => rfl
          | cons i r => exact absurd (show (0 : Int) ≤ cur by have := hur.1; omega) h
        have hpd : d = putAll (ups s xd) wj.d := hpd

        refine XK.region ?_
        refine xk_ldN 4 rfl ?_
        refine xk_field (off := 0) (by kernel_rfl) rfl (by decide) ?_
        refine xk_ld rfl ?_
        refine xk_call [] (f := 51) (fi := []) (ca := []) (by kernel_rfl) rfl rfl (by decide) (by simp) (IntsOk (chainL s xc)) (fun w1 st => refChain_any q s A1 A2 A3 (some ⟨bV, oV, none⟩) _ k1 _ k2 _ k3 _ k4 xc w1 hSP hm.okT (st.le (by simp)) (by omega)) ?_
        rintro _ w1 qc ⟨Ac, cc, rfl, hsc⟩ hf _ _
        have hsc := hsc.le hf
        have hcin := fun i (hi : i ∈ chainL s xc) => chainN_in s _ _ i hi
        have hcl : (chainL s xc).length ≤ s.clocks.length := chainN_len s _ _
        clear hf
        generalize hch : chainL s xc = ch at *
        refine xk_assign rfl (by decide) ?_
        refine XK.nilN ?_
        refine XK.seq ?_
        refine XK.seq ?_

        refine XK.region ?_
        refine xk_assign rfl (by decide) ?_
        refine XK.nilN ?_
        refine XK.envS [(10, .int .i64 0), (9, .slice Ac ch.length cc), (7, .pointer (some ⟨g7, 0, none⟩)), (6, .int .i64 j), (5, .pointer (some ⟨gw, 0, none⟩)), (4, .pointer (some ⟨g2, 0, none⟩)), (2, .pointer (some ⟨g1, 0, none⟩)), (1, .slice (some ⟨bA, oA, none⟩) act.length ca)] ?_
        refine XK.block ?_
        refine XK.loop (fun m e R H => ∃ (k : Nat), k ≤ ch.length ∧ m = ch.length - k ∧ e = [(10, .int .i64 k), (9, .slice Ac ch.length cc), (7, .pointer (some ⟨g7, 0, none⟩)), (6, .int .i64 j), (5, .pointer (some ⟨gw, 0, none⟩)), (4, .pointer (some ⟨g2, 0, none⟩)), (2, .pointer (some ⟨g1, 0, none⟩)), (1, .slice (some ⟨bA, oA, none⟩) act.length ca)] ∧ R = [qc, q, all w] ∧ H = [HP.blk g7 94 [.int .i64 (xc : Int), .int .i64 (xd : Int), .int .i64 (xr : Int), .int .u32 x.clamp, .slice Ar nr kr, .slice An nn kn], HP.blk gw 66 [.slice (some ⟨ga, 0, none⟩) s.domains.length s.domains.length, .slice (some ⟨gb, 0, none⟩) s.clocks.length s.clocks.length, .slice (some ⟨gc, 0, none⟩) s.resets.length s.resets.length], HP.blk ga 4 (boolCells d), HP.blk gb 4 (boolCells (putAll ((ch.take k).filter (swK s)) wj.c)), HP.blk gc 4 (boolCells wj.l), HP.blk g2 66 [.slice none 0 0, .slice none 0 0, .slice none 0 0], HP.blk g1 30 [.slice A1 s.clocks.length k1, .slice A2 s.domains.length k2, .slice A3 s.resets.length k3, .slice (some ⟨bV, oV, none⟩) s.devs.length k4]]) ch.length ⟨0, by omega, rfl, rfl, rfl, rfl⟩ fun m e R H hI => ?_
        obtain ⟨k, hk, rfl, rfl, rfl, rfl⟩ := hI
        refine XK.seq ?_
        refine XK.seq ?_

        refine XK.region ?_
        refine xk_move rfl (by decide) ?_
        refine xk_move rfl (by decide) ?_
        refine xk_len (el := 3) (by kernel_rfl) rfl (by decide) ?_
        refine xk_lss rfl rfl (by decide) ?_
        refine XK.nilN ?_
        refine XK.if_ rfl (fun h => ?_) (fun h => ?_)
        ·
          refine XK.skip ?_
          refine XK.norm ?_
          have hkl : k < ch.length := by have h' : (k : Int) < (ch.length : Int) := h; omega
          obtain ⟨ci, hci⟩ : ∃ ci, ch[k]? = some ci := ⟨_, List.getElem?_eq_getElem hkl⟩
          have hcil := hcin ci (List.mem_of_getElem? hci)
          obtain ⟨ck, hck⟩ : ∃ ck, s.clocks[ci]? = some ck := ⟨_, List.getElem?_eq_getElem hcil⟩
          obtain ⟨bI, oI, rfl, hzI, hcI⟩ := hsc.2 (by omega)
          obtain ⟨bC, oC, rC, rfl, hzC, _, hR2, hcC⟩ := hSP.clk.rowP hck
          obtain ⟨As, ns, ks, rfl, _⟩ := hR2
          have hswv : swK s ci = decide (ck.kind = 112 ∨ ck.kind = 103) := by unfold swK; rw [hck]
          have hwc := hwo.c
          have hstep := putAll_step (s := s) wj.c hci (by omega)
          obtain ⟨C, hC⟩ : ∃ C, C = putAll ((ch.take k).filter (swK s)) wj.c := ⟨_, rfl⟩
          have hcpl : C.length = s.clocks.length := by rw [hC, putAll_len]; exact hwo.c
          rw [← hC] at hstep ⊢
          have hCv : (boolCells C)[ci]? = some (.bool (C[ci]?.getD false)) := by
            have e9 := List.getElem?_eq_getElem (l := C) (i := ci) (by omega)
            rw [e9]; exact boolCells_at e9
          generalize hcv : C[ci]?.getD false = cv at hstep hCv
          refine XK.cut (fun e R H => e = [(10, .int .i64 k), (9, .slice (some ⟨bI, oI, none⟩) ch.length cc), (7, .pointer (some ⟨g7, 0, none⟩)), (6, .int .i64 j), (5, .pointer (some ⟨gw, 0, none⟩)), (4, .pointer (some ⟨g2, 0, none⟩)), (2, .pointer (some ⟨g1, 0, none⟩)), (1, .slice (some ⟨bA, oA, none⟩) act.length ca)] ∧ R = [qc, q, all w] ∧ H = [HP.blk g7 94 [.int .i64 (xc : Int), .int .i64 (xd : Int), .int .i64 (xr : Int), .int .u32 x.clamp, .slice Ar nr kr, .slice An nn kn], HP.blk gw 66 [.slice (some ⟨ga, 0, none⟩) s.domains.length s.domains.length, .slice (some ⟨gb, 0, none⟩) s.clocks.length s.clocks.length, .slice (some ⟨gc, 0, none⟩) s.resets.length s.resets.length], HP.blk ga 4 (boolCells d), HP.blk gb 4 (boolCells (putAll ((ch.take (k + 1)).filter (swK s)) wj.c)), HP.blk gc 4 (boolCells wj.l), HP.blk g2 66 [.slice none 0 0, .slice none 0 0, .slice none 0 0], HP.blk g1 30 [.slice (some ⟨bC, oC, none⟩) s.clocks.length k1, .slice A2 s.domains.length k2, .slice A3 s.resets.length k3, .slice (some ⟨bV, oV, none⟩) s.devs.length k4]]) ?_ ?_
          ·
            refine XK.block ?_

            refine XK.draw 38 (by kernel_rfl) (by kernel_rfl) ?_
            refine XA.dA 0 rfl rfl rfl (does_field (off := 1) (by kernel_rfl) rfl) ?_
            refine XA.dA 1 rfl rfl rfl (does_ld rfl) ?_
            refine XA.dA 2 rfl rfl rfl (does_move rfl) ?_
            refine XA.dA 3 rfl rfl rfl (does_move rfl) ?_
            refine XA.dA 4 rfl rfl rfl (does_at k (oI + k) (el := 3) (sz := 1) (by kernel_rfl) (by kernel_rfl) rfl rfl (by omega) (by omega) (by omega)) ?_
            refine XA.dA 5 rfl rfl rfl (does_load (by kernel_rfl) rfl (Rd.ro (p := qc) (by simp) hzI (hcI k _ (natI_get hci)))) ?_
            refine XA.dA 6 rfl rfl rfl (does_field (off := 1) (by kernel_rfl) rfl) ?_
            refine XA.dA 7 rfl rfl rfl (does_ld rfl) ?_
            refine XA.dA 8 rfl rfl rfl (does_move rfl) ?_
            refine XA.dA 9 rfl rfl rfl (does_move rfl) ?_
            refine XA.dA 10 rfl rfl rfl (does_at k (oI + k) (el := 3) (sz := 1) (by kernel_rfl) (by kernel_rfl) rfl rfl (by omega) (by omega) (by omega)) ?_
            refine XA.dA 11 rfl rfl rfl (does_load (by kernel_rfl) rfl (Rd.ro (p := qc) (by simp) hzI (hcI k _ (natI_get hci)))) ?_
            refine XA.dA 12 rfl rfl rfl (does_at ci ci (el := 4) (sz := 1) (by kernel_rfl) (by kernel_rfl) rfl rfl (by omega) (by omega) (by omega)) ?_
            refine XA.dA 13 rfl rfl rfl (does_load (by kernel_rfl) rfl (Rd.blk 3 rfl hCv)) ?_
            refine XA.dA 14 rfl rfl rfl (does_move rfl) ?_
            refine XA.splitB (t := 85) rfl (fun hg1 => ?_) (fun hg1 => ?_)
            ·
              refine XA.dF 15 rfl rfl rfl rfl ?_
              refine XA.dF 16 rfl rfl rfl rfl ?_
              refine XA.dF 17 rfl rfl rfl rfl ?_
              refine XA.dF 18 rfl rfl rfl rfl ?_
              refine XA.dF 19 rfl rfl rfl rfl ?_
              refine XA.dF 20 rfl rfl rfl rfl ?_
              refine XA.dF 21 rfl rfl rfl rfl ?_
              refine XA.dF 22 rfl rfl rfl rfl ?_
              refine XA.dF 23 rfl rfl rfl rfl ?_
              refine XA.dF 24 rfl rfl rfl rfl ?_
              refine XA.dA 25 rfl rfl rfl (by first | exact does_pickT rfl rfl | exact does_pickF rfl rfl) ?_
              refine XA.dA 26 rfl rfl rfl (does_move rfl) ?_
              refine XA.dF 27 rfl rfl rfl rfl ?_
              refine XA.dF 28 rfl rfl rfl rfl ?_
              refine XA.dF 29 rfl rfl rfl rfl ?_
              refine XA.dF 30 rfl rfl rfl rfl ?_
              refine XA.dF 31 rfl rfl rfl rfl ?_
              refine XA.dF 32 rfl rfl rfl rfl ?_
              refine XA.dF 33 rfl rfl rfl rfl ?_
              refine XA.dF 34 rfl rfl rfl rfl ?_
              refine XA.dF 35 rfl rfl rfl rfl ?_
              refine XA.dF 36 rfl rfl rfl rfl ?_
              refine XA.dA 37 rfl rfl rfl (by first | exact does_pickT rfl rfl | exact does_pickF rfl rfl) ?_
              refine XA.next 38 rfl (by kernel_rfl) ?_
              refine xk_at ci ci (el := 4) (sz := 1) (by kernel_rfl) (by kernel_rfl) rfl rfl (by omega) (by omega) (by omega) (by decide) ?_
              refine XA.bt ?_
              refine XA.next 39 rfl (by kernel_rfl) ?_
              refine xk_store 3 rfl (by kernel_rfl) rfl rfl rfl (by rw [boolCells_len]; omega) ?_
              dsimp only [List.set]
              rw [boolCells_set, show C.set ci true = putAll ((ch.take (k + 1)).filter (swK s)) wj.c by rw [← hstep, hswv]; rw [hg1]; rfl]
              refine XA.bt ?_
              refine XA.done (by kernel_rfl) ?_
              refine XK.norm ?_
              exact XK.envS [(10, .int .i64 k), (9, .slice (some ⟨bI, oI, none⟩) ch.length cc), (7, .pointer (some ⟨g7, 0, none⟩)), (6, .int .i64 j), (5, .pointer (some ⟨gw, 0, none⟩)), (4, .pointer (some ⟨g2, 0, none⟩)), (2, .pointer (some ⟨g1, 0, none⟩)), (1, .slice (some ⟨bA, oA, none⟩) act.length ca)] (XK.meet ⟨rfl, rfl, rfl⟩)
            ·
              refine XA.dT 15 rfl rfl rfl (does_field (off := 0) (by kernel_rfl) rfl) ?_
              refine XA.dT 16 rfl rfl rfl (does_ld rfl) ?_
              refine XA.dT 17 rfl rfl rfl (does_move rfl) ?_
              refine XA.dT 18 rfl rfl rfl (does_move rfl) ?_
              refine XA.dT 19 rfl rfl rfl (does_at k (oI + k) (el := 3) (sz := 1) (by kernel_rfl) (by kernel_rfl) rfl rfl (by omega) (by omega) (by omega)) ?_
              refine XA.dT 20 rfl rfl rfl (does_load (by kernel_rfl) rfl (Rd.ro (p := qc) (by simp) hzI (hcI k _ (natI_get hci)))) ?_
              refine XA.dT 21 rfl rfl rfl (does_at ci (oC + ci * 6) (el := 87) (sz := 6) (by kernel_rfl) (by kernel_rfl) rfl rfl (by omega) (by omega) (by omega)) ?_
              refine XA.dT 22 rfl rfl rfl (does_field (off := 0) (by kernel_rfl) rfl) ?_
              refine XA.dT 23 rfl rfl rfl (does_load (by kernel_rfl) rfl (Rd.ro (p := q) (by simp) hzC (hcC 0 _ rfl))) ?_
              refine XA.dT 24 rfl rfl rfl (does_eql rfl rfl) ?_
              refine XA.dA 25 rfl rfl rfl (by first | exact does_pickT rfl rfl | exact does_pickF rfl rfl) ?_
              refine XA.dA 26 rfl rfl rfl (does_move rfl) ?_
              refine XA.split (t := 97) rfl (fun hg2 => ?_) (fun hg2 => ?_)
              ·
                refine XA.dF 27 rfl rfl rfl rfl ?_
                refine XA.dF 28 rfl rfl rfl rfl ?_
                refine XA.dF 29 rfl rfl rfl rfl ?_
                refine XA.dF 30 rfl rfl rfl rfl ?_
                refine XA.dF 31 rfl rfl rfl rfl ?_
                refine XA.dF 32 rfl rfl rfl rfl ?_
                refine XA.dF 33 rfl rfl rfl rfl ?_
                refine XA.dF 34 rfl rfl rfl rfl ?_
                refine XA.dF 35 rfl rfl rfl rfl ?_
                refine XA.dF 36 rfl rfl rfl rfl ?_
                refine XA.dA 37 rfl rfl rfl (by first | exact does_pickT rfl rfl | exact does_pickF rfl rfl) ?_
                refine XA.next 38 rfl (by kernel_rfl) ?_
                refine xk_at ci ci (el := 4) (sz := 1) (by kernel_rfl) (by kernel_rfl) rfl rfl (by omega) (by omega) (by omega) (by decide) ?_
                refine XA.bt ?_
                refine XA.next 39 rfl (by kernel_rfl) ?_
                refine xk_store 3 rfl (by kernel_rfl) rfl rfl rfl (by rw [boolCells_len]; omega) ?_
                dsimp only [List.set]
                rw [boolCells_set, show C.set ci true = putAll ((ch.take (k + 1)).filter (swK s)) wj.c by rw [← hstep, hswv]; rw [hg1]; simp [hg2]]
                refine XA.bt ?_
                refine XA.done (by kernel_rfl) ?_
                refine XK.norm ?_
                exact XK.envS [(10, .int .i64 k), (9, .slice (some ⟨bI, oI, none⟩) ch.length cc), (7, .pointer (some ⟨g7, 0, none⟩)), (6, .int .i64 j), (5, .pointer (some ⟨gw, 0, none⟩)), (4, .pointer (some ⟨g2, 0, none⟩)), (2, .pointer (some ⟨g1, 0, none⟩)), (1, .slice (some ⟨bA, oA, none⟩) act.length ca)] (XK.meet ⟨rfl, rfl, rfl⟩)
              ·
                refine XA.dT 27 rfl rfl rfl (does_field (off := 0) (by kernel_rfl) rfl) ?_
                refine XA.dT 28 rfl rfl rfl (does_ld rfl) ?_
                refine XA.dT 29 rfl rfl rfl (does_move rfl) ?_
                refine XA.dT 30 rfl rfl rfl (does_move rfl) ?_
                refine XA.dT 31 rfl rfl rfl (does_at k (oI + k) (el := 3) (sz := 1) (by kernel_rfl) (by kernel_rfl) rfl rfl (by omega) (by omega) (by omega)) ?_
                refine XA.dT 32 rfl rfl rfl (does_load (by kernel_rfl) rfl (Rd.ro (p := qc) (by simp) hzI (hcI k _ (natI_get hci)))) ?_
                refine XA.dT 33 rfl rfl rfl (does_at ci (oC + ci * 6) (el := 87) (sz := 6) (by kernel_rfl) (by kernel_rfl) rfl rfl (by omega) (by omega) (by omega)) ?_
                refine XA.dT 34 rfl rfl rfl (does_field (off := 0) (by kernel_rfl) rfl) ?_
                refine XA.dT 35 rfl rfl rfl (does_load (by kernel_rfl) rfl (Rd.ro (p := q) (by simp) hzC (hcC 0 _ rfl))) ?_
                refine XA.dT 36 rfl rfl rfl (does_eql rfl rfl) ?_
                refine XA.dA 37 rfl rfl rfl (by first | exact does_pickT rfl rfl | exact does_pickF rfl rfl) ?_
                refine XA.next 38 rfl (by kernel_rfl) ?_
                refine xk_at ci ci (el := 4) (sz := 1) (by kernel_rfl) (by kernel_rfl) rfl rfl (by omega) (by omega) (by omega) (by decide) ?_
                refine XA.bt ?_
                refine XA.next 39 rfl (by kernel_rfl) ?_
                refine xk_store 3 rfl (by kernel_rfl) rfl rfl rfl (by rw [boolCells_len]; omega) ?_
                dsimp only [List.set]
                rw [boolCells_set, show C.set ci (decide (ck.kind = 103)) = putAll ((ch.take (k + 1)).filter (swK s)) wj.c by rw [← hstep, hswv]; rw [hg1]; simp [hg2]]
                refine XA.bt ?_
                refine XA.done (by kernel_rfl) ?_
                refine XK.norm ?_
                exact XK.envS [(10, .int .i64 k), (9, .slice (some ⟨bI, oI, none⟩) ch.length cc), (7, .pointer (some ⟨g7, 0, none⟩)), (6, .int .i64 j), (5, .pointer (some ⟨gw, 0, none⟩)), (4, .pointer (some ⟨g2, 0, none⟩)), (2, .pointer (some ⟨g1, 0, none⟩)), (1, .slice (some ⟨bA, oA, none⟩) act.length ca)] (XK.meet ⟨rfl, rfl, rfl⟩)
          rintro _ _ _ ⟨rfl, rfl, rfl⟩

          refine XK.region ?_
          refine xk_move rfl (by decide) ?_
          refine xk_add rfl rfl (wrap_in (by omega)) (by decide) ?_
          refine xk_assign rfl (by decide) ?_
          refine XK.nilN ?_
          exact XK.envS [(10, .int .i64 ((k : Int) + 1)), (9, .slice (some ⟨bI, oI, none⟩) ch.length cc), (7, .pointer (some ⟨g7, 0, none⟩)), (6, .int .i64 j), (5, .pointer (some ⟨gw, 0, none⟩)), (4, .pointer (some ⟨g2, 0, none⟩)), (2, .pointer (some ⟨g1, 0, none⟩)), (1, .slice (some ⟨bA, oA, none⟩) act.length ca)] (XK.round (ch.length - (k + 1)) (by omega) ⟨k + 1, by omega, rfl, rfl, rfl, rfl⟩)
        ·
          refine XK.exit ?_
          refine XK.norm ?_
          have hke : k = ch.length := by have h' : ¬ (k : Int) < (ch.length : Int) := h; omega
          rw [hke, List.take_length]
          have hll := hwo.l

          refine XK.region ?_
          refine xk_field (off := 2) (by kernel_rfl) rfl (by decide) ?_
          refine xk_ld rfl ?_
          refine xk_field (off := 2) (by kernel_rfl) rfl (by decide) ?_
          refine xk_ld rfl ?_
          refine xk_at (xr) (xr) (el := 4) (sz := 1) (by kernel_rfl) (by kernel_rfl) rfl rfl (by omega) (by omega) (by omega) (by decide) ?_
          refine xk_store 4 rfl (by kernel_rfl) rfl rfl rfl (by rw [boolCells_len]; omega) ?_
          dsimp only [List.set]
          rw [boolCells_set, show wj.l.set xr true = putB wj.l (xr : Int) true by simp [putB]]
          refine XK.nilN ?_

          refine XK.region ?_
          refine xk_move rfl (by decide) ?_
          refine xk_add rfl rfl (wrap_in (by omega)) (by decide) ?_
          refine xk_assign rfl (by decide) ?_
          refine XK.nilN ?_
          exact XK.weak [1, 2, 3, 4, 5, 6] rfl (by decide) (R' := [q, all w]) (by simp) (XK.envS [(6, .int .i64 ((j : Int) + 1)), (5, .pointer (some ⟨gw, 0, none⟩)), (4, .pointer (some ⟨g2, 0, none⟩)), (2, .pointer (some ⟨g1, 0, none⟩)), (1, .slice (some ⟨bA, oA, none⟩) act.length ca)] (XK.round (s.devs.length - (j + 1)) (by omega) ⟨j + 1, by omega, rfl, rfl, rfl, by rw [hnx, hpd]⟩))
  ·
    refine XK.exit ?_
    refine XK.norm ?_
    refine XK.seq ?_

    refine XK.region ?_
    refine xk_ldN 3 rfl ?_
    (first | (refine xk_storeN 0 rfl rfl rfl (by kernel_rfl) (by simp [Value.cells, Value.oneCell']) (by simp [Value.cells]) ?_) | (refine xk_storeN 1 rfl rfl rfl (by kernel_rfl) (by simp [Value.cells, Value.oneCell']) (by simp [Value.cells]) ?_) | (refine xk_storeN 2 rfl rfl rfl (by kernel_rfl) (by simp [Value.cells, Value.oneCell']) (by simp [Value.cells]) ?_) | (refine xk_storeN 3 rfl rfl rfl (by kernel_rfl) (by simp [Value.cells, Value.oneCell']) (by simp [Value.cells]) ?_) | (refine xk_storeN 4 rfl rfl rfl (by kernel_rfl) (by simp [Value.cells, Value.oneCell']) (by simp [Value.cells]) ?_) | (refine xk_storeN 5 rfl rfl rfl (by kernel_rfl) (by simp [Value.cells, Value.oneCell']) (by simp [Value.cells]) ?_) | (refine xk_storeN 6 rfl rfl rfl (by kernel_rfl) (by simp [Value.cells, Value.oneCell']) (by simp [Value.cells]) ?_) | (refine xk_storeN 7 rfl rfl rfl (by kernel_rfl) (by simp [Value.cells, Value.oneCell']) (by simp [Value.cells]) ?_) | (refine xk_storeN 8 rfl rfl rfl (by kernel_rfl) (by simp [Value.cells, Value.oneCell']) (by simp [Value.cells]) ?_)); simp only [putN, Value.cells, List.set, List.take, List.drop, List.nil_append, List.append_nil, List.length_cons, List.length_nil, List.cons_append, Nat.reduceAdd]
    refine XK.nilN ?_
    refine XK.ret ?_
    refine XK.norm ?_
    have hje : j = s.devs.length := by omega
    have hwo := wantN_of s act j
    have hww : wants s act = wantN s act j := by rw [hje]; rfl
    generalize wantN s act j = wj at *
    refine XK.still [] [1, 2, 3] [4] (by simp) rfl (by decide) (by decide) fun qf hqf _ hfr => ?_
    have b1 := SlS.of_blk (n := wj.d.length) (sz := 1) (c := 0) (hqf 1 _ (by simp) rfl).choose_spec.1 (hqf 1 _ (by simp) rfl).choose_spec.2 (by rw [boolCells_len]; omega)
    have b2 := SlS.of_blk (n := wj.c.length) (sz := 1) (c := 0) (hqf 2 _ (by simp) rfl).choose_spec.1 (hqf 2 _ (by simp) rfl).choose_spec.2 (by rw [boolCells_len]; omega)
    have b3 := SlS.of_blk (n := wj.l.length) (sz := 1) (c := 0) (hqf 3 _ (by simp) rfl).choose_spec.1 (hqf 3 _ (by simp) rfl).choose_spec.2 (by rw [boolCells_len]; omega)
    exact XK.retC rfl (by kernel_rfl) rfl rfl (RdN.whole 0 rfl) fun w1 st => ⟨⟨_, rfl, by
      have hl := st.fresh_le (by simp) (hfr (by simp) (by simp))
      unfold WishOk
      rw [hww]
      exact ⟨_, s.domains.length, _, s.clocks.length, _, s.resets.length, by rw [hwo.d, hwo.c, hwo.l], b1.le hl, b2.le hl, b3.le hl⟩⟩, st.below (by simp)⟩

end Go.Proofs.YtbgibbbggajgaaaGreat
/- The reference's steps, of a chip that is made. -/
namespace Go.Proofs.YtbgibbbggajgaaaGreat
set_option linter.all false
open Go.RowKit
theorem stepL_next {pr msg : Int} {val : Nat → Int} {O : List Nat} {fr to : List Bool} {m i : Nat} (h : O[m]? = some i) :
    stepL pr msg val (moreL (O.take (m + 1)) fr to) = stepL pr msg val (moreL (O.take m) fr to) ++ (if turnB fr to i = true then [⟨pr, msg, (i : Int), val i⟩] else []) := by
  unfold moreL stepL
  rw [List.take_add_one, h, List.filter_append, List.map_append]
  congr 1
  by_cases ht : turnB fr to i = true <;> simp [ht]
theorem range_get {n i : Nat} (h : i < n) : (List.range n)[i]? = some i := by simp [h]
theorem revr_get {n k i : Nat} (h : i + k + 1 = n) : (List.range n).reverse[k]? = some i := by
  rw [List.getElem?_reverse (by simp; omega), List.length_range, show n - 1 - k = i by omega]
  exact range_get (by omega)
theorem rangeC_get {n i : Nat} (h : i < n) : (intCells (natI (List.range n)))[i]? = some (.int .i64 (i : Int)) := natI_get (range_get h)
theorem retV_at {s : Soc} {i : Nat} {x : Dom} (h : s.domains[i]? = some x) : retV s i = if x.ret then 2 else 0 := by unfold retV; rw [h]; rfl

theorem refHas_any (A : Option Addr) (n c i : Nat) (bs : List Bool) (w : World) (hs : SlS (all w) 1 A n (boolCells bs)) (hn : n = bs.length) (hi : (i : Int) ≤ 9223372036854775807) :
    Calls Tryz.prog 59 #[.slice A n c, .int .i64 (i : Int)] w (Rt (.bool (hasB bs i)) w) := by
  refine XK.enter (vs := [.slice A n c, .int .i64 (i : Int)]) Tryz.func59 rfl Tryz.ntmps59 (by simp) ?_
  refine XK.seq ?_

  refine XK.region ?_
  refine xk_assign rfl (by decide) ?_
  refine XK.nilN ?_
  refine XK.seq ?_

  refine XK.region ?_
  refine xk_move rfl (by decide) ?_
  refine xk_move rfl (by decide) ?_
  refine xk_len (el := 4) (by kernel_rfl) rfl (by decide) ?_
  refine xk_lss rfl rfl (by decide) ?_
  refine xk_move rfl (by decide) ?_
  refine xk_split (t := 9) rfl (fun hg => ?_) (fun hg => ?_)
  ·
    have hin : i < bs.length := by have h' : (i : Int) < (n : Int) := hg; omega
    obtain ⟨b, hb⟩ : ∃ b, bs[i]? = some b := ⟨_, List.getElem?_eq_getElem hin⟩
    obtain ⟨bA, oA, rfl, hzA, hcA⟩ := hs.2 (by omega)
    refine xk_guardT rfl rfl ?_; refine xk_move rfl (by decide) ?_
    refine xk_guardT rfl rfl ?_; refine xk_move rfl (by decide) ?_
    refine xk_guardT rfl rfl ?_; refine xk_at (i) (oA + i) (el := 4) (sz := 1) (by kernel_rfl) (by kernel_rfl) rfl rfl (by omega) (by omega) (by omega) (by decide) ?_
    refine xk_guardT rfl rfl ?_; refine xk_load (by kernel_rfl) rfl (Rd.ro (p := all w) (by simp) hzA (hcA i _ (boolCells_at hb))) (by decide) ?_
    (first | refine xk_pickT rfl rfl (by decide) ?_ | refine xk_pickF rfl rfl (by decide) ?_)
    refine xk_assign rfl (by decide) ?_
    refine XK.nilN ?_
    refine XK.ret ?_
    refine XK.norm ?_
    have he : hasB bs i = b := by unfold hasB; rw [hb]; rfl
    rw [he]
    exact XK.ret1 rfl rfl fun w1 st => ⟨rfl, st.below (by simp)⟩
  ·
    refine xk_guardF rfl rfl rfl (by decide) ?_
    refine xk_guardF rfl rfl rfl (by decide) ?_
    refine xk_guardF rfl rfl rfl (by decide) ?_
    refine xk_guardF rfl rfl rfl (by decide) ?_
    (first | refine xk_pickT rfl rfl (by decide) ?_ | refine xk_pickF rfl rfl (by decide) ?_)
    refine xk_assign rfl (by decide) ?_
    refine XK.nilN ?_
    refine XK.ret ?_
    refine XK.norm ?_
    have he : hasB bs i = false := by
      unfold hasB
      rw [List.getElem?_eq_none (by have h' : ¬ (i : Int) < (n : Int) := hg; omega)]
      rfl
    rw [he]
    exact XK.ret1 rfl rfl fun w1 st => ⟨rfl, st.below (by simp)⟩

set_option maxHeartbeats 4000000 in
set_option maxRecDepth 10000 in
theorem refSteps_any (q : Piece) (s : Soc) (A1 A2 A3 A4 : Option Addr) (n1 k1 n2 k2 n3 k3 n4 k4 : Nat) (B1 B2 B3 C1 C2 C3 : Option Addr) (b1 b2 b3 c1 c2 c3 : Nat) (x y : Wsh) (w : World) (hSP : SocP q s A1 n1 A2 n2 A3 n3 A4 n4) (hm : s.made) (hq : q.Le (all w))
    (hx1 : SlS (all w) 1 B1 x.d.length (boolCells x.d)) (hx2 : SlS (all w) 1 B2 x.c.length (boolCells x.c)) (hx3 : SlS (all w) 1 B3 x.l.length (boolCells x.l)) (hy1 : SlS (all w) 1 C1 y.d.length (boolCells y.d)) (hy2 : SlS (all w) 1 C2 y.c.length (boolCells y.c)) (hy3 : SlS (all w) 1 C3 y.l.length (boolCells y.l)) :
    Calls Tryz.prog 28 #[.agg #[.slice A1 n1 k1, .slice A2 n2 k2, .slice A3 n3 k3, .slice A4 n4 k4], .agg #[.slice B1 x.d.length b1, .slice B2 x.c.length b2, .slice B3 x.l.length b3], .agg #[.slice C1 y.d.length c1, .slice C2 y.c.length c2, .slice C3 y.l.length c3]] w (RtW (StepsR (allM s x y)) w) := by
  obtain ⟨rfl, rfl, rfl, rfl⟩ := hSP.len
  refine XK.enter (vs := [.agg #[.slice A1 s.clocks.length k1, .slice A2 s.domains.length k2, .slice A3 s.resets.length k3, .slice A4 s.devs.length k4], .agg #[.slice B1 x.d.length b1, .slice B2 x.c.length b2, .slice B3 x.l.length b3], .agg #[.slice C1 y.d.length c1, .slice C2 y.c.length c2, .slice C3 y.l.length c3]]) Tryz.func28 rfl Tryz.ntmps28 (by simp) ?_
  refine XK.piece q (by simp) hq ?_
  have hn9 := hm.nc
  have hn4 := hm.nd
  have hn3 := hm.nr
  have hnv := hm.nv
  refine XK.seq ?_

  refine XK.region ?_
  refine xk_box rfl (by decide) fun g1 => ?_
  refine xk_box rfl (by decide) fun g2 => ?_
  refine xk_box rfl (by decide) fun g3 => ?_
  refine xk_assign rfl (by decide) ?_
  refine XK.nilN ?_
  refine XK.seq ?_

  refine XK.region ?_
  refine xk_ldN 4 rfl ?_
  refine xk_call [] (f := 57) (fi := []) (ca := []) (by kernel_rfl) rfl rfl (by decide) (by simp) (GrOk (domsG s)) (fun w1 st => refDoms_any s A1 A2 A3 A4 _ k1 _ k2 _ k3 _ k4 w1 (hSP.W (st.le (by simp)) (made_small hm))) ?_
  rintro _ w1 qda ⟨Ag, cg, rfl, hgr⟩ hf _ _
  have hgr := hgr.le hf
  clear hf
  refine xk_call [] (f := 56) (fi := []) (ca := []) (by kernel_rfl) rfl rfl (by decide) (by simp) (rangeE (domsG s).length) (fun w1 st => refOrderE_any Ag _ cg (domsG s) w1 (hgr.le (st.le (by simp))) rfl (by simp [domsG]; omega) (fun l hl => by
      simp only [domsG, List.mem_map] at hl
      obtain ⟨z, _, rfl⟩ := hl
      split <;> simp) (made_doms hm)) ?_
  rintro _ w1 qd ⟨AD, cAD, rfl, hsD⟩ hf _ _
  have hsD := hsD.le hf
  have hlAD : (domsG s).length = s.domains.length := by simp [domsG]
  rw [hlAD] at hsD
  rw [hlAD]
  clear hf hgr
  refine xk_move rfl (by decide) ?_
  refine xk_extract rfl rfl (by decide) ?_
  refine xk_extract rfl rfl (by decide) ?_
  refine xk_assign rfl (by decide) ?_
  refine xk_assign rfl (by decide) ?_
  refine XK.nilN ?_
  refine XK.seq ?_

  refine XK.region ?_
  refine xk_ldN 4 rfl ?_
  refine xk_call [] (f := 58) (fi := []) (ca := []) (by kernel_rfl) rfl rfl (by decide) (by simp) (GrOk (clocksG s)) (fun w1 st => refClocks_any s A1 A2 A3 A4 _ k1 _ k2 _ k3 _ k4 w1 (hSP.W (st.le (by simp)) (made_small hm))) ?_
  rintro _ w1 qca ⟨Ag, cg, rfl, hgr⟩ hf _ _
  have hgr := hgr.le hf
  clear hf
  refine xk_call [] (f := 56) (fi := []) (ca := []) (by kernel_rfl) rfl rfl (by decide) (by simp) (rangeE (clocksG s).length) (fun w1 st => refOrderE_any Ag _ cg (clocksG s) w1 (hgr.le (st.le (by simp))) rfl (by simp [clocksG]; omega) (fun l hl => by
      simp only [clocksG, List.mem_map] at hl
      obtain ⟨z, hz, rfl⟩ := hl
      have := (made_small hm).2.2.2.2.1 z hz; omega) (made_clocks hm)) ?_
  rintro _ w1 qc ⟨AC, cAC, rfl, hsC⟩ hf _ _
  have hsC := hsC.le hf
  have hlAC : (clocksG s).length = s.clocks.length := by simp [clocksG]
  rw [hlAC] at hsC
  rw [hlAC]
  clear hf hgr
  refine xk_move rfl (by decide) ?_
  refine xk_extract rfl rfl (by decide) ?_
  refine xk_extract rfl rfl (by decide) ?_
  refine xk_assign rfl (by decide) ?_
  refine xk_assign rfl (by decide) ?_
  refine XK.nilN ?_
  refine XK.seq ?_

  refine XK.region ?_
  refine xk_assign rfl (by decide) ?_
  refine XK.nilN ?_
  refine XK.seq ?_
  refine XK.seq ?_
  obtain ⟨bD, oD, rfl, hzD, hcD⟩ := hsD.2 (by omega)
  obtain ⟨bK, oK, rfl, hzK, hcK⟩ := hsC.2 (by omega)
  refine XK.nilrow 76 4 ?_
  refine XK.weak [0, 1, 2, 3] rfl (by decide) (R' := [qc, qd, q, all w]) (by simp) ?_

  refine XK.region ?_
  refine xk_assign rfl (by decide) ?_
  refine XK.nilN ?_
  refine XK.envS [(12, .int .i64 0), (11, .slice none 0 0), (9, .slice (some ⟨bK, oK, none⟩) s.clocks.length cAC), (7, .slice (some ⟨bD, oD, none⟩) s.domains.length cAD), (5, .pointer (some ⟨g3, 0, none⟩)), (4, .pointer (some ⟨g2, 0, none⟩)), (3, .pointer (some ⟨g1, 0, none⟩))] ?_
  refine XK.block ?_
  refine XK.loop (fun m e R H => ∃ (k : Nat) (l1 : List Stp) (Ao1 : Option Addr) (co1 : Nat), k ≤ s.domains.length ∧ l1 = ([] : List Stp) ++ stepL 17 4 (fun _ => 1) (moreL ((List.range s.domains.length).take k) x.d y.d) ∧ l1.length ≤ 0 + k ∧ m = s.domains.length - k ∧ e = [(12, .int .i64 k), (11, .slice Ao1 l1.length co1), (9, .slice (some ⟨bK, oK, none⟩) s.clocks.length cAC), (7, .slice (some ⟨bD, oD, none⟩) s.domains.length cAD), (5, .pointer (some ⟨g3, 0, none⟩)), (4, .pointer (some ⟨g2, 0, none⟩)), (3, .pointer (some ⟨g1, 0, none⟩))] ∧ R = [qc, qd, q, all w] ∧ H = [HP.own 76 4 (.slice Ao1 l1.length co1) l1.length (l1.flatMap Stp.cells), HP.blk g3 66 [.slice C1 y.d.length c1, .slice C2 y.c.length c2, .slice C3 y.l.length c3], HP.blk g2 66 [.slice B1 x.d.length b1, .slice B2 x.c.length b2, .slice B3 x.l.length b3], HP.blk g1 30 [.slice A1 s.clocks.length k1, .slice A2 s.domains.length k2, .slice A3 s.resets.length k3, .slice A4 s.devs.length k4]]) s.domains.length ⟨0, ([] : List Stp), none, 0, by omega, by simp [moreL, stepL], by simp, rfl, rfl, rfl, rfl⟩ fun m e R H hI => ?_
  obtain ⟨k, l1, Ao1, co1, hk1, hl1, hb1, rfl, rfl, rfl, rfl⟩ := hI
  refine XK.seq ?_
  refine XK.seq ?_

  refine XK.region ?_
  refine xk_move rfl (by decide) ?_
  refine xk_move rfl (by decide) ?_
  refine xk_len (el := 3) (by kernel_rfl) rfl (by decide) ?_
  refine xk_lss rfl rfl (by decide) ?_
  refine XK.nilN ?_
  refine XK.if_ rfl (fun hin => ?_) (fun hin => ?_)
  ·
    refine XK.skip ?_
    refine XK.norm ?_
    refine XK.seq ?_
    refine XK.block ?_
    have hkn : k < s.domains.length := by have h' : (k : Int) < ((s.domains.length : Nat) : Int) := hin; omega
    have hget := range_get hkn
    refine XK.cutB 53 (turnB x.d y.d k = true) ?_ ?_
    · skip

      refine XK.draw 14 (by kernel_rfl) (by kernel_rfl) ?_
      refine XA.dA 0 rfl rfl rfl (does_field (off := 0) (by kernel_rfl) rfl) ?_
      refine XA.dA 1 rfl rfl rfl (does_ld rfl) ?_
      refine XA.dA 2 rfl rfl rfl (does_move rfl) ?_
      refine XA.dA 3 rfl rfl rfl (does_move rfl) ?_
      refine XA.dA 4 rfl rfl rfl (does_at k (oD + k) (el := 3) (sz := 1) (by kernel_rfl) (by kernel_rfl) rfl rfl (by omega) (by omega) (by omega)) ?_
      refine XA.dA 5 rfl rfl rfl (does_load (by kernel_rfl) rfl (Rd.ro (p := qd) (by simp) hzD (hcD k _ (rangeC_get hkn)))) ?_
      refine XA.next 6 rfl (by kernel_rfl) ?_
      refine xk_callR (f := 59) (fi := []) (ca := []) (by kernel_rfl) rfl rfl (by decide) (fun w1 st => refHas_any C1 _ c1 k y.d w1 (hy1.le (all_le (st.started (by simp)))) rfl (by omega)) ?_
      refine XA.bk ?_
      refine XA.dA 7 rfl rfl rfl (does_move rfl) ?_
      refine XA.splitB (t := 44) rfl (fun hg1 => ?_) (fun hg1 => ?_)
      ·
        refine XA.dT 8 rfl rfl rfl (does_field (off := 0) (by kernel_rfl) rfl) ?_
        refine XA.dT 9 rfl rfl rfl (does_ld rfl) ?_
        refine XA.dT 10 rfl rfl rfl (does_move rfl) ?_
        refine XA.dT 11 rfl rfl rfl (does_move rfl) ?_
        refine XA.dT 12 rfl rfl rfl (does_at k (oD + k) (el := 3) (sz := 1) (by kernel_rfl) (by kernel_rfl) rfl rfl (by omega) (by omega) (by omega)) ?_
        refine XA.dT 13 rfl rfl rfl (does_load (by kernel_rfl) rfl (Rd.ro (p := qd) (by simp) hzD (hcD k _ (rangeC_get hkn)))) ?_
        refine XA.next 14 rfl (by kernel_rfl) ?_
        refine xk_guardT rfl rfl ?_; refine xk_callR (f := 59) (fi := []) (ca := []) (by kernel_rfl) rfl rfl (by decide) (fun w1 st => refHas_any B1 _ b1 k x.d w1 (hx1.le (all_le (st.started (by simp)))) rfl (by omega)) ?_
        refine XA.bt ?_
        refine XA.next 15 rfl (by kernel_rfl) ?_
        refine xk_guardT rfl rfl ?_; refine xk_not rfl (by decide) ?_
        refine XA.bt ?_
        refine XA.next 16 rfl (by kernel_rfl) ?_
        (first | refine xk_pickT rfl rfl (by decide) ?_ | refine xk_pickF rfl rfl (by decide) ?_)
        refine XA.bt ?_
        refine XA.done (by kernel_rfl) ?_
        refine XK.norm ?_
        exact XK.meetB (by repeat (first | exact trivial | refine ⟨rfl, ?_⟩)) (get_bool rfl (by unfold turnB; rw [hg1, Bool.true_and]))
      ·
        refine XA.dF 8 rfl rfl rfl rfl ?_
        refine XA.dF 9 rfl rfl rfl rfl ?_
        refine XA.dF 10 rfl rfl rfl rfl ?_
        refine XA.dF 11 rfl rfl rfl rfl ?_
        refine XA.dF 12 rfl rfl rfl rfl ?_
        refine XA.dF 13 rfl rfl rfl rfl ?_
        refine XA.next 14 rfl (by kernel_rfl) ?_
        refine xk_guardF rfl rfl rfl (by decide) ?_
        refine XA.bt ?_
        refine XA.next 15 rfl (by kernel_rfl) ?_
        refine xk_guardF rfl rfl rfl (by decide) ?_
        refine XA.bt ?_
        refine XA.next 16 rfl (by kernel_rfl) ?_
        (first | refine xk_pickT rfl rfl (by decide) ?_ | refine xk_pickF rfl rfl (by decide) ?_)
        refine XA.bt ?_
        refine XA.done (by kernel_rfl) ?_
        refine XK.norm ?_
        exact XK.meetB (by repeat (first | exact trivial | refine ⟨rfl, ?_⟩)) (get_false rfl (by unfold turnB; rw [hg1]; simp))
    refine XK.if_ rfl (fun ht => ?_) (fun ht => ?_)
    ·

      refine XK.region ?_
      refine xk_move rfl (by decide) ?_
      refine xk_move rfl (by decide) ?_
      refine xk_move rfl (by decide) ?_
      refine xk_at k (oD + k) (el := 3) (sz := 1) (by kernel_rfl) (by kernel_rfl) rfl rfl (by omega) (by omega) (by omega) (by decide) ?_
      refine xk_load (by kernel_rfl) rfl (Rd.ro (p := qd) (by simp) hzD (hcD k _ (rangeC_get hkn))) (by decide) ?_
      refine xk_conv (ds := .int .i64) (by kernel_rfl) (by kernel_rfl) rfl (wrap_u32 (by omega)) (by decide) ?_
      refine xk_buildS (zs := [.int .i64 0, .int .i64 0, .int .u32 0, .int .u32 0]) (L := [(0, 1), (1, 1), (2, 1), (3, 1)]) (zeroB_of (by kernel_rfl)) (by kernel_rfl) rfl (by simp [fillL, setN, Value.cells]; rfl) (by decide) ?_
      refine xk_slice (el := 76) (sz := 4) (zs := [.int .i64 0, .int .i64 0, .int .u32 0, .int .u32 0]) (by kernel_rfl) (zeroB_of (by kernel_rfl)) (by kernel_rfl) rfl (by decide) (by decide) rfl (by simp [fillL, setN, Value.cells, List.range_succ, List.set]; rfl) (by decide) fun g4 => ?_
      refine xk_appendT 1 4 24 1 (n' := l1.length + 1) (el := 76) (by kernel_rfl) (by kernel_rfl) (by decide) rfl rfl rfl (sl_blk 0 rfl rfl) (by simp [Value.oneCell']) rfl (by omega) (by omega) (by decide) fun A9 c9 => ?_
      dsimp only [List.set]
      rw [show l1.flatMap Stp.cells ++ [Value.int .i64 17, .int .i64 4, .int .u32 (k : Int), .int .u32 1] = (l1 ++ [(⟨17, 4, (k : Int), 1⟩ : Stp)]).flatMap Stp.cells by simp [Stp.cells]]
      refine XK.weak [1, 2, 3, 4] rfl (by decide) (R' := [qc, qd, q, all w]) (by simp) ?_
      refine xk_assign rfl (by decide) ?_
      refine XK.nilN ?_

      refine XK.region ?_
      refine xk_move rfl (by decide) ?_
      refine xk_add rfl rfl (wrap_in (by omega)) (by decide) ?_
      refine xk_assign rfl (by decide) ?_
      refine XK.nilN ?_
      exact XK.envS [(12, .int .i64 ((k : Int) + 1)), (11, .slice A9 (l1.length + 1) c9), (9, .slice (some ⟨bK, oK, none⟩) s.clocks.length cAC), (7, .slice (some ⟨bD, oD, none⟩) s.domains.length cAD), (5, .pointer (some ⟨g3, 0, none⟩)), (4, .pointer (some ⟨g2, 0, none⟩)), (3, .pointer (some ⟨g1, 0, none⟩))] (XK.round (s.domains.length - (k + 1)) (by omega) ⟨k + 1, (l1 ++ [(⟨17, 4, (k : Int), 1⟩ : Stp)]), A9, c9, by omega, by rw [stepL_next hget, if_pos ht, hl1, List.append_assoc], by simp; omega, rfl, by simp, rfl, by simp⟩)
    ·
      refine XK.skip ?_
      refine XK.norm ?_

      refine XK.region ?_
      refine xk_move rfl (by decide) ?_
      refine xk_add rfl rfl (wrap_in (by omega)) (by decide) ?_
      refine xk_assign rfl (by decide) ?_
      refine XK.nilN ?_
      exact XK.envS [(12, .int .i64 ((k : Int) + 1)), (11, .slice Ao1 l1.length co1), (9, .slice (some ⟨bK, oK, none⟩) s.clocks.length cAC), (7, .slice (some ⟨bD, oD, none⟩) s.domains.length cAD), (5, .pointer (some ⟨g3, 0, none⟩)), (4, .pointer (some ⟨g2, 0, none⟩)), (3, .pointer (some ⟨g1, 0, none⟩))] (XK.round (s.domains.length - (k + 1)) (by omega) ⟨k + 1, l1, Ao1, co1, by omega, by rw [stepL_next hget, if_neg ht, List.append_nil]; exact hl1, by omega, rfl, rfl, rfl, rfl⟩)
  ·
    refine XK.exit ?_
    refine XK.norm ?_
    refine XK.seq ?_
    refine XK.seq ?_
    have hke1 : k = s.domains.length := by have h' : ¬ (k : Int) < ((s.domains.length : Nat) : Int) := hin; omega
    rw [hke1, List.take_of_length_le (by simp)] at hl1
    clear hin
    have hbb1 : l1.length ≤ 4 := by omega
    clear hb1 hke1
    clear hk1

    refine XK.region ?_
    refine xk_assign rfl (by decide) ?_
    refine XK.nilN ?_
    refine XK.envS [(13, .int .i64 0), (11, .slice Ao1 l1.length co1), (9, .slice (some ⟨bK, oK, none⟩) s.clocks.length cAC), (7, .slice (some ⟨bD, oD, none⟩) s.domains.length cAD), (5, .pointer (some ⟨g3, 0, none⟩)), (4, .pointer (some ⟨g2, 0, none⟩)), (3, .pointer (some ⟨g1, 0, none⟩))] ?_
    refine XK.block ?_
    refine XK.loop (fun m e R H => ∃ (k : Nat) (l2 : List Stp) (Ao2 : Option Addr) (co2 : Nat), k ≤ s.clocks.length ∧ l2 = l1 ++ stepL 20 7 (fun _ => 1) (moreL ((List.range s.clocks.length).take k) x.c y.c) ∧ l2.length ≤ l1.length + k ∧ m = s.clocks.length - k ∧ e = [(13, .int .i64 k), (11, .slice Ao2 l2.length co2), (9, .slice (some ⟨bK, oK, none⟩) s.clocks.length cAC), (7, .slice (some ⟨bD, oD, none⟩) s.domains.length cAD), (5, .pointer (some ⟨g3, 0, none⟩)), (4, .pointer (some ⟨g2, 0, none⟩)), (3, .pointer (some ⟨g1, 0, none⟩))] ∧ R = [qc, qd, q, all w] ∧ H = [HP.own 76 4 (.slice Ao2 l2.length co2) l2.length (l2.flatMap Stp.cells), HP.blk g3 66 [.slice C1 y.d.length c1, .slice C2 y.c.length c2, .slice C3 y.l.length c3], HP.blk g2 66 [.slice B1 x.d.length b1, .slice B2 x.c.length b2, .slice B3 x.l.length b3], HP.blk g1 30 [.slice A1 s.clocks.length k1, .slice A2 s.domains.length k2, .slice A3 s.resets.length k3, .slice A4 s.devs.length k4]]) s.clocks.length ⟨0, l1, Ao1, co1, by omega, by simp [moreL, stepL], by omega, rfl, rfl, rfl, rfl⟩ fun m e R H hI => ?_
    obtain ⟨k, l2, Ao2, co2, hk2, hl2, hb2, rfl, rfl, rfl, rfl⟩ := hI
    refine XK.seq ?_
    refine XK.seq ?_

    refine XK.region ?_
    refine xk_move rfl (by decide) ?_
    refine xk_move rfl (by decide) ?_
    refine xk_len (el := 3) (by kernel_rfl) rfl (by decide) ?_
    refine xk_lss rfl rfl (by decide) ?_
    refine XK.nilN ?_
    refine XK.if_ rfl (fun hin => ?_) (fun hin => ?_)
    ·
      refine XK.skip ?_
      refine XK.norm ?_
      refine XK.seq ?_
      refine XK.block ?_
      have hkn : k < s.clocks.length := by have h' : (k : Int) < ((s.clocks.length : Nat) : Int) := hin; omega
      have hget := range_get hkn
      refine XK.cutB 85 (turnB x.c y.c k = true) ?_ ?_
      · skip

        refine XK.draw 14 (by kernel_rfl) (by kernel_rfl) ?_
        refine XA.dA 0 rfl rfl rfl (does_field (off := 1) (by kernel_rfl) rfl) ?_
        refine XA.dA 1 rfl rfl rfl (does_ld rfl) ?_
        refine XA.dA 2 rfl rfl rfl (does_move rfl) ?_
        refine XA.dA 3 rfl rfl rfl (does_move rfl) ?_
        refine XA.dA 4 rfl rfl rfl (does_at k (oK + k) (el := 3) (sz := 1) (by kernel_rfl) (by kernel_rfl) rfl rfl (by omega) (by omega) (by omega)) ?_
        refine XA.dA 5 rfl rfl rfl (does_load (by kernel_rfl) rfl (Rd.ro (p := qc) (by simp) hzK (hcK k _ (rangeC_get hkn)))) ?_
        refine XA.next 6 rfl (by kernel_rfl) ?_
        refine xk_callR (f := 59) (fi := []) (ca := []) (by kernel_rfl) rfl rfl (by decide) (fun w1 st => refHas_any C2 _ c2 k y.c w1 (hy2.le (all_le (st.started (by simp)))) rfl (by omega)) ?_
        refine XA.bk ?_
        refine XA.dA 7 rfl rfl rfl (does_move rfl) ?_
        refine XA.splitB (t := 76) rfl (fun hg1 => ?_) (fun hg1 => ?_)
        ·
          refine XA.dT 8 rfl rfl rfl (does_field (off := 1) (by kernel_rfl) rfl) ?_
          refine XA.dT 9 rfl rfl rfl (does_ld rfl) ?_
          refine XA.dT 10 rfl rfl rfl (does_move rfl) ?_
          refine XA.dT 11 rfl rfl rfl (does_move rfl) ?_
          refine XA.dT 12 rfl rfl rfl (does_at k (oK + k) (el := 3) (sz := 1) (by kernel_rfl) (by kernel_rfl) rfl rfl (by omega) (by omega) (by omega)) ?_
          refine XA.dT 13 rfl rfl rfl (does_load (by kernel_rfl) rfl (Rd.ro (p := qc) (by simp) hzK (hcK k _ (rangeC_get hkn)))) ?_
          refine XA.next 14 rfl (by kernel_rfl) ?_
          refine xk_guardT rfl rfl ?_; refine xk_callR (f := 59) (fi := []) (ca := []) (by kernel_rfl) rfl rfl (by decide) (fun w1 st => refHas_any B2 _ b2 k x.c w1 (hx2.le (all_le (st.started (by simp)))) rfl (by omega)) ?_
          refine XA.bt ?_
          refine XA.next 15 rfl (by kernel_rfl) ?_
          refine xk_guardT rfl rfl ?_; refine xk_not rfl (by decide) ?_
          refine XA.bt ?_
          refine XA.next 16 rfl (by kernel_rfl) ?_
          (first | refine xk_pickT rfl rfl (by decide) ?_ | refine xk_pickF rfl rfl (by decide) ?_)
          refine XA.bt ?_
          refine XA.done (by kernel_rfl) ?_
          refine XK.norm ?_
          exact XK.meetB (by repeat (first | exact trivial | refine ⟨rfl, ?_⟩)) (get_bool rfl (by unfold turnB; rw [hg1, Bool.true_and]))
        ·
          refine XA.dF 8 rfl rfl rfl rfl ?_
          refine XA.dF 9 rfl rfl rfl rfl ?_
          refine XA.dF 10 rfl rfl rfl rfl ?_
          refine XA.dF 11 rfl rfl rfl rfl ?_
          refine XA.dF 12 rfl rfl rfl rfl ?_
          refine XA.dF 13 rfl rfl rfl rfl ?_
          refine XA.next 14 rfl (by kernel_rfl) ?_
          refine xk_guardF rfl rfl rfl (by decide) ?_
          refine XA.bt ?_
          refine XA.next 15 rfl (by kernel_rfl) ?_
          refine xk_guardF rfl rfl rfl (by decide) ?_
          refine XA.bt ?_
          refine XA.next 16 rfl (by kernel_rfl) ?_
          (first | refine xk_pickT rfl rfl (by decide) ?_ | refine xk_pickF rfl rfl (by decide) ?_)
          refine XA.bt ?_
          refine XA.done (by kernel_rfl) ?_
          refine XK.norm ?_
          exact XK.meetB (by repeat (first | exact trivial | refine ⟨rfl, ?_⟩)) (get_false rfl (by unfold turnB; rw [hg1]; simp))
      refine XK.if_ rfl (fun ht => ?_) (fun ht => ?_)
      ·

        refine XK.region ?_
        refine xk_move rfl (by decide) ?_
        refine xk_move rfl (by decide) ?_
        refine xk_move rfl (by decide) ?_
        refine xk_at k (oK + k) (el := 3) (sz := 1) (by kernel_rfl) (by kernel_rfl) rfl rfl (by omega) (by omega) (by omega) (by decide) ?_
        refine xk_load (by kernel_rfl) rfl (Rd.ro (p := qc) (by simp) hzK (hcK k _ (rangeC_get hkn))) (by decide) ?_
        refine xk_conv (ds := .int .i64) (by kernel_rfl) (by kernel_rfl) rfl (wrap_u32 (by omega)) (by decide) ?_
        refine xk_buildS (zs := [.int .i64 0, .int .i64 0, .int .u32 0, .int .u32 0]) (L := [(0, 1), (1, 1), (2, 1), (3, 1)]) (zeroB_of (by kernel_rfl)) (by kernel_rfl) rfl (by simp [fillL, setN, Value.cells]; rfl) (by decide) ?_
        refine xk_slice (el := 76) (sz := 4) (zs := [.int .i64 0, .int .i64 0, .int .u32 0, .int .u32 0]) (by kernel_rfl) (zeroB_of (by kernel_rfl)) (by kernel_rfl) rfl (by decide) (by decide) rfl (by simp [fillL, setN, Value.cells, List.range_succ, List.set]; rfl) (by decide) fun g5 => ?_
        refine xk_appendT 1 4 24 1 (n' := l2.length + 1) (el := 76) (by kernel_rfl) (by kernel_rfl) (by decide) rfl rfl rfl (sl_blk 0 rfl rfl) (by simp [Value.oneCell']) rfl (by omega) (by omega) (by decide) fun A9 c9 => ?_
        dsimp only [List.set]
        rw [show l2.flatMap Stp.cells ++ [Value.int .i64 20, .int .i64 7, .int .u32 (k : Int), .int .u32 1] = (l2 ++ [(⟨20, 7, (k : Int), 1⟩ : Stp)]).flatMap Stp.cells by simp [Stp.cells]]
        refine XK.weak [1, 2, 3, 4] rfl (by decide) (R' := [qc, qd, q, all w]) (by simp) ?_
        refine xk_assign rfl (by decide) ?_
        refine XK.nilN ?_

        refine XK.region ?_
        refine xk_move rfl (by decide) ?_
        refine xk_add rfl rfl (wrap_in (by omega)) (by decide) ?_
        refine xk_assign rfl (by decide) ?_
        refine XK.nilN ?_
        exact XK.envS [(13, .int .i64 ((k : Int) + 1)), (11, .slice A9 (l2.length + 1) c9), (9, .slice (some ⟨bK, oK, none⟩) s.clocks.length cAC), (7, .slice (some ⟨bD, oD, none⟩) s.domains.length cAD), (5, .pointer (some ⟨g3, 0, none⟩)), (4, .pointer (some ⟨g2, 0, none⟩)), (3, .pointer (some ⟨g1, 0, none⟩))] (XK.round (s.clocks.length - (k + 1)) (by omega) ⟨k + 1, (l2 ++ [(⟨20, 7, (k : Int), 1⟩ : Stp)]), A9, c9, by omega, by rw [stepL_next hget, if_pos ht, hl2, List.append_assoc], by simp; omega, rfl, by simp, rfl, by simp⟩)
      ·
        refine XK.skip ?_
        refine XK.norm ?_

        refine XK.region ?_
        refine xk_move rfl (by decide) ?_
        refine xk_add rfl rfl (wrap_in (by omega)) (by decide) ?_
        refine xk_assign rfl (by decide) ?_
        refine XK.nilN ?_
        exact XK.envS [(13, .int .i64 ((k : Int) + 1)), (11, .slice Ao2 l2.length co2), (9, .slice (some ⟨bK, oK, none⟩) s.clocks.length cAC), (7, .slice (some ⟨bD, oD, none⟩) s.domains.length cAD), (5, .pointer (some ⟨g3, 0, none⟩)), (4, .pointer (some ⟨g2, 0, none⟩)), (3, .pointer (some ⟨g1, 0, none⟩))] (XK.round (s.clocks.length - (k + 1)) (by omega) ⟨k + 1, l2, Ao2, co2, by omega, by rw [stepL_next hget, if_neg ht, List.append_nil]; exact hl2, by omega, rfl, rfl, rfl, rfl⟩)
    ·
      refine XK.exit ?_
      refine XK.norm ?_
      refine XK.seq ?_
      refine XK.seq ?_
      have hke2 : k = s.clocks.length := by have h' : ¬ (k : Int) < ((s.clocks.length : Nat) : Int) := hin; omega
      rw [hke2, List.take_of_length_le (by simp)] at hl2
      clear hin
      have hbb2 : l2.length ≤ 13 := by omega
      clear hb2 hke2
      clear hk2

      refine XK.region ?_
      refine xk_assign rfl (by decide) ?_
      refine XK.nilN ?_
      refine XK.envS [(14, .int .i64 0), (11, .slice Ao2 l2.length co2), (9, .slice (some ⟨bK, oK, none⟩) s.clocks.length cAC), (7, .slice (some ⟨bD, oD, none⟩) s.domains.length cAD), (5, .pointer (some ⟨g3, 0, none⟩)), (4, .pointer (some ⟨g2, 0, none⟩)), (3, .pointer (some ⟨g1, 0, none⟩))] ?_
      refine XK.block ?_
      refine XK.loop (fun m e R H => ∃ (k : Nat) (l3 : List Stp) (Ao3 : Option Addr) (co3 : Nat), k ≤ s.resets.length ∧ l3 = l2 ++ stepL 22 4 (fun _ => 0) (moreL ((List.range s.resets.length).take k) x.l y.l) ∧ l3.length ≤ l2.length + k ∧ m = s.resets.length - k ∧ e = [(14, .int .i64 k), (11, .slice Ao3 l3.length co3), (9, .slice (some ⟨bK, oK, none⟩) s.clocks.length cAC), (7, .slice (some ⟨bD, oD, none⟩) s.domains.length cAD), (5, .pointer (some ⟨g3, 0, none⟩)), (4, .pointer (some ⟨g2, 0, none⟩)), (3, .pointer (some ⟨g1, 0, none⟩))] ∧ R = [qc, qd, q, all w] ∧ H = [HP.own 76 4 (.slice Ao3 l3.length co3) l3.length (l3.flatMap Stp.cells), HP.blk g3 66 [.slice C1 y.d.length c1, .slice C2 y.c.length c2, .slice C3 y.l.length c3], HP.blk g2 66 [.slice B1 x.d.length b1, .slice B2 x.c.length b2, .slice B3 x.l.length b3], HP.blk g1 30 [.slice A1 s.clocks.length k1, .slice A2 s.domains.length k2, .slice A3 s.resets.length k3, .slice A4 s.devs.length k4]]) s.resets.length ⟨0, l2, Ao2, co2, by omega, by simp [moreL, stepL], by omega, rfl, rfl, rfl, rfl⟩ fun m e R H hI => ?_
      obtain ⟨k, l3, Ao3, co3, hk3, hl3, hb3, rfl, rfl, rfl, rfl⟩ := hI
      refine XK.seq ?_
      refine XK.seq ?_

      refine XK.region ?_
      refine xk_move rfl (by decide) ?_
      refine xk_field (off := 2) (by kernel_rfl) rfl (by decide) ?_
      refine xk_ld rfl ?_
      refine xk_len (el := 91) (by kernel_rfl) rfl (by decide) ?_
      refine xk_lss rfl rfl (by decide) ?_
      refine XK.nilN ?_
      refine XK.if_ rfl (fun hin => ?_) (fun hin => ?_)
      ·
        refine XK.skip ?_
        refine XK.norm ?_
        refine XK.seq ?_
        refine XK.block ?_
        have hkn : k < s.resets.length := by have h' : (k : Int) < ((s.resets.length : Nat) : Int) := hin; omega
        have hget := range_get hkn
        refine XK.cutB 112 (turnB x.l y.l k = true) ?_ ?_
        · skip

          refine XK.region ?_
          refine xk_field (off := 2) (by kernel_rfl) rfl (by decide) ?_
          refine xk_ld rfl ?_
          refine xk_move rfl (by decide) ?_
          refine xk_callR (f := 59) (fi := []) (ca := []) (by kernel_rfl) rfl rfl (by decide) (fun w1 st => refHas_any C3 _ c3 k y.l w1 (hy3.le (all_le (st.started (by simp)))) rfl (by omega)) ?_
          refine xk_move rfl (by decide) ?_
          refine xk_splitB (t := 106) rfl (fun hg1 => ?_) (fun hg1 => ?_)
          ·
            refine xk_guardT rfl rfl ?_; refine xk_field (off := 2) (by kernel_rfl) rfl (by decide) ?_
            refine xk_guardT rfl rfl ?_; refine xk_ld rfl ?_
            refine xk_guardT rfl rfl ?_; refine xk_move rfl (by decide) ?_
            refine xk_guardT rfl rfl ?_; refine xk_callR (f := 59) (fi := []) (ca := []) (by kernel_rfl) rfl rfl (by decide) (fun w1 st => refHas_any B3 _ b3 k x.l w1 (hx3.le (all_le (st.started (by simp)))) rfl (by omega)) ?_
            refine xk_guardT rfl rfl ?_; refine xk_not rfl (by decide) ?_
            (first | refine xk_pickT rfl rfl (by decide) ?_ | refine xk_pickF rfl rfl (by decide) ?_)
            refine XK.nilN ?_
            exact XK.meetB (by repeat (first | exact trivial | refine ⟨rfl, ?_⟩)) (get_bool rfl (by unfold turnB; rw [hg1, Bool.true_and]))
          ·
            refine xk_guardF rfl rfl rfl (by decide) ?_
            refine xk_guardF rfl rfl rfl (by decide) ?_
            refine xk_guardF rfl rfl rfl (by decide) ?_
            refine xk_guardF rfl rfl rfl (by decide) ?_
            refine xk_guardF rfl rfl rfl (by decide) ?_
            (first | refine xk_pickT rfl rfl (by decide) ?_ | refine xk_pickF rfl rfl (by decide) ?_)
            refine XK.nilN ?_
            exact XK.meetB (by repeat (first | exact trivial | refine ⟨rfl, ?_⟩)) (get_false rfl (by unfold turnB; rw [hg1]; simp))
        refine XK.if_ rfl (fun ht => ?_) (fun ht => ?_)
        ·

          refine XK.region ?_
          refine xk_move rfl (by decide) ?_
          refine xk_move rfl (by decide) ?_
          refine xk_conv (ds := .int .i64) (by kernel_rfl) (by kernel_rfl) rfl (wrap_u32 (by omega)) (by decide) ?_
          refine xk_buildS (zs := [.int .i64 0, .int .i64 0, .int .u32 0, .int .u32 0]) (L := [(0, 1), (1, 1), (2, 1), (3, 1)]) (zeroB_of (by kernel_rfl)) (by kernel_rfl) rfl (by simp [fillL, setN, Value.cells]; rfl) (by decide) ?_
          refine xk_slice (el := 76) (sz := 4) (zs := [.int .i64 0, .int .i64 0, .int .u32 0, .int .u32 0]) (by kernel_rfl) (zeroB_of (by kernel_rfl)) (by kernel_rfl) rfl (by decide) (by decide) rfl (by simp [fillL, setN, Value.cells, List.range_succ, List.set]; rfl) (by decide) fun g6 => ?_
          refine xk_appendT 1 4 24 1 (n' := l3.length + 1) (el := 76) (by kernel_rfl) (by kernel_rfl) (by decide) rfl rfl rfl (sl_blk 0 rfl rfl) (by simp [Value.oneCell']) rfl (by omega) (by omega) (by decide) fun A9 c9 => ?_
          dsimp only [List.set]
          rw [show l3.flatMap Stp.cells ++ [Value.int .i64 22, .int .i64 4, .int .u32 (k : Int), .int .u32 0] = (l3 ++ [(⟨22, 4, (k : Int), 0⟩ : Stp)]).flatMap Stp.cells by simp [Stp.cells]]
          refine XK.weak [1, 2, 3, 4] rfl (by decide) (R' := [qc, qd, q, all w]) (by simp) ?_
          refine xk_assign rfl (by decide) ?_
          refine XK.nilN ?_

          refine XK.region ?_
          refine xk_move rfl (by decide) ?_
          refine xk_add rfl rfl (wrap_in (by omega)) (by decide) ?_
          refine xk_assign rfl (by decide) ?_
          refine XK.nilN ?_
          exact XK.envS [(14, .int .i64 ((k : Int) + 1)), (11, .slice A9 (l3.length + 1) c9), (9, .slice (some ⟨bK, oK, none⟩) s.clocks.length cAC), (7, .slice (some ⟨bD, oD, none⟩) s.domains.length cAD), (5, .pointer (some ⟨g3, 0, none⟩)), (4, .pointer (some ⟨g2, 0, none⟩)), (3, .pointer (some ⟨g1, 0, none⟩))] (XK.round (s.resets.length - (k + 1)) (by omega) ⟨k + 1, (l3 ++ [(⟨22, 4, (k : Int), 0⟩ : Stp)]), A9, c9, by omega, by rw [stepL_next hget, if_pos ht, hl3, List.append_assoc], by simp; omega, rfl, by simp, rfl, by simp⟩)
        ·
          refine XK.skip ?_
          refine XK.norm ?_

          refine XK.region ?_
          refine xk_move rfl (by decide) ?_
          refine xk_add rfl rfl (wrap_in (by omega)) (by decide) ?_
          refine xk_assign rfl (by decide) ?_
          refine XK.nilN ?_
          exact XK.envS [(14, .int .i64 ((k : Int) + 1)), (11, .slice Ao3 l3.length co3), (9, .slice (some ⟨bK, oK, none⟩) s.clocks.length cAC), (7, .slice (some ⟨bD, oD, none⟩) s.domains.length cAD), (5, .pointer (some ⟨g3, 0, none⟩)), (4, .pointer (some ⟨g2, 0, none⟩)), (3, .pointer (some ⟨g1, 0, none⟩))] (XK.round (s.resets.length - (k + 1)) (by omega) ⟨k + 1, l3, Ao3, co3, by omega, by rw [stepL_next hget, if_neg ht, List.append_nil]; exact hl3, by omega, rfl, rfl, rfl, rfl⟩)
      ·
        refine XK.exit ?_
        refine XK.norm ?_
        refine XK.seq ?_
        refine XK.seq ?_
        have hke3 : k = s.resets.length := by have h' : ¬ (k : Int) < ((s.resets.length : Nat) : Int) := hin; omega
        rw [hke3, List.take_of_length_le (by simp)] at hl3
        clear hin
        have hbb3 : l3.length ≤ 16 := by omega
        clear hb3 hke3
        clear hk3

        refine XK.region ?_
        refine xk_assign rfl (by decide) ?_
        refine XK.nilN ?_
        refine XK.envS [(15, .int .i64 0), (11, .slice Ao3 l3.length co3), (9, .slice (some ⟨bK, oK, none⟩) s.clocks.length cAC), (7, .slice (some ⟨bD, oD, none⟩) s.domains.length cAD), (5, .pointer (some ⟨g3, 0, none⟩)), (4, .pointer (some ⟨g2, 0, none⟩)), (3, .pointer (some ⟨g1, 0, none⟩))] ?_
        refine XK.block ?_
        refine XK.loop (fun m e R H => ∃ (k : Nat) (l4 : List Stp) (Ao4 : Option Addr) (co4 : Nat), k ≤ s.resets.length ∧ l4 = l3 ++ stepL 22 4 (fun _ => 1) (moreL ((List.range s.resets.length).take k) y.l x.l) ∧ l4.length ≤ l3.length + k ∧ m = s.resets.length - k ∧ e = [(15, .int .i64 k), (11, .slice Ao4 l4.length co4), (9, .slice (some ⟨bK, oK, none⟩) s.clocks.length cAC), (7, .slice (some ⟨bD, oD, none⟩) s.domains.length cAD), (5, .pointer (some ⟨g3, 0, none⟩)), (4, .pointer (some ⟨g2, 0, none⟩)), (3, .pointer (some ⟨g1, 0, none⟩))] ∧ R = [qc, qd, q, all w] ∧ H = [HP.own 76 4 (.slice Ao4 l4.length co4) l4.length (l4.flatMap Stp.cells), HP.blk g3 66 [.slice C1 y.d.length c1, .slice C2 y.c.length c2, .slice C3 y.l.length c3], HP.blk g2 66 [.slice B1 x.d.length b1, .slice B2 x.c.length b2, .slice B3 x.l.length b3], HP.blk g1 30 [.slice A1 s.clocks.length k1, .slice A2 s.domains.length k2, .slice A3 s.resets.length k3, .slice A4 s.devs.length k4]]) s.resets.length ⟨0, l3, Ao3, co3, by omega, by simp [moreL, stepL], by omega, rfl, rfl, rfl, rfl⟩ fun m e R H hI => ?_
        obtain ⟨k, l4, Ao4, co4, hk4, hl4, hb4, rfl, rfl, rfl, rfl⟩ := hI
        refine XK.seq ?_
        refine XK.seq ?_

        refine XK.region ?_
        refine xk_move rfl (by decide) ?_
        refine xk_field (off := 2) (by kernel_rfl) rfl (by decide) ?_
        refine xk_ld rfl ?_
        refine xk_len (el := 91) (by kernel_rfl) rfl (by decide) ?_
        refine xk_lss rfl rfl (by decide) ?_
        refine XK.nilN ?_
        refine XK.if_ rfl (fun hin => ?_) (fun hin => ?_)
        ·
          refine XK.skip ?_
          refine XK.norm ?_
          refine XK.seq ?_
          refine XK.block ?_
          have hkn : k < s.resets.length := by have h' : (k : Int) < ((s.resets.length : Nat) : Int) := hin; omega
          have hget := range_get hkn
          refine XK.cutB 136 (turnB y.l x.l k = true) ?_ ?_
          · skip

            refine XK.region ?_
            refine xk_field (off := 2) (by kernel_rfl) rfl (by decide) ?_
            refine xk_ld rfl ?_
            refine xk_move rfl (by decide) ?_
            refine xk_callR (f := 59) (fi := []) (ca := []) (by kernel_rfl) rfl rfl (by decide) (fun w1 st => refHas_any B3 _ b3 k x.l w1 (hx3.le (all_le (st.started (by simp)))) rfl (by omega)) ?_
            refine xk_move rfl (by decide) ?_
            refine xk_splitB (t := 130) rfl (fun hg1 => ?_) (fun hg1 => ?_)
            ·
              refine xk_guardT rfl rfl ?_; refine xk_field (off := 2) (by kernel_rfl) rfl (by decide) ?_
              refine xk_guardT rfl rfl ?_; refine xk_ld rfl ?_
              refine xk_guardT rfl rfl ?_; refine xk_move rfl (by decide) ?_
              refine xk_guardT rfl rfl ?_; refine xk_callR (f := 59) (fi := []) (ca := []) (by kernel_rfl) rfl rfl (by decide) (fun w1 st => refHas_any C3 _ c3 k y.l w1 (hy3.le (all_le (st.started (by simp)))) rfl (by omega)) ?_
              refine xk_guardT rfl rfl ?_; refine xk_not rfl (by decide) ?_
              (first | refine xk_pickT rfl rfl (by decide) ?_ | refine xk_pickF rfl rfl (by decide) ?_)
              refine XK.nilN ?_
              exact XK.meetB (by repeat (first | exact trivial | refine ⟨rfl, ?_⟩)) (get_bool rfl (by unfold turnB; rw [hg1, Bool.true_and]))
            ·
              refine xk_guardF rfl rfl rfl (by decide) ?_
              refine xk_guardF rfl rfl rfl (by decide) ?_
              refine xk_guardF rfl rfl rfl (by decide) ?_
              refine xk_guardF rfl rfl rfl (by decide) ?_
              refine xk_guardF rfl rfl rfl (by decide) ?_
              (first | refine xk_pickT rfl rfl (by decide) ?_ | refine xk_pickF rfl rfl (by decide) ?_)
              refine XK.nilN ?_
              exact XK.meetB (by repeat (first | exact trivial | refine ⟨rfl, ?_⟩)) (get_false rfl (by unfold turnB; rw [hg1]; simp))
          refine XK.if_ rfl (fun ht => ?_) (fun ht => ?_)
          ·

            refine XK.region ?_
            refine xk_move rfl (by decide) ?_
            refine xk_move rfl (by decide) ?_
            refine xk_conv (ds := .int .i64) (by kernel_rfl) (by kernel_rfl) rfl (wrap_u32 (by omega)) (by decide) ?_
            refine xk_buildS (zs := [.int .i64 0, .int .i64 0, .int .u32 0, .int .u32 0]) (L := [(0, 1), (1, 1), (2, 1), (3, 1)]) (zeroB_of (by kernel_rfl)) (by kernel_rfl) rfl (by simp [fillL, setN, Value.cells]; rfl) (by decide) ?_
            refine xk_slice (el := 76) (sz := 4) (zs := [.int .i64 0, .int .i64 0, .int .u32 0, .int .u32 0]) (by kernel_rfl) (zeroB_of (by kernel_rfl)) (by kernel_rfl) rfl (by decide) (by decide) rfl (by simp [fillL, setN, Value.cells, List.range_succ, List.set]; rfl) (by decide) fun g7 => ?_
            refine xk_appendT 1 4 24 1 (n' := l4.length + 1) (el := 76) (by kernel_rfl) (by kernel_rfl) (by decide) rfl rfl rfl (sl_blk 0 rfl rfl) (by simp [Value.oneCell']) rfl (by omega) (by omega) (by decide) fun A9 c9 => ?_
            dsimp only [List.set]
            rw [show l4.flatMap Stp.cells ++ [Value.int .i64 22, .int .i64 4, .int .u32 (k : Int), .int .u32 1] = (l4 ++ [(⟨22, 4, (k : Int), 1⟩ : Stp)]).flatMap Stp.cells by simp [Stp.cells]]
            refine XK.weak [1, 2, 3, 4] rfl (by decide) (R' := [qc, qd, q, all w]) (by simp) ?_
            refine xk_assign rfl (by decide) ?_
            refine XK.nilN ?_

            refine XK.region ?_
            refine xk_move rfl (by decide) ?_
            refine xk_add rfl rfl (wrap_in (by omega)) (by decide) ?_
            refine xk_assign rfl (by decide) ?_
            refine XK.nilN ?_
            exact XK.envS [(15, .int .i64 ((k : Int) + 1)), (11, .slice A9 (l4.length + 1) c9), (9, .slice (some ⟨bK, oK, none⟩) s.clocks.length cAC), (7, .slice (some ⟨bD, oD, none⟩) s.domains.length cAD), (5, .pointer (some ⟨g3, 0, none⟩)), (4, .pointer (some ⟨g2, 0, none⟩)), (3, .pointer (some ⟨g1, 0, none⟩))] (XK.round (s.resets.length - (k + 1)) (by omega) ⟨k + 1, (l4 ++ [(⟨22, 4, (k : Int), 1⟩ : Stp)]), A9, c9, by omega, by rw [stepL_next hget, if_pos ht, hl4, List.append_assoc], by simp; omega, rfl, by simp, rfl, by simp⟩)
          ·
            refine XK.skip ?_
            refine XK.norm ?_

            refine XK.region ?_
            refine xk_move rfl (by decide) ?_
            refine xk_add rfl rfl (wrap_in (by omega)) (by decide) ?_
            refine xk_assign rfl (by decide) ?_
            refine XK.nilN ?_
            exact XK.envS [(15, .int .i64 ((k : Int) + 1)), (11, .slice Ao4 l4.length co4), (9, .slice (some ⟨bK, oK, none⟩) s.clocks.length cAC), (7, .slice (some ⟨bD, oD, none⟩) s.domains.length cAD), (5, .pointer (some ⟨g3, 0, none⟩)), (4, .pointer (some ⟨g2, 0, none⟩)), (3, .pointer (some ⟨g1, 0, none⟩))] (XK.round (s.resets.length - (k + 1)) (by omega) ⟨k + 1, l4, Ao4, co4, by omega, by rw [stepL_next hget, if_neg ht, List.append_nil]; exact hl4, by omega, rfl, rfl, rfl, rfl⟩)
        ·
          refine XK.exit ?_
          refine XK.norm ?_
          refine XK.seq ?_
          refine XK.seq ?_
          have hke4 : k = s.resets.length := by have h' : ¬ (k : Int) < ((s.resets.length : Nat) : Int) := hin; omega
          rw [hke4, List.take_of_length_le (by simp)] at hl4
          clear hin
          have hbb4 : l4.length ≤ 19 := by omega
          clear hb4 hke4
          clear hk4

          refine XK.region ?_
          refine xk_move rfl (by decide) ?_
          refine xk_len (el := 3) (by kernel_rfl) rfl (by decide) ?_
          refine xk_sub rfl rfl (wrap_in (by omega)) (by decide) ?_
          refine xk_assign rfl (by decide) ?_
          refine XK.nilN ?_
          refine XK.envS [(16, .int .i64 ((s.clocks.length : Int) - 1)), (11, .slice Ao4 l4.length co4), (9, .slice (some ⟨bK, oK, none⟩) s.clocks.length cAC), (7, .slice (some ⟨bD, oD, none⟩) s.domains.length cAD), (5, .pointer (some ⟨g3, 0, none⟩)), (4, .pointer (some ⟨g2, 0, none⟩)), (3, .pointer (some ⟨g1, 0, none⟩))] ?_
          refine XK.block ?_
          refine XK.loop (fun m e R H => ∃ (k : Nat) (v : Int) (l5 : List Stp) (Ao5 : Option Addr) (co5 : Nat), v + (k : Int) + 1 = s.clocks.length ∧ -1 ≤ v ∧ l5 = l4 ++ stepL 20 7 (fun _ => 0) (moreL ((List.range s.clocks.length).reverse.take k) y.c x.c) ∧ l5.length ≤ l4.length + k ∧ m = s.clocks.length - k ∧ e = [(16, .int .i64 v), (11, .slice Ao5 l5.length co5), (9, .slice (some ⟨bK, oK, none⟩) s.clocks.length cAC), (7, .slice (some ⟨bD, oD, none⟩) s.domains.length cAD), (5, .pointer (some ⟨g3, 0, none⟩)), (4, .pointer (some ⟨g2, 0, none⟩)), (3, .pointer (some ⟨g1, 0, none⟩))] ∧ R = [qc, qd, q, all w] ∧ H = [HP.own 76 4 (.slice Ao5 l5.length co5) l5.length (l5.flatMap Stp.cells), HP.blk g3 66 [.slice C1 y.d.length c1, .slice C2 y.c.length c2, .slice C3 y.l.length c3], HP.blk g2 66 [.slice B1 x.d.length b1, .slice B2 x.c.length b2, .slice B3 x.l.length b3], HP.blk g1 30 [.slice A1 s.clocks.length k1, .slice A2 s.domains.length k2, .slice A3 s.resets.length k3, .slice A4 s.devs.length k4]]) s.clocks.length ⟨0, _, l4, Ao4, co4, by omega, by omega, by simp [moreL, stepL], by omega, rfl, rfl, rfl, rfl⟩ fun m e R H hI => ?_
          obtain ⟨k, v, l5, Ao5, co5, hv5, hv51, hl5, hb5, rfl, rfl, rfl, rfl⟩ := hI
          refine XK.seq ?_
          refine XK.seq ?_

          refine XK.region ?_
          refine xk_move rfl (by decide) ?_
          refine xk_geq rfl rfl (by decide) ?_
          refine XK.nilN ?_
          refine XK.if_ rfl (fun hin => ?_) (fun hin => ?_)
          ·
            refine XK.skip ?_
            refine XK.norm ?_
            refine XK.seq ?_
            refine XK.block ?_
            obtain ⟨i, rfl⟩ : ∃ i : Nat, v = (i : Int) := ⟨v.toNat, by have h' : (0 : Int) ≤ v := hin; omega⟩
            have hkn : i < s.clocks.length := by omega
            have hget : (List.range s.clocks.length).reverse[k]? = some i := revr_get (by omega)
            refine XK.cutB 166 (turnB y.c x.c i = true) ?_ ?_
            · skip

              refine XK.draw 14 (by kernel_rfl) (by kernel_rfl) ?_
              refine XA.dA 0 rfl rfl rfl (does_field (off := 1) (by kernel_rfl) rfl) ?_
              refine XA.dA 1 rfl rfl rfl (does_ld rfl) ?_
              refine XA.dA 2 rfl rfl rfl (does_move rfl) ?_
              refine XA.dA 3 rfl rfl rfl (does_move rfl) ?_
              refine XA.dA 4 rfl rfl rfl (does_at i (oK + i) (el := 3) (sz := 1) (by kernel_rfl) (by kernel_rfl) rfl rfl (by omega) (by omega) (by omega)) ?_
              refine XA.dA 5 rfl rfl rfl (does_load (by kernel_rfl) rfl (Rd.ro (p := qc) (by simp) hzK (hcK i _ (rangeC_get hkn)))) ?_
              refine XA.next 6 rfl (by kernel_rfl) ?_
              refine xk_callR (f := 59) (fi := []) (ca := []) (by kernel_rfl) rfl rfl (by decide) (fun w1 st => refHas_any B2 _ b2 i x.c w1 (hx2.le (all_le (st.started (by simp)))) rfl (by omega)) ?_
              refine XA.bk ?_
              refine XA.dA 7 rfl rfl rfl (does_move rfl) ?_
              refine XA.splitB (t := 157) rfl (fun hg1 => ?_) (fun hg1 => ?_)
              ·
                refine XA.dT 8 rfl rfl rfl (does_field (off := 1) (by kernel_rfl) rfl) ?_
                refine XA.dT 9 rfl rfl rfl (does_ld rfl) ?_
                refine XA.dT 10 rfl rfl rfl (does_move rfl) ?_
                refine XA.dT 11 rfl rfl rfl (does_move rfl) ?_
                refine XA.dT 12 rfl rfl rfl (does_at i (oK + i) (el := 3) (sz := 1) (by kernel_rfl) (by kernel_rfl) rfl rfl (by omega) (by omega) (by omega)) ?_
                refine XA.dT 13 rfl rfl rfl (does_load (by kernel_rfl) rfl (Rd.ro (p := qc) (by simp) hzK (hcK i _ (rangeC_get hkn)))) ?_
                refine XA.next 14 rfl (by kernel_rfl) ?_
                refine xk_guardT rfl rfl ?_; refine xk_callR (f := 59) (fi := []) (ca := []) (by kernel_rfl) rfl rfl (by decide) (fun w1 st => refHas_any C2 _ c2 i y.c w1 (hy2.le (all_le (st.started (by simp)))) rfl (by omega)) ?_
                refine XA.bt ?_
                refine XA.next 15 rfl (by kernel_rfl) ?_
                refine xk_guardT rfl rfl ?_; refine xk_not rfl (by decide) ?_
                refine XA.bt ?_
                refine XA.next 16 rfl (by kernel_rfl) ?_
                (first | refine xk_pickT rfl rfl (by decide) ?_ | refine xk_pickF rfl rfl (by decide) ?_)
                refine XA.bt ?_
                refine XA.done (by kernel_rfl) ?_
                refine XK.norm ?_
                exact XK.meetB (by repeat (first | exact trivial | refine ⟨rfl, ?_⟩)) (get_bool rfl (by unfold turnB; rw [hg1, Bool.true_and]))
              ·
                refine XA.dF 8 rfl rfl rfl rfl ?_
                refine XA.dF 9 rfl rfl rfl rfl ?_
                refine XA.dF 10 rfl rfl rfl rfl ?_
                refine XA.dF 11 rfl rfl rfl rfl ?_
                refine XA.dF 12 rfl rfl rfl rfl ?_
                refine XA.dF 13 rfl rfl rfl rfl ?_
                refine XA.next 14 rfl (by kernel_rfl) ?_
                refine xk_guardF rfl rfl rfl (by decide) ?_
                refine XA.bt ?_
                refine XA.next 15 rfl (by kernel_rfl) ?_
                refine xk_guardF rfl rfl rfl (by decide) ?_
                refine XA.bt ?_
                refine XA.next 16 rfl (by kernel_rfl) ?_
                (first | refine xk_pickT rfl rfl (by decide) ?_ | refine xk_pickF rfl rfl (by decide) ?_)
                refine XA.bt ?_
                refine XA.done (by kernel_rfl) ?_
                refine XK.norm ?_
                exact XK.meetB (by repeat (first | exact trivial | refine ⟨rfl, ?_⟩)) (get_false rfl (by unfold turnB; rw [hg1]; simp))
            refine XK.if_ rfl (fun ht => ?_) (fun ht => ?_)
            ·

              refine XK.region ?_
              refine xk_move rfl (by decide) ?_
              refine xk_move rfl (by decide) ?_
              refine xk_move rfl (by decide) ?_
              refine xk_at i (oK + i) (el := 3) (sz := 1) (by kernel_rfl) (by kernel_rfl) rfl rfl (by omega) (by omega) (by omega) (by decide) ?_
              refine xk_load (by kernel_rfl) rfl (Rd.ro (p := qc) (by simp) hzK (hcK i _ (rangeC_get hkn))) (by decide) ?_
              refine xk_conv (ds := .int .i64) (by kernel_rfl) (by kernel_rfl) rfl (wrap_u32 (by omega)) (by decide) ?_
              refine xk_buildS (zs := [.int .i64 0, .int .i64 0, .int .u32 0, .int .u32 0]) (L := [(0, 1), (1, 1), (2, 1), (3, 1)]) (zeroB_of (by kernel_rfl)) (by kernel_rfl) rfl (by simp [fillL, setN, Value.cells]; rfl) (by decide) ?_
              refine xk_slice (el := 76) (sz := 4) (zs := [.int .i64 0, .int .i64 0, .int .u32 0, .int .u32 0]) (by kernel_rfl) (zeroB_of (by kernel_rfl)) (by kernel_rfl) rfl (by decide) (by decide) rfl (by simp [fillL, setN, Value.cells, List.range_succ, List.set]; rfl) (by decide) fun g8 => ?_
              refine xk_appendT 1 4 24 1 (n' := l5.length + 1) (el := 76) (by kernel_rfl) (by kernel_rfl) (by decide) rfl rfl rfl (sl_blk 0 rfl rfl) (by simp [Value.oneCell']) rfl (by omega) (by omega) (by decide) fun A9 c9 => ?_
              dsimp only [List.set]
              rw [show l5.flatMap Stp.cells ++ [Value.int .i64 20, .int .i64 7, .int .u32 (i : Int), .int .u32 0] = (l5 ++ [(⟨20, 7, (i : Int), 0⟩ : Stp)]).flatMap Stp.cells by simp [Stp.cells]]
              refine XK.weak [1, 2, 3, 4] rfl (by decide) (R' := [qc, qd, q, all w]) (by simp) ?_
              refine xk_assign rfl (by decide) ?_
              refine XK.nilN ?_

              refine XK.region ?_
              refine xk_move rfl (by decide) ?_
              refine xk_sub rfl rfl (wrap_in (by omega)) (by decide) ?_
              refine xk_assign rfl (by decide) ?_
              refine XK.nilN ?_
              exact XK.envS [(16, .int .i64 ((i : Int) - 1)), (11, .slice A9 (l5.length + 1) c9), (9, .slice (some ⟨bK, oK, none⟩) s.clocks.length cAC), (7, .slice (some ⟨bD, oD, none⟩) s.domains.length cAD), (5, .pointer (some ⟨g3, 0, none⟩)), (4, .pointer (some ⟨g2, 0, none⟩)), (3, .pointer (some ⟨g1, 0, none⟩))] (XK.round (s.clocks.length - (k + 1)) (by omega) ⟨k + 1, ((i : Int) - 1), (l5 ++ [(⟨20, 7, (i : Int), 0⟩ : Stp)]), A9, c9, by omega, by omega, by rw [stepL_next hget, if_pos ht, hl5, List.append_assoc], by simp; omega, rfl, by simp, rfl, by simp⟩)
            ·
              refine XK.skip ?_
              refine XK.norm ?_

              refine XK.region ?_
              refine xk_move rfl (by decide) ?_
              refine xk_sub rfl rfl (wrap_in (by omega)) (by decide) ?_
              refine xk_assign rfl (by decide) ?_
              refine XK.nilN ?_
              exact XK.envS [(16, .int .i64 ((i : Int) - 1)), (11, .slice Ao5 l5.length co5), (9, .slice (some ⟨bK, oK, none⟩) s.clocks.length cAC), (7, .slice (some ⟨bD, oD, none⟩) s.domains.length cAD), (5, .pointer (some ⟨g3, 0, none⟩)), (4, .pointer (some ⟨g2, 0, none⟩)), (3, .pointer (some ⟨g1, 0, none⟩))] (XK.round (s.clocks.length - (k + 1)) (by omega) ⟨k + 1, ((i : Int) - 1), l5, Ao5, co5, by omega, by omega, by rw [stepL_next hget, if_neg ht, List.append_nil]; exact hl5, by omega, rfl, rfl, rfl, rfl⟩)
          ·
            refine XK.exit ?_
            refine XK.norm ?_
            refine XK.seq ?_
            refine XK.seq ?_
            have hke5 : k = s.clocks.length := by have h' : ¬ (0 : Int) ≤ v := hin; omega
            rw [hke5, List.take_of_length_le (by simp)] at hl5
            clear hin
            have hbb5 : l5.length ≤ 28 := by omega
            clear hb5 hke5 hv5 hv51

            refine XK.region ?_
            refine xk_move rfl (by decide) ?_
            refine xk_len (el := 3) (by kernel_rfl) rfl (by decide) ?_
            refine xk_sub rfl rfl (wrap_in (by omega)) (by decide) ?_
            refine xk_assign rfl (by decide) ?_
            refine XK.nilN ?_
            refine XK.envS [(17, .int .i64 ((s.domains.length : Int) - 1)), (11, .slice Ao5 l5.length co5), (9, .slice (some ⟨bK, oK, none⟩) s.clocks.length cAC), (7, .slice (some ⟨bD, oD, none⟩) s.domains.length cAD), (5, .pointer (some ⟨g3, 0, none⟩)), (4, .pointer (some ⟨g2, 0, none⟩)), (3, .pointer (some ⟨g1, 0, none⟩))] ?_
            refine XK.block ?_
            refine XK.loop (fun m e R H => ∃ (k : Nat) (v : Int) (l6 : List Stp) (Ao6 : Option Addr) (co6 : Nat), v + (k : Int) + 1 = s.domains.length ∧ -1 ≤ v ∧ l6 = l5 ++ stepL 17 4 (retV s) (moreL ((List.range s.domains.length).reverse.take k) y.d x.d) ∧ l6.length ≤ l5.length + k ∧ m = s.domains.length - k ∧ e = [(17, .int .i64 v), (11, .slice Ao6 l6.length co6), (9, .slice (some ⟨bK, oK, none⟩) s.clocks.length cAC), (7, .slice (some ⟨bD, oD, none⟩) s.domains.length cAD), (5, .pointer (some ⟨g3, 0, none⟩)), (4, .pointer (some ⟨g2, 0, none⟩)), (3, .pointer (some ⟨g1, 0, none⟩))] ∧ R = [qc, qd, q, all w] ∧ H = [HP.own 76 4 (.slice Ao6 l6.length co6) l6.length (l6.flatMap Stp.cells), HP.blk g3 66 [.slice C1 y.d.length c1, .slice C2 y.c.length c2, .slice C3 y.l.length c3], HP.blk g2 66 [.slice B1 x.d.length b1, .slice B2 x.c.length b2, .slice B3 x.l.length b3], HP.blk g1 30 [.slice A1 s.clocks.length k1, .slice A2 s.domains.length k2, .slice A3 s.resets.length k3, .slice A4 s.devs.length k4]]) s.domains.length ⟨0, _, l5, Ao5, co5, by omega, by omega, by simp [moreL, stepL], by omega, rfl, rfl, rfl, rfl⟩ fun m e R H hI => ?_
            obtain ⟨k, v, l6, Ao6, co6, hv6, hv61, hl6, hb6, rfl, rfl, rfl, rfl⟩ := hI
            refine XK.seq ?_
            refine XK.seq ?_

            refine XK.region ?_
            refine xk_move rfl (by decide) ?_
            refine xk_geq rfl rfl (by decide) ?_
            refine XK.nilN ?_
            refine XK.if_ rfl (fun hin => ?_) (fun hin => ?_)
            ·
              refine XK.skip ?_
              refine XK.norm ?_
              refine XK.seq ?_
              refine XK.block ?_
              obtain ⟨i, rfl⟩ : ∃ i : Nat, v = (i : Int) := ⟨v.toNat, by have h' : (0 : Int) ≤ v := hin; omega⟩
              have hkn : i < s.domains.length := by omega
              have hget : (List.range s.domains.length).reverse[k]? = some i := revr_get (by omega)
              refine XK.cutB 199 (turnB y.d x.d i = true) ?_ ?_
              · skip

                refine XK.draw 14 (by kernel_rfl) (by kernel_rfl) ?_
                refine XA.dA 0 rfl rfl rfl (does_field (off := 0) (by kernel_rfl) rfl) ?_
                refine XA.dA 1 rfl rfl rfl (does_ld rfl) ?_
                refine XA.dA 2 rfl rfl rfl (does_move rfl) ?_
                refine XA.dA 3 rfl rfl rfl (does_move rfl) ?_
                refine XA.dA 4 rfl rfl rfl (does_at i (oD + i) (el := 3) (sz := 1) (by kernel_rfl) (by kernel_rfl) rfl rfl (by omega) (by omega) (by omega)) ?_
                refine XA.dA 5 rfl rfl rfl (does_load (by kernel_rfl) rfl (Rd.ro (p := qd) (by simp) hzD (hcD i _ (rangeC_get hkn)))) ?_
                refine XA.next 6 rfl (by kernel_rfl) ?_
                refine xk_callR (f := 59) (fi := []) (ca := []) (by kernel_rfl) rfl rfl (by decide) (fun w1 st => refHas_any B1 _ b1 i x.d w1 (hx1.le (all_le (st.started (by simp)))) rfl (by omega)) ?_
                refine XA.bk ?_
                refine XA.dA 7 rfl rfl rfl (does_move rfl) ?_
                refine XA.splitB (t := 190) rfl (fun hg1 => ?_) (fun hg1 => ?_)
                ·
                  refine XA.dT 8 rfl rfl rfl (does_field (off := 0) (by kernel_rfl) rfl) ?_
                  refine XA.dT 9 rfl rfl rfl (does_ld rfl) ?_
                  refine XA.dT 10 rfl rfl rfl (does_move rfl) ?_
                  refine XA.dT 11 rfl rfl rfl (does_move rfl) ?_
                  refine XA.dT 12 rfl rfl rfl (does_at i (oD + i) (el := 3) (sz := 1) (by kernel_rfl) (by kernel_rfl) rfl rfl (by omega) (by omega) (by omega)) ?_
                  refine XA.dT 13 rfl rfl rfl (does_load (by kernel_rfl) rfl (Rd.ro (p := qd) (by simp) hzD (hcD i _ (rangeC_get hkn)))) ?_
                  refine XA.next 14 rfl (by kernel_rfl) ?_
                  refine xk_guardT rfl rfl ?_; refine xk_callR (f := 59) (fi := []) (ca := []) (by kernel_rfl) rfl rfl (by decide) (fun w1 st => refHas_any C1 _ c1 i y.d w1 (hy1.le (all_le (st.started (by simp)))) rfl (by omega)) ?_
                  refine XA.bt ?_
                  refine XA.next 15 rfl (by kernel_rfl) ?_
                  refine xk_guardT rfl rfl ?_; refine xk_not rfl (by decide) ?_
                  refine XA.bt ?_
                  refine XA.next 16 rfl (by kernel_rfl) ?_
                  (first | refine xk_pickT rfl rfl (by decide) ?_ | refine xk_pickF rfl rfl (by decide) ?_)
                  refine XA.bt ?_
                  refine XA.done (by kernel_rfl) ?_
                  refine XK.norm ?_
                  exact XK.meetB (by repeat (first | exact trivial | refine ⟨rfl, ?_⟩)) (get_bool rfl (by unfold turnB; rw [hg1, Bool.true_and]))
                ·
                  refine XA.dF 8 rfl rfl rfl rfl ?_
                  refine XA.dF 9 rfl rfl rfl rfl ?_
                  refine XA.dF 10 rfl rfl rfl rfl ?_
                  refine XA.dF 11 rfl rfl rfl rfl ?_
                  refine XA.dF 12 rfl rfl rfl rfl ?_
                  refine XA.dF 13 rfl rfl rfl rfl ?_
                  refine XA.next 14 rfl (by kernel_rfl) ?_
                  refine xk_guardF rfl rfl rfl (by decide) ?_
                  refine XA.bt ?_
                  refine XA.next 15 rfl (by kernel_rfl) ?_
                  refine xk_guardF rfl rfl rfl (by decide) ?_
                  refine XA.bt ?_
                  refine XA.next 16 rfl (by kernel_rfl) ?_
                  (first | refine xk_pickT rfl rfl (by decide) ?_ | refine xk_pickF rfl rfl (by decide) ?_)
                  refine XA.bt ?_
                  refine XA.done (by kernel_rfl) ?_
                  refine XK.norm ?_
                  exact XK.meetB (by repeat (first | exact trivial | refine ⟨rfl, ?_⟩)) (get_false rfl (by unfold turnB; rw [hg1]; simp))
              refine XK.if_ rfl (fun ht => ?_) (fun ht => ?_)
              ·
                refine XK.seq ?_

                refine XK.region ?_
                refine xk_assign rfl (by decide) ?_
                refine XK.nilN ?_
                refine XK.seq ?_
                refine XK.seq ?_

                obtain ⟨dm, hdm⟩ : ∃ dm, s.domains[i]? = some dm := ⟨_, List.getElem?_eq_getElem hkn⟩
                obtain ⟨bM, oM, rM, rfl, hzM, _, rfl, hcM⟩ := hSP.dom.rowP hdm
                have hret := retV_at hdm
                refine XK.draw 6 (by kernel_rfl) (by kernel_rfl) ?_
                refine XA.dA 0 rfl rfl rfl (does_field (off := 1) (by kernel_rfl) rfl) ?_
                refine XA.dA 1 rfl rfl rfl (does_ld rfl) ?_
                refine XA.dA 2 rfl rfl rfl (does_move rfl) ?_
                refine XA.dA 3 rfl rfl rfl (does_move rfl) ?_
                refine XA.dA 4 rfl rfl rfl (does_at i (oD + i) (el := 3) (sz := 1) (by kernel_rfl) (by kernel_rfl) rfl rfl (by omega) (by omega) (by omega)) ?_
                refine XA.dA 5 rfl rfl rfl (does_load (by kernel_rfl) rfl (Rd.ro (p := qd) (by simp) hzD (hcD i _ (rangeC_get hkn)))) ?_
                refine XA.next 6 rfl (by kernel_rfl) ?_
                refine xk_at i (oM + i * 3) (el := 89) (sz := 3) (by kernel_rfl) (by kernel_rfl) rfl rfl (by omega) (by omega) (by omega) (by decide) ?_
                refine XA.bt ?_
                refine XA.next 7 rfl (by kernel_rfl) ?_
                refine xk_field (off := 2) (by kernel_rfl) rfl (by decide) ?_
                refine XA.bt ?_
                refine XA.next 8 rfl (by kernel_rfl) ?_
                refine xk_load (by kernel_rfl) rfl (Rd.ro (p := q) (by simp) hzM (hcM 2 _ rfl)) (by decide) ?_
                refine XA.bt ?_
                refine XA.done (by kernel_rfl) ?_
                refine XK.norm ?_
                refine XK.cond rfl (fun hr => ?_) (fun hr => ?_)
                ·

                  refine XK.region ?_
                  refine xk_assign rfl (by decide) ?_
                  refine XK.nilN ?_

                  refine XK.region ?_
                  refine xk_move rfl (by decide) ?_
                  refine xk_move rfl (by decide) ?_
                  refine xk_move rfl (by decide) ?_
                  refine xk_at i (oD + i) (el := 3) (sz := 1) (by kernel_rfl) (by kernel_rfl) rfl rfl (by omega) (by omega) (by omega) (by decide) ?_
                  refine xk_load (by kernel_rfl) rfl (Rd.ro (p := qd) (by simp) hzD (hcD i _ (rangeC_get hkn))) (by decide) ?_
                  refine xk_conv (ds := .int .i64) (by kernel_rfl) (by kernel_rfl) rfl (wrap_u32 (by omega)) (by decide) ?_
                  refine xk_move rfl (by decide) ?_
                  refine xk_buildS (zs := [.int .i64 0, .int .i64 0, .int .u32 0, .int .u32 0]) (L := [(0, 1), (1, 1), (2, 1), (3, 1)]) (zeroB_of (by kernel_rfl)) (by kernel_rfl) rfl (by simp [fillL, setN, Value.cells]; rfl) (by decide) ?_
                  refine xk_slice (el := 76) (sz := 4) (zs := [.int .i64 0, .int .i64 0, .int .u32 0, .int .u32 0]) (by kernel_rfl) (zeroB_of (by kernel_rfl)) (by kernel_rfl) rfl (by decide) (by decide) rfl (by simp [fillL, setN, Value.cells, List.range_succ, List.set]; rfl) (by decide) fun g9 => ?_
                  refine xk_appendT 1 4 24 1 (n' := l6.length + 1) (el := 76) (by kernel_rfl) (by kernel_rfl) (by decide) rfl rfl rfl (sl_blk 0 rfl rfl) (by simp [Value.oneCell']) rfl (by omega) (by omega) (by decide) fun A9 c9 => ?_
                  dsimp only [List.set]
                  rw [show l6.flatMap Stp.cells ++ [Value.int .i64 17, .int .i64 4, .int .u32 (i : Int), .int .u32 2] = (l6 ++ [(⟨17, 4, (i : Int), 2⟩ : Stp)]).flatMap Stp.cells by simp [Stp.cells]]
                  refine XK.weak [1, 2, 3, 4] rfl (by decide) (R' := [qc, qd, q, all w]) (by simp) ?_
                  refine xk_assign rfl (by decide) ?_
                  refine XK.nilN ?_

                  refine XK.region ?_
                  refine xk_move rfl (by decide) ?_
                  refine xk_sub rfl rfl (wrap_in (by omega)) (by decide) ?_
                  refine xk_assign rfl (by decide) ?_
                  refine XK.nilN ?_
                  exact XK.envS [(17, .int .i64 ((i : Int) - 1)), (11, .slice A9 (l6.length + 1) c9), (9, .slice (some ⟨bK, oK, none⟩) s.clocks.length cAC), (7, .slice (some ⟨bD, oD, none⟩) s.domains.length cAD), (5, .pointer (some ⟨g3, 0, none⟩)), (4, .pointer (some ⟨g2, 0, none⟩)), (3, .pointer (some ⟨g1, 0, none⟩))] (XK.round (s.domains.length - (k + 1)) (by omega) ⟨k + 1, ((i : Int) - 1), (l6 ++ [(⟨17, 4, (i : Int), 2⟩ : Stp)]), A9, c9, by omega, by omega, by rw [stepL_next hget, if_pos ht, hl6, List.append_assoc]; rw [hret, hr]; rfl, by simp; omega, rfl, by simp, rfl, by simp⟩)
                ·
                  refine XK.skip ?_
                  refine XK.norm ?_

                  refine XK.region ?_
                  refine xk_move rfl (by decide) ?_
                  refine xk_move rfl (by decide) ?_
                  refine xk_move rfl (by decide) ?_
                  refine xk_at i (oD + i) (el := 3) (sz := 1) (by kernel_rfl) (by kernel_rfl) rfl rfl (by omega) (by omega) (by omega) (by decide) ?_
                  refine xk_load (by kernel_rfl) rfl (Rd.ro (p := qd) (by simp) hzD (hcD i _ (rangeC_get hkn))) (by decide) ?_
                  refine xk_conv (ds := .int .i64) (by kernel_rfl) (by kernel_rfl) rfl (wrap_u32 (by omega)) (by decide) ?_
                  refine xk_move rfl (by decide) ?_
                  refine xk_buildS (zs := [.int .i64 0, .int .i64 0, .int .u32 0, .int .u32 0]) (L := [(0, 1), (1, 1), (2, 1), (3, 1)]) (zeroB_of (by kernel_rfl)) (by kernel_rfl) rfl (by simp [fillL, setN, Value.cells]; rfl) (by decide) ?_
                  refine xk_slice (el := 76) (sz := 4) (zs := [.int .i64 0, .int .i64 0, .int .u32 0, .int .u32 0]) (by kernel_rfl) (zeroB_of (by kernel_rfl)) (by kernel_rfl) rfl (by decide) (by decide) rfl (by simp [fillL, setN, Value.cells, List.range_succ, List.set]; rfl) (by decide) fun g10 => ?_
                  refine xk_appendT 1 4 24 1 (n' := l6.length + 1) (el := 76) (by kernel_rfl) (by kernel_rfl) (by decide) rfl rfl rfl (sl_blk 0 rfl rfl) (by simp [Value.oneCell']) rfl (by omega) (by omega) (by decide) fun A9 c9 => ?_
                  dsimp only [List.set]
                  rw [show l6.flatMap Stp.cells ++ [Value.int .i64 17, .int .i64 4, .int .u32 (i : Int), .int .u32 0] = (l6 ++ [(⟨17, 4, (i : Int), 0⟩ : Stp)]).flatMap Stp.cells by simp [Stp.cells]]
                  refine XK.weak [1, 2, 3, 4] rfl (by decide) (R' := [qc, qd, q, all w]) (by simp) ?_
                  refine xk_assign rfl (by decide) ?_
                  refine XK.nilN ?_

                  refine XK.region ?_
                  refine xk_move rfl (by decide) ?_
                  refine xk_sub rfl rfl (wrap_in (by omega)) (by decide) ?_
                  refine xk_assign rfl (by decide) ?_
                  refine XK.nilN ?_
                  exact XK.envS [(17, .int .i64 ((i : Int) - 1)), (11, .slice A9 (l6.length + 1) c9), (9, .slice (some ⟨bK, oK, none⟩) s.clocks.length cAC), (7, .slice (some ⟨bD, oD, none⟩) s.domains.length cAD), (5, .pointer (some ⟨g3, 0, none⟩)), (4, .pointer (some ⟨g2, 0, none⟩)), (3, .pointer (some ⟨g1, 0, none⟩))] (XK.round (s.domains.length - (k + 1)) (by omega) ⟨k + 1, ((i : Int) - 1), (l6 ++ [(⟨17, 4, (i : Int), 0⟩ : Stp)]), A9, c9, by omega, by omega, by rw [stepL_next hget, if_pos ht, hl6, List.append_assoc]; rw [hret, hr]; rfl, by simp; omega, rfl, by simp, rfl, by simp⟩)
              ·
                refine XK.skip ?_
                refine XK.norm ?_

                refine XK.region ?_
                refine xk_move rfl (by decide) ?_
                refine xk_sub rfl rfl (wrap_in (by omega)) (by decide) ?_
                refine xk_assign rfl (by decide) ?_
                refine XK.nilN ?_
                exact XK.envS [(17, .int .i64 ((i : Int) - 1)), (11, .slice Ao6 l6.length co6), (9, .slice (some ⟨bK, oK, none⟩) s.clocks.length cAC), (7, .slice (some ⟨bD, oD, none⟩) s.domains.length cAD), (5, .pointer (some ⟨g3, 0, none⟩)), (4, .pointer (some ⟨g2, 0, none⟩)), (3, .pointer (some ⟨g1, 0, none⟩))] (XK.round (s.domains.length - (k + 1)) (by omega) ⟨k + 1, ((i : Int) - 1), l6, Ao6, co6, by omega, by omega, by rw [stepL_next hget, if_neg ht, List.append_nil]; exact hl6, by omega, rfl, rfl, rfl, rfl⟩)
            ·
              refine XK.exit ?_
              refine XK.norm ?_
              refine XK.seq ?_
              have hke6 : k = s.domains.length := by have h' : ¬ (0 : Int) ≤ v := hin; omega
              rw [hke6, List.take_of_length_le (by simp)] at hl6
              clear hin

              refine XK.region ?_
              refine xk_move rfl (by decide) ?_
              refine xk_assign rfl (by decide) ?_
              refine XK.nilN ?_
              refine XK.ret ?_
              refine XK.norm ?_
              have hfin : l6 = allM s x y := by rw [hl6, hl5, hl4, hl3, hl2, hl1]; simp [allM, allL, List.append_assoc]
              refine XK.still [] [0] [] (by simp) rfl (by decide) (by decide) fun qf hqf _ hfr => ?_
              obtain ⟨Ff, sf, zf⟩ := hqf 0 _ (by simp) rfl
              obtain ⟨Av, cv, hv, hsv⟩ := SlS.of_own (Y := qf.Z) sf zf
              exact XK.ret1 rfl rfl fun w1 st => ⟨⟨_, rfl, by
                rw [← hfin]
                unfold StepsR
                rw [hv]
                exact ⟨Av, cv, rfl, SlS.le hsv (st.fresh_le (by simp) (hfr (by simp) (by simp)))⟩⟩, st.below (by simp)⟩

end Go.Proofs.YtbgibbbggajgaaaGreat
/- packages bits and word: fields of words. -/
namespace Go.Proofs.YtbgibbbggajgaaaGreat
set_option linter.all false
open Go.RowKit
def andN32 (a b : Int) : Int := IntKind.u32.wrap (BitVec.ofInt 32 a &&& ~~~ BitVec.ofInt 32 b).toNat
def or32 (a b : Int) : Int := IntKind.u32.wrap (BitVec.ofInt 32 a ||| BitVec.ofInt 32 b).toNat
/-- the mask of so many bits, from a bit on -/
def maskZ (many at' : Int) : Int := IntKind.u32.wrap (IntKind.u64.wrap (IntKind.u64.wrap (IntKind.u64.wrap (1 * 2 ^ min many.toNat 64) - 1) * 2 ^ min at'.toNat 64))
def putZ (w low many v : Int) : Int × Int := if andN32 v (maskZ many 0) ≠ 0 then (0, 1) else (or32 (andN32 w (maskZ many low)) (IntKind.u32.wrap (v * 2 ^ min low.toNat 32)), 0)
def putW (w low many v : Int) : Int × Int := if v < 0 ∨ IntKind.i64.wrap (1 * 2 ^ min many.toNat 64) ≤ v then (0, 1) else if (putZ w low many (IntKind.u32.wrap v)).2 ≠ 0 then (0, 1) else ((putZ w low many (IntKind.u32.wrap v)).1, 0)
def okF (low many : Int) : Prop := 1 ≤ many ∧ many ≤ 32 ∧ 0 ≤ low ∧ low ≤ 32 - many
def FieldOk (many : Int) (v : Value) (w w' : World) : Prop := ∃ g, v = .tuple #[.func (.func 150) #[] #[.pointer (some ⟨g, 0, none⟩)], .bool true] ∧ RP (fresh w w') g 0 (.int .i64 many)

theorem field1_any (a many : Int) (g : Nat) (w : World) (h : ROc w g 0 (.int .i64 many)) (ha : 0 ≤ a) (hm : 0 ≤ many) :
    Calls Tryz.prog 150 #[.int .i64 a, .pointer (some ⟨g, 0, none⟩)] w (Rt (.int .u32 (maskZ many a)) w) := by
  refine XK.enter (vs := [.int .i64 a, .pointer (some ⟨g, 0, none⟩)]) Tryz.func150 rfl Tryz.ntmps150 (by simp) ?_
  refine XK.seq ?_

  refine XK.region ?_
  refine xk_assign rfl (by decide) ?_
  refine XK.nilN ?_
  refine XK.seq ?_

  refine XK.region ?_
  refine xk_load (by kernel_rfl) rfl (Rd.roc (by simp) h) (by decide) ?_
  refine xk_shl rfl rfl (by omega) rfl (by decide) ?_
  refine xk_sub rfl rfl rfl (by decide) ?_
  refine xk_move rfl (by decide) ?_
  refine xk_shl rfl rfl (by omega) rfl (by decide) ?_
  refine xk_conv (kd := .u32) (ds := .int .u64) (by kernel_rfl) (by kernel_rfl) rfl rfl (by decide) ?_
  refine xk_assign rfl (by decide) ?_
  refine XK.nilN ?_
  refine XK.ret ?_
  refine XK.norm ?_
  exact XK.ret1 rfl rfl fun w1 st => ⟨rfl, st.below (by simp)⟩

theorem field_any (low many : Int) (w : World) (hok : okF low many) : Calls Tryz.prog 149 #[.int .i64 low, .int .i64 many] w (fun y w' => (∃ x, y = .returned x ∧ FieldOk many x w w') ∧ Below w.heap.size w w') := by
  refine XK.enter (vs := [.int .i64 low, .int .i64 many]) Tryz.func149 rfl Tryz.ntmps149 (by simp) ?_
  refine XK.seq ?_

  refine XK.region ?_
  refine xk_box rfl (by decide) fun g1 => ?_
  refine xk_assign rfl (by decide) ?_
  refine xk_assign rfl (by decide) ?_
  refine XK.nilN ?_
  refine XK.seq ?_
  refine XK.seq ?_

  refine XK.region ?_
  refine xk_ld rfl ?_
  refine xk_lss rfl rfl (by decide) ?_
  refine xk_move rfl (by decide) ?_
  (first | refine xk_split (t := 8) rfl (fun hg => ?_) (fun hg => ?_) | refine xk_splitB (t := 8) rfl (fun hg => ?_) (fun hg => ?_))
  ·
    refine xk_guardF rfl rfl rfl (by decide) ?_
    refine xk_guardF rfl rfl rfl (by decide) ?_
    (first | refine xk_pickT rfl rfl (by decide) ?_ | refine xk_pickF rfl rfl (by decide) ?_)
    refine xk_move rfl (by decide) ?_
    refine xk_guardF rfl rfl rfl (by decide) ?_
    refine xk_guardF rfl rfl rfl (by decide) ?_
    (first | refine xk_pickT rfl rfl (by decide) ?_ | refine xk_pickF rfl rfl (by decide) ?_)
    refine xk_move rfl (by decide) ?_
    refine xk_guardF rfl rfl rfl (by decide) ?_
    refine xk_guardF rfl rfl rfl (by decide) ?_
    refine xk_guardF rfl rfl rfl (by decide) ?_
    refine xk_guardF rfl rfl rfl (by decide) ?_
    (first | refine xk_pickT rfl rfl (by decide) ?_ | refine xk_pickF rfl rfl (by decide) ?_)
    refine XK.nilN ?_
    refine XK.cond rfl (fun _ => ?_) (fun h => by cases h)
    refine XK.seq ?_

    refine XK.region ?_
    refine xk_assign rfl (by decide) ?_
    refine xk_assign rfl (by decide) ?_
    refine XK.nilN ?_
    refine XK.ret ?_
    refine XK.norm ?_
    exact absurd hok (by unfold okF; omega)
  ·
    refine xk_guardT rfl rfl ?_; refine xk_ld rfl ?_
    refine xk_guardT rfl rfl ?_; refine xk_gtr rfl rfl (by decide) ?_
    (first | refine xk_pickT rfl rfl (by decide) ?_ | refine xk_pickF rfl rfl (by decide) ?_)
    refine xk_move rfl (by decide) ?_
    (first | refine xk_split (t := 12) rfl (fun hg => ?_) (fun hg => ?_) | refine xk_splitB (t := 12) rfl (fun hg => ?_) (fun hg => ?_))
    ·
      refine xk_guardF rfl rfl rfl (by decide) ?_
      refine xk_guardF rfl rfl rfl (by decide) ?_
      (first | refine xk_pickT rfl rfl (by decide) ?_ | refine xk_pickF rfl rfl (by decide) ?_)
      refine xk_move rfl (by decide) ?_
      refine xk_guardF rfl rfl rfl (by decide) ?_
      refine xk_guardF rfl rfl rfl (by decide) ?_
      refine xk_guardF rfl rfl rfl (by decide) ?_
      refine xk_guardF rfl rfl rfl (by decide) ?_
      (first | refine xk_pickT rfl rfl (by decide) ?_ | refine xk_pickF rfl rfl (by decide) ?_)
      refine XK.nilN ?_
      refine XK.cond rfl (fun _ => ?_) (fun h => by cases h)
      refine XK.seq ?_

      refine XK.region ?_
      refine xk_assign rfl (by decide) ?_
      refine xk_assign rfl (by decide) ?_
      refine XK.nilN ?_
      refine XK.ret ?_
      refine XK.norm ?_
      exact absurd hok (by unfold okF; omega)
    ·
      refine xk_guardT rfl rfl ?_; refine xk_move rfl (by decide) ?_
      refine xk_guardT rfl rfl ?_; refine xk_lss rfl rfl (by decide) ?_
      (first | refine xk_pickT rfl rfl (by decide) ?_ | refine xk_pickF rfl rfl (by decide) ?_)
      refine xk_move rfl (by decide) ?_
      (first | refine xk_split (t := 16) rfl (fun hg => ?_) (fun hg => ?_) | refine xk_splitB (t := 16) rfl (fun hg => ?_) (fun hg => ?_))
      ·
        refine xk_guardF rfl rfl rfl (by decide) ?_
        refine xk_guardF rfl rfl rfl (by decide) ?_
        refine xk_guardF rfl rfl rfl (by decide) ?_
        refine xk_guardF rfl rfl rfl (by decide) ?_
        (first | refine xk_pickT rfl rfl (by decide) ?_ | refine xk_pickF rfl rfl (by decide) ?_)
        refine XK.nilN ?_
        refine XK.cond rfl (fun _ => ?_) (fun h => by cases h)
        refine XK.seq ?_

        refine XK.region ?_
        refine xk_assign rfl (by decide) ?_
        refine xk_assign rfl (by decide) ?_
        refine XK.nilN ?_
        refine XK.ret ?_
        refine XK.norm ?_
        exact absurd hok (by unfold okF; omega)
      ·
        refine xk_guardT rfl rfl ?_; refine xk_move rfl (by decide) ?_
        refine xk_guardT rfl rfl ?_; refine xk_ld rfl ?_
        refine xk_guardT rfl rfl ?_; refine xk_sub rfl rfl (wrap_in (by omega)) (by decide) ?_
        refine xk_guardT rfl rfl ?_; refine xk_gtr rfl rfl (by decide) ?_
        (first | refine xk_pickT rfl rfl (by decide) ?_ | refine xk_pickF rfl rfl (by decide) ?_)
        refine XK.nilN ?_
        refine XK.if_ rfl (fun h => ?_) (fun h => ?_)
        ·
          refine XK.seq ?_

          refine XK.region ?_
          refine xk_assign rfl (by decide) ?_
          refine xk_assign rfl (by decide) ?_
          refine XK.nilN ?_
          refine XK.ret ?_
          refine XK.norm ?_
          exact absurd hok (by unfold okF; omega)
        ·
          refine XK.skip ?_
          refine XK.norm ?_
          refine XK.seq ?_

          refine XK.region ?_
          refine xk_func (vf := []) (vc := [.pointer (some ⟨g1, 0, none⟩)]) rfl rfl (by decide) ?_
          refine xk_assign rfl (by decide) ?_
          refine xk_assign rfl (by decide) ?_
          refine XK.nilN ?_
          refine XK.ret ?_
          refine XK.norm ?_
          refine XK.still [] [0] [] (by simp) rfl (by decide) (by decide) fun q hq _ hfr => ?_
          refine XK.ret2 rfl rfl rfl fun w1 st => ⟨⟨_, rfl, g1, rfl, (RP.of_blk (o := 0) (v := .int .i64 many) (hq 0 _ (by simp) rfl) rfl).le (st.fresh_le (by simp) (hfr (by simp) (by simp)))⟩, st.below (by simp)⟩

theorem putb_any (w0 low many v : Int) (w : World) (hok : okF low many) :
    Calls Tryz.prog 148 #[.int .u32 w0, .int .i64 low, .int .i64 many, .int .u32 v] w (Rt (.tuple #[.int .u32 (putZ w0 low many v).1, .int .i64 (putZ w0 low many v).2]) w) := by
  refine XK.enter (vs := [.int .u32 w0, .int .i64 low, .int .i64 many, .int .u32 v]) Tryz.func148 rfl Tryz.ntmps148 (by simp) ?_
  refine XK.seq ?_

  refine XK.region ?_
  refine xk_assign rfl (by decide) ?_
  refine xk_assign rfl (by decide) ?_
  refine XK.nilN ?_
  refine XK.seq ?_

  refine XK.region ?_
  refine xk_move rfl (by decide) ?_
  refine xk_move rfl (by decide) ?_
  refine xk_call [] (f := 149) (fi := []) (ca := []) (by kernel_rfl) rfl rfl (by decide) (by simp) (FieldOk many) (fun w1 st => field_any low many w1 hok) ?_
  rintro _ w1 q1 ⟨g, rfl, hrp⟩ hf _ _
  have hrp := hrp.le hf
  clear hf
  refine xk_move rfl (by decide) ?_
  refine xk_extract rfl rfl (by decide) ?_
  refine xk_extract rfl rfl (by decide) ?_
  refine xk_assign rfl (by decide) ?_
  refine xk_assign rfl (by decide) ?_
  refine XK.nilN ?_
  refine XK.seq ?_
  refine XK.seq ?_

  refine XK.region ?_
  refine xk_move rfl (by decide) ?_
  (first | refine xk_notD rfl (by decide) ?_ | refine xk_not rfl (by decide) ?_)
  refine XK.nilN ?_
  refine XK.cond rfl (fun h => ?_) (fun h => ?_)
  ·
    refine XK.seq ?_

    refine XK.region ?_
    refine xk_assign rfl (by decide) ?_
    refine xk_assign rfl (by decide) ?_
    refine XK.nilN ?_
    refine XK.ret ?_
    refine XK.norm ?_
    exact absurd h (by simp)
  ·
    refine XK.skip ?_
    refine XK.norm ?_
    refine XK.seq ?_
    refine XK.seq ?_

    refine XK.region ?_
    refine xk_move rfl (by decide) ?_
    refine xk_move rfl (by decide) ?_
    refine xk_callR (f := 150) (fi := []) (ca := [.pointer (some ⟨g, 0, none⟩)]) (by kernel_rfl) rfl rfl (by decide) (fun w1 st => field1_any 0 many g w1 (hrp.le (st.le (by simp))) (by unfold okF at hok; omega) (by unfold okF at hok; omega)) ?_
    refine xk_bits (c := andN32 v (maskZ many 0)) rfl rfl (fun _ => rfl) (by simp) (by decide) ?_
    refine xk_neq rfl rfl (by decide) ?_
    refine XK.nilN ?_
    refine XK.if_ rfl (fun h => ?_) (fun h => ?_)
    ·
      refine XK.seq ?_

      refine XK.region ?_
      refine xk_assign rfl (by decide) ?_
      refine xk_assign rfl (by decide) ?_
      refine XK.nilN ?_
      refine XK.ret ?_
      refine XK.norm ?_
      refine XK.ret2 rfl rfl rfl fun w1 st => ⟨by rw [putZ, if_pos h], st.below (by simp)⟩
    ·
      refine XK.skip ?_
      refine XK.norm ?_
      refine XK.seq ?_

      refine XK.draw 8 (by kernel_rfl) (by kernel_rfl) ?_
      refine XA.dA 0 rfl rfl rfl (does_move rfl) ?_
      refine XA.dA 1 rfl rfl rfl (does_move rfl) ?_
      refine XA.dA 2 rfl rfl rfl (does_move rfl) ?_
      refine XA.dA 5 rfl rfl rfl (does_move rfl) ?_
      refine XA.dA 6 rfl rfl rfl (does_move rfl) ?_
      refine XA.dA 7 rfl rfl rfl (does_shl rfl rfl (by unfold okF at hok; omega) rfl) ?_
      refine XA.next 3 rfl (by kernel_rfl) ?_
      refine xk_callR (f := 150) (fi := []) (ca := [.pointer (some ⟨g, 0, none⟩)]) (by kernel_rfl) rfl rfl (by decide) (fun w1 st => field1_any low many g w1 (hrp.le (st.le (by simp))) (by unfold okF at hok; omega) (by unfold okF at hok; omega)) ?_
      refine XA.bk ?_
      refine XA.dA 4 rfl rfl rfl (does_bits (c := andN32 w0 (maskZ many low)) rfl rfl (fun _ => rfl) (by simp)) ?_
      refine XA.next 8 rfl (by kernel_rfl) ?_
      refine xk_bits (c := or32 (andN32 w0 (maskZ many low)) (IntKind.u32.wrap (v * 2 ^ min low.toNat 32))) rfl rfl (fun _ => rfl) (by simp) (by decide) ?_
      refine XA.bt ?_
      refine XA.next 9 rfl (by kernel_rfl) ?_
      refine xk_assign rfl (by decide) ?_
      refine XA.bt ?_
      refine XA.next 10 rfl (by kernel_rfl) ?_
      refine xk_assign rfl (by decide) ?_
      refine XA.bt ?_
      refine XA.done (by kernel_rfl) ?_
      refine XK.norm ?_
      refine XK.ret ?_
      refine XK.norm ?_
      refine XK.ret2 rfl rfl rfl fun w1 st => ⟨by rw [putZ, if_neg h], st.below (by simp)⟩

theorem put_any (w0 low many v : Int) (w : World) (hok : okF low many) :
    Calls Tryz.prog 144 #[.int .u32 w0, .int .i64 low, .int .i64 many, .int .i64 v] w (Rt (.tuple #[.int .u32 (putW w0 low many v).1, .int .i64 (putW w0 low many v).2]) w) := by
  refine XK.enter (vs := [.int .u32 w0, .int .i64 low, .int .i64 many, .int .i64 v]) Tryz.func144 rfl Tryz.ntmps144 (by simp) ?_
  refine XK.seq ?_

  refine XK.region ?_
  refine xk_assign rfl (by decide) ?_
  refine xk_assign rfl (by decide) ?_
  refine XK.nilN ?_
  refine XK.seq ?_
  refine XK.seq ?_

  refine XK.region ?_
  refine xk_move rfl (by decide) ?_
  refine xk_lss rfl rfl (by decide) ?_
  refine xk_move rfl (by decide) ?_
  (first | refine xk_split (t := 13) rfl (fun hg => ?_) (fun hg => ?_) | refine xk_splitB (t := 13) rfl (fun hg => ?_) (fun hg => ?_))
  ·
    refine xk_guardF rfl rfl rfl (by decide) ?_
    refine xk_guardF rfl rfl rfl (by decide) ?_
    refine xk_guardF rfl rfl rfl (by decide) ?_
    refine xk_guardF rfl rfl rfl (by decide) ?_
    (first | refine xk_pickT rfl rfl (by decide) ?_ | refine xk_pickF rfl rfl (by decide) ?_)
    refine XK.nilN ?_
    refine XK.cond rfl (fun _ => ?_) (fun h => by cases h)
    refine XK.seq ?_

    refine XK.region ?_
    refine xk_assign rfl (by decide) ?_
    refine xk_assign rfl (by decide) ?_
    refine XK.nilN ?_
    refine XK.ret ?_
    refine XK.norm ?_
    refine XK.ret2 rfl rfl rfl fun w1 st => ⟨by rw [putW, if_pos (.inl hg)], st.below (by simp)⟩
  ·
    refine xk_guardT rfl rfl ?_; refine xk_move rfl (by decide) ?_
    refine xk_guardT rfl rfl ?_; refine xk_move rfl (by decide) ?_
    refine xk_guardT rfl rfl ?_; refine xk_shl rfl rfl (by unfold okF at hok; omega) rfl (by decide) ?_
    refine xk_guardT rfl rfl ?_; refine xk_geq rfl rfl (by decide) ?_
    (first | refine xk_pickT rfl rfl (by decide) ?_ | refine xk_pickF rfl rfl (by decide) ?_)
    refine XK.nilN ?_
    refine XK.if_ rfl (fun h => ?_) (fun h => ?_)
    ·
      refine XK.seq ?_

      refine XK.region ?_
      refine xk_assign rfl (by decide) ?_
      refine xk_assign rfl (by decide) ?_
      refine XK.nilN ?_
      refine XK.ret ?_
      refine XK.norm ?_
      refine XK.ret2 rfl rfl rfl fun w1 st => ⟨by rw [putW, if_pos (.inr h)], st.below (by simp)⟩
    ·
      refine XK.skip ?_
      have hno : ¬ (v < 0 ∨ IntKind.i64.wrap (1 * 2 ^ min many.toNat 64) ≤ v) := fun h2 => h2.elim hg h
      refine XK.norm ?_
      refine XK.seq ?_

      refine XK.region ?_
      refine xk_move rfl (by decide) ?_
      refine xk_move rfl (by decide) ?_
      refine xk_move rfl (by decide) ?_
      refine xk_move rfl (by decide) ?_
      refine xk_conv (kd := .u32) (ds := .int .i64) (by kernel_rfl) (by kernel_rfl) rfl rfl (by decide) ?_
      refine xk_callR (f := 148) (fi := []) (ca := []) (by kernel_rfl) rfl rfl (by decide) (fun w1 st => putb_any w0 low many (IntKind.u32.wrap v) w1 hok) ?_
      refine xk_move rfl (by decide) ?_
      refine xk_extract rfl rfl (by decide) ?_
      refine xk_extract rfl rfl (by decide) ?_
      refine xk_assign rfl (by decide) ?_
      refine xk_assign rfl (by decide) ?_
      refine XK.nilN ?_
      refine XK.seq ?_
      refine XK.seq ?_

      refine XK.region ?_
      refine xk_move rfl (by decide) ?_
      refine xk_neq rfl rfl (by decide) ?_
      refine XK.nilN ?_
      refine XK.if_ rfl (fun h2 => ?_) (fun h2 => ?_)
      ·
        refine XK.seq ?_

        refine XK.region ?_
        refine xk_assign rfl (by decide) ?_
        refine xk_assign rfl (by decide) ?_
        refine XK.nilN ?_
        refine XK.ret ?_
        refine XK.norm ?_
        refine XK.ret2 rfl rfl rfl fun w1 st => ⟨by rw [putW, if_neg hno, if_pos h2], st.below (by simp)⟩
      ·
        refine XK.skip ?_
        refine XK.norm ?_
        refine XK.seq ?_

        refine XK.region ?_
        refine xk_move rfl (by decide) ?_
        refine xk_assign rfl (by decide) ?_
        refine xk_assign rfl (by decide) ?_
        refine XK.nilN ?_
        refine XK.ret ?_
        refine XK.norm ?_
        refine XK.ret2 rfl rfl rfl fun w1 st => ⟨by rw [putW, if_neg hno, if_neg h2]; rfl, st.below (by simp)⟩

end Go.Proofs.YtbgibbbggajgaaaGreat
/- Events, as they lie in memory; what an audit counts and finds of them, in plain words; dead and each, walked. -/
namespace Go.Proofs.YtbgibbbggajgaaaGreat
set_option linter.all false
open Go.RowKit Go.Shelf
/-- an event: its cells, one by one; wA, wc: the slice of its words ws -/
structure Ev where
  kind : Int
  task : Int
  ck : Int
  dev : Int
  reg : Int
  cv : Int
  err : Int
  rv : Int
  aid : Int
  adev : Int
  adead : Bool
  av : Int
  alive : Bool
  wA : Option Addr
  wc : Nat
  ws : List Int
def Ev.cells (e : Ev) : List Value :=
  [.int .u8 e.kind, .int .i64 e.task, .int .u8 e.ck, .int .i64 e.dev, .int .i64 e.reg, .int .u32 e.cv, .int .i64 e.err, .int .u32 e.rv, .int .i64 e.aid, .int .i64 e.adev, .bool e.adead, .int .u32 e.av, .bool e.alive, .slice e.wA e.ws.length e.wc]
theorem Ev.cells_len (e : Ev) : e.cells.length = 14 := rfl
/-- the event at a place -/
def EvAt (w : World) (b o : Nat) (e : Ev) : Prop := ∀ f u, e.cells[f]? = some u → w.cell? ⟨b, o + f, none⟩ = some u
/-- words as cells -/
def u32Cells (zs : List Int) : List Value := zs.map (Value.int .u32)
def EvWs (w : World) (B : Nat) (e : Ev) : Prop := Sl w B 1 e.wA e.ws.length (u32Cells e.ws)
/-- events in memory: a slice of 14 cells an element; their words -/
def Evs (w : World) (B : Nat) (A : Option Addr) (evs : List Ev) : Prop := Sl w B 14 A evs.length (evs.flatMap Ev.cells) ∧ ∀ e ∈ evs, EvWs w B e
theorem Evs.at_ {w : World} {B : Nat} {A : Option Addr} {evs : List Ev} (h : Evs w B A evs) {k : Nat} {e : Ev} (hk : evs[k]? = some e) :
    ∃ b off, A = some ⟨b, off, none⟩ ∧ b < B ∧ EvAt w b (off + k * 14) e := by
  have hlt : k < evs.length := by
    rcases Nat.lt_or_ge k evs.length with h | h
    · exact h
    · rw [List.getElem?_eq_none h] at hk; cases hk
  obtain ⟨b, off, hA, hb, hc⟩ := Sl.at_ h.1 hlt
  refine ⟨b, off, hA, hb, fun f u hu => ?_⟩
  have hf : f < 14 := by
    rcases Nat.lt_or_ge f 14 with h | h
    · exact h
    · rw [List.getElem?_eq_none (by rw [Ev.cells_len]; exact h)] at hu; cases hu
  exact hc f u (by rw [flat_get Ev.cells 14 evs (fun _ _ => rfl) k f e hk hf]; exact hu)
theorem Evs.below {w w' : World} {B : Nat} {A : Option Addr} {evs : List Ev} (h : Evs w B A evs) (hb : Below B w w') : Evs w' B A evs := ⟨h.1.below hb, fun e he => (h.2 e he).below hb⟩
theorem Evs.thn {w w' : World} {A : Option Addr} {evs : List Ev} (h : Evs w w.heap.size A evs) (hb : Below w.heap.size w w') : Evs w' w'.heap.size A evs := ⟨h.1.thn hb, fun e he => (h.2 e he).thn hb⟩

end Go.Proofs.YtbgibbbggajgaaaGreat
/- package word: heads, rows of words; a step's words. -/
namespace Go.Proofs.YtbgibbbggajgaaaGreat
set_option linter.all false
open Go.RowKit
def packZ (m t p k : Int) : Int × Int :=
  if (putW 0 0 8 m).2 ≠ 0 then (0, (putW 0 0 8 m).2)
  else if (putW (putW 0 0 8 m).1 8 2 t).2 ≠ 0 then (0, (putW (putW 0 0 8 m).1 8 2 t).2)
  else if (putW (putW (putW 0 0 8 m).1 8 2 t).1 10 8 p).2 ≠ 0 then (0, (putW (putW (putW 0 0 8 m).1 8 2 t).1 10 8 p).2)
  else if (putW (putW (putW (putW 0 0 8 m).1 8 2 t).1 10 8 p).1 18 10 k).2 ≠ 0 then (0, (putW (putW (putW (putW 0 0 8 m).1 8 2 t).1 10 8 p).1 18 10 k).2)
  else ((putW (putW (putW (putW 0 0 8 m).1 8 2 t).1 10 8 p).1 18 10 k).1, 0)
theorem u32Cells_one (l : List Int) : ∀ u ∈ u32Cells l, u.oneCell' = true := by
  intro u hu
  simp only [u32Cells, List.mem_map] at hu
  obtain ⟨_, _, rfl⟩ := hu
  rfl
def RowOk (l : List Int) (v : Value) (w w' : World) : Prop := ∃ A c, v = .slice A l.length c ∧ SlS (fresh w w') 1 A l.length (u32Cells l)

theorem pack_any (m t p k : Int) (w : World) :
    Calls Tryz.prog 114 #[.agg #[.int .i64 m, .int .i64 t, .int .i64 p, .int .i64 k]] w (Rt (.tuple #[.int .u32 (packZ m t p k).1, .int .i64 (packZ m t p k).2]) w) := by
  refine XK.enter (vs := [.agg #[.int .i64 m, .int .i64 t, .int .i64 p, .int .i64 k]]) Tryz.func114 rfl Tryz.ntmps114 (by simp) ?_
  refine XK.seq ?_

  refine XK.region ?_
  refine xk_box rfl (by decide) fun g1 => ?_
  refine xk_assign rfl (by decide) ?_
  refine xk_assign rfl (by decide) ?_
  refine XK.nilN ?_
  refine XK.seq ?_

  refine XK.region ?_
  refine xk_field (off := 0) (by kernel_rfl) rfl (by decide) ?_
  refine xk_ld rfl ?_
  refine xk_callR (f := 144) (fi := []) (ca := []) (by kernel_rfl) rfl rfl (by decide) (fun w1 st => put_any 0 0 8 m w1 (by unfold okF; omega)) ?_
  refine xk_move rfl (by decide) ?_
  refine xk_extract rfl rfl (by decide) ?_
  refine xk_extract rfl rfl (by decide) ?_
  refine xk_assign rfl (by decide) ?_
  refine xk_assign rfl (by decide) ?_
  refine XK.nilN ?_
  refine XK.seq ?_
  refine XK.seq ?_

  refine XK.region ?_
  refine xk_move rfl (by decide) ?_
  refine xk_neq rfl rfl (by decide) ?_
  refine XK.nilN ?_
  refine XK.if_ rfl (fun h1 => ?_) (fun h1 => ?_)
  ·
    refine XK.seq ?_

    refine XK.region ?_
    refine xk_move rfl (by decide) ?_
    refine xk_assign rfl (by decide) ?_
    refine xk_assign rfl (by decide) ?_
    refine XK.nilN ?_
    refine XK.ret ?_
    refine XK.norm ?_
    refine XK.ret2 rfl rfl rfl fun w1 st => ⟨by rw [packZ, if_pos h1]; rfl, st.below (by simp)⟩
  ·
    refine XK.skip ?_
    refine XK.norm ?_
    refine XK.seq ?_
    refine XK.seq ?_

    refine XK.region ?_
    refine xk_move rfl (by decide) ?_
    refine xk_field (off := 1) (by kernel_rfl) rfl (by decide) ?_
    refine xk_ld rfl ?_
    refine xk_callR (f := 144) (fi := []) (ca := []) (by kernel_rfl) rfl rfl (by decide) (fun w1 st => put_any (putW 0 0 8 m).1 8 2 t w1 (by unfold okF; omega)) ?_
    refine xk_move rfl (by decide) ?_
    refine xk_extract rfl rfl (by decide) ?_
    refine xk_extract rfl rfl (by decide) ?_
    refine xk_assign rfl (by decide) ?_
    refine xk_assign rfl (by decide) ?_
    refine XK.nilN ?_
    refine XK.seq ?_

    refine XK.region ?_
    refine xk_move rfl (by decide) ?_
    refine xk_neq rfl rfl (by decide) ?_
    refine XK.nilN ?_
    refine XK.if_ rfl (fun h2 => ?_) (fun h2 => ?_)
    ·
      refine XK.seq ?_

      refine XK.region ?_
      refine xk_move rfl (by decide) ?_
      refine xk_assign rfl (by decide) ?_
      refine xk_assign rfl (by decide) ?_
      refine XK.nilN ?_
      refine XK.ret ?_
      refine XK.norm ?_
      refine XK.ret2 rfl rfl rfl fun w1 st => ⟨by rw [packZ, if_neg h1, if_pos h2]; rfl, st.below (by simp)⟩
    ·
      refine XK.skip ?_
      refine XK.norm ?_
      refine XK.seq ?_
      refine XK.seq ?_

      refine XK.region ?_
      refine xk_move rfl (by decide) ?_
      refine xk_field (off := 2) (by kernel_rfl) rfl (by decide) ?_
      refine xk_ld rfl ?_
      refine xk_callR (f := 144) (fi := []) (ca := []) (by kernel_rfl) rfl rfl (by decide) (fun w1 st => put_any (putW (putW 0 0 8 m).1 8 2 t).1 10 8 p w1 (by unfold okF; omega)) ?_
      refine xk_move rfl (by decide) ?_
      refine xk_extract rfl rfl (by decide) ?_
      refine xk_extract rfl rfl (by decide) ?_
      refine xk_assign rfl (by decide) ?_
      refine xk_assign rfl (by decide) ?_
      refine XK.nilN ?_
      refine XK.seq ?_

      refine XK.region ?_
      refine xk_move rfl (by decide) ?_
      refine xk_neq rfl rfl (by decide) ?_
      refine XK.nilN ?_
      refine XK.if_ rfl (fun h3 => ?_) (fun h3 => ?_)
      ·
        refine XK.seq ?_

        refine XK.region ?_
        refine xk_move rfl (by decide) ?_
        refine xk_assign rfl (by decide) ?_
        refine xk_assign rfl (by decide) ?_
        refine XK.nilN ?_
        refine XK.ret ?_
        refine XK.norm ?_
        refine XK.ret2 rfl rfl rfl fun w1 st => ⟨by rw [packZ, if_neg h1, if_neg h2, if_pos h3]; rfl, st.below (by simp)⟩
      ·
        refine XK.skip ?_
        refine XK.norm ?_
        refine XK.seq ?_
        refine XK.seq ?_

        refine XK.region ?_
        refine xk_move rfl (by decide) ?_
        refine xk_field (off := 3) (by kernel_rfl) rfl (by decide) ?_
        refine xk_ld rfl ?_
        refine xk_callR (f := 144) (fi := []) (ca := []) (by kernel_rfl) rfl rfl (by decide) (fun w1 st => put_any (putW (putW (putW 0 0 8 m).1 8 2 t).1 10 8 p).1 18 10 k w1 (by unfold okF; omega)) ?_
        refine xk_move rfl (by decide) ?_
        refine xk_extract rfl rfl (by decide) ?_
        refine xk_extract rfl rfl (by decide) ?_
        refine xk_assign rfl (by decide) ?_
        refine xk_assign rfl (by decide) ?_
        refine XK.nilN ?_
        refine XK.seq ?_

        refine XK.region ?_
        refine xk_move rfl (by decide) ?_
        refine xk_neq rfl rfl (by decide) ?_
        refine XK.nilN ?_
        refine XK.if_ rfl (fun h4 => ?_) (fun h4 => ?_)
        ·
          refine XK.seq ?_

          refine XK.region ?_
          refine xk_move rfl (by decide) ?_
          refine xk_assign rfl (by decide) ?_
          refine xk_assign rfl (by decide) ?_
          refine XK.nilN ?_
          refine XK.ret ?_
          refine XK.norm ?_
          refine XK.ret2 rfl rfl rfl fun w1 st => ⟨by rw [packZ, if_neg h1, if_neg h2, if_neg h3, if_pos h4]; rfl, st.below (by simp)⟩
        ·
          refine XK.skip ?_
          refine XK.norm ?_
          refine XK.seq ?_

          refine XK.region ?_
          refine xk_move rfl (by decide) ?_
          refine xk_assign rfl (by decide) ?_
          refine xk_assign rfl (by decide) ?_
          refine XK.nilN ?_
          refine XK.ret ?_
          refine XK.norm ?_
          refine XK.ret2 rfl rfl rfl fun w1 st => ⟨by rw [packZ, if_neg h1, if_neg h2, if_neg h3, if_neg h4]; rfl, st.below (by simp)⟩

theorem row_any (w0 : Int) (A : Option Addr) (n c : Nat) (zs : List Int) (w : World) (hs : SlS (all w) 1 A n (u32Cells zs)) (hn : n = zs.length) (hn2 : n ≤ 1000000) : Calls Tryz.prog 115 #[.int .u32 w0, .slice A n c] w (fun y w' => (∃ x, y = .returned x ∧ RowOk (w0 :: zs) x w w') ∧ Below w.heap.size w w') := by
  refine XK.enter (vs := [.int .u32 w0, .slice A n c]) Tryz.func115 rfl Tryz.ntmps115 (by simp) ?_
  refine XK.seq ?_

  refine XK.region ?_
  refine xk_assign rfl (by decide) ?_
  refine XK.nilN ?_
  refine XK.seq ?_

  refine XK.region ?_
  refine xk_move rfl (by decide) ?_
  refine xk_len (el := 32) (by kernel_rfl) rfl (by decide) ?_
  refine xk_add rfl rfl (wrap_in (by omega)) (by decide) ?_
  refine xk_makeCapT 1 4 (el := 32) (c := n + 1) (k0 := 1) (kd' := .i64) (by kernel_rfl) (by kernel_rfl) rfl (by rw [Int.natCast_add]; rfl) (by omega) (by omega) (by decide) fun g1 => ?_
  refine xk_assign rfl (by decide) ?_
  refine XK.nilN ?_
  refine XK.seq ?_

  refine XK.region ?_
  refine xk_move rfl (by decide) ?_
  refine xk_move rfl (by decide) ?_
  refine xk_slice (el := 32) (sz := 1) (zs := [.int .u32 0]) (by kernel_rfl) (zeroB_of (by kernel_rfl)) (by kernel_rfl) rfl (by decide) (by decide) rfl (by simp [fillL, setN, Value.cells, List.range_succ, List.set]; rfl) (by decide) fun g2 => ?_
  refine xk_appendT 1 1 4 1 (n' := 1) (el := 32) (by kernel_rfl) (by kernel_rfl) (by decide) rfl rfl rfl (sl_blk 0 rfl rfl) (by simp [Value.oneCell']) rfl (by omega) (by omega) (by decide) fun A1 c1 => ?_
  dsimp only [List.set]
  refine xk_assign rfl (by decide) ?_
  refine XK.nilN ?_
  refine XK.seq ?_

  refine XK.region ?_
  refine xk_move rfl (by decide) ?_
  refine xk_move rfl (by decide) ?_
  refine xk_appendT 1 1 4 n (n' := n + 1) (el := 32) (by kernel_rfl) (by kernel_rfl) (by decide) rfl rfl rfl (sl_ro (by simp) hs) (u32Cells_one _) (by omega) (by omega) (by omega) (by decide) fun A2 c2 => ?_
  dsimp only [List.set]
  refine xk_assign rfl (by decide) ?_
  refine XK.nilN ?_
  refine XK.ret ?_
  refine XK.norm ?_
  refine XK.still [] [1] [] (by simp) rfl (by decide) (by decide) fun q hq _ hfr => ?_
  obtain ⟨F2, sf2, zf2⟩ := hq 1 _ (by simp) rfl
  obtain ⟨Am, cm, hBm, hsm⟩ := SlS.of_own (Y := q.Z) sf2 zf2
  cases hBm
  subst hn
  refine XK.ret1 rfl rfl fun w1 st => ⟨⟨_, rfl, A2, c2, rfl, ?_⟩, st.below (by simp)⟩
  exact SlS.le hsm (st.fresh_le (by simp) (hfr (by simp) (by simp)))

end Go.Proofs.YtbgibbbggajgaaaGreat
/- A message's words, of any head: the program's and the reference's. -/
namespace Go.Proofs.YtbgibbbggajgaaaGreat
set_option linter.all false
open Go.RowKit
def CmdG (l : List Int) (e : Int) (v : Value) (w w' : World) : Prop := ∃ A c, v = .tuple #[.slice A l.length c, .int .i64 e] ∧ SlS (fresh w w') 1 A l.length (u32Cells l)
def cmdL (x : Int × Int) (zs : List Int) : List Int := if x.2 = 0 then x.1 :: zs else []
/-- a head's word, as the chapter says -/
def packR (m t p k : Int) : Int × Int := if (0 ≤ m ∧ m ≤ 255) ∧ (0 ≤ t ∧ t ≤ 3) ∧ (0 ≤ p ∧ p ≤ 255) ∧ (0 ≤ k ∧ k ≤ 1023) then (m + 256 * t + 1024 * p + 262144 * k, 0) else (0, 1)
theorem packR_17 : (List.range 1024).all (fun k => decide (packZ 4 0 17 k = packR 4 0 17 k)) = true := by decide +kernel
theorem packR_20 : (List.range 1024).all (fun k => decide (packZ 7 0 20 k = packR 7 0 20 k)) = true := by decide +kernel
theorem packR_22 : (List.range 1024).all (fun k => decide (packZ 4 0 22 k = packR 4 0 22 k)) = true := by decide +kernel
theorem packR_in {m p k : Int} (h : (List.range 1024).all (fun (k : Nat) => decide (packZ m 0 p k = packR m 0 p k)) = true) (h0 : 0 ≤ k) (h1 : k < 1024) : packZ m 0 p k = packR m 0 p k := by
  rw [List.all_eq_true] at h
  have := of_decide_eq_true (h k.toNat (List.mem_range.2 (by omega)))
  rwa [show ((k.toNat : Nat) : Int) = k by omega] at this
theorem packZ_out {m p k : Int} (a1 : (putW 0 0 8 m).2 = 0) (a2 : (putW (putW 0 0 8 m).1 8 2 0).2 = 0) (a3 : (putW (putW (putW 0 0 8 m).1 8 2 0).1 10 8 p).2 = 0) (hk : ¬ (0 ≤ k ∧ k < 1024)) : packZ m 0 p k = packR m 0 p k := by
  have e10 : IntKind.i64.wrap (1 * 2 ^ min (10 : Int).toNat 64) = 1024 := by decide +kernel
  have a4 : ∀ w, putW w 18 10 k = (0, 1) := fun w => by
    unfold putW
    rw [if_pos (by rw [e10]; omega)]
  unfold packZ packR
  rw [if_neg (fun h => h a1), if_neg (fun h => h a2), if_neg (fun h => h a3), a4, if_pos (by decide), if_neg (by omega)]
/-- the heads of steps are as the chapter says -/
theorem packZR {m p : Int} (h : (m = 4 ∧ p = 17) ∨ (m = 7 ∧ p = 20) ∨ (m = 4 ∧ p = 22)) (k : Int) : packZ m 0 p k = packR m 0 p k := by
  by_cases hk : 0 ≤ k ∧ k < 1024
  · rcases h with ⟨rfl, rfl⟩ | ⟨rfl, rfl⟩ | ⟨rfl, rfl⟩
    · exact packR_in packR_17 hk.1 hk.2
    · exact packR_in packR_20 hk.1 hk.2
    · exact packR_in packR_22 hk.1 hk.2
  · rcases h with ⟨rfl, rfl⟩ | ⟨rfl, rfl⟩ | ⟨rfl, rfl⟩ <;> exact packZ_out (by decide +kernel) (by decide +kernel) (by decide +kernel) hk
theorem u32Cells_get {l : List Int} {i : Nat} {x : Int} (h : l[i]? = some x) : (u32Cells l)[i]? = some (.int .u32 x) := by simp [u32Cells, h]

theorem commandG_any (m t p k : Int) (A : Option Addr) (n c : Nat) (zs : List Int) (w : World) (hs : SlS (all w) 1 A n (u32Cells zs)) (hn : n = zs.length) (hn2 : n ≤ 1000000) : Calls Tryz.prog 60 #[.agg #[.int .i64 m, .int .i64 t, .int .i64 p, .int .i64 k], .slice A n c] w (fun y w' => (∃ x, y = .returned x ∧ CmdG (cmdL (packZ m t p k) zs) (packZ m t p k).2 x w w') ∧ Below w.heap.size w w') := by
  refine XK.enter (vs := [.agg #[.int .i64 m, .int .i64 t, .int .i64 p, .int .i64 k], .slice A n c]) Tryz.func60 rfl Tryz.ntmps60 (by simp) ?_
  refine XK.seq ?_

  refine XK.region ?_
  refine xk_box rfl (by decide) fun g1 => ?_
  refine xk_assign rfl (by decide) ?_
  refine xk_assign rfl (by decide) ?_
  refine XK.nilN ?_
  refine XK.seq ?_

  refine XK.region ?_
  refine xk_ldN 4 rfl ?_
  refine xk_callR (f := 114) (fi := []) (ca := []) (by kernel_rfl) rfl rfl (by decide) (fun w1 st => pack_any m t p k w1) ?_
  refine xk_move rfl (by decide) ?_
  refine xk_extract rfl rfl (by decide) ?_
  refine xk_extract rfl rfl (by decide) ?_
  refine xk_assign rfl (by decide) ?_
  refine xk_assign rfl (by decide) ?_
  refine XK.nilN ?_
  refine XK.seq ?_
  refine XK.seq ?_

  refine XK.region ?_
  refine xk_move rfl (by decide) ?_
  refine xk_neq rfl rfl (by decide) ?_
  refine XK.nilN ?_
  refine XK.if_ rfl (fun h => ?_) (fun h => ?_)
  ·
    refine XK.seq ?_

    refine XK.region ?_
    refine xk_move rfl (by decide) ?_
    refine xk_assign rfl (by decide) ?_
    refine xk_assign rfl (by decide) ?_
    refine XK.nilN ?_
    refine XK.ret ?_
    refine XK.norm ?_
    rw [show cmdL (packZ m t p k) zs = [] from if_neg h]
    exact XK.ret2 rfl rfl rfl fun w1 st => ⟨⟨_, rfl, none, 0, rfl, SlS.nil _ _⟩, st.below (by simp)⟩
  ·
    refine XK.skip ?_
    refine XK.norm ?_
    refine XK.seq ?_

    refine XK.region ?_
    refine xk_move rfl (by decide) ?_
    refine xk_move rfl (by decide) ?_
    have hok : (packZ m t p k).2 = 0 := Classical.not_not.1 h
    rw [show cmdL (packZ m t p k) zs = (packZ m t p k).1 :: zs from if_pos hok, hok]
    refine xk_call [] (f := 115) (fi := []) (ca := []) (by kernel_rfl) rfl rfl (by decide) (by simp) (RowOk ((packZ m t p k).1 :: zs)) (fun w1 st => row_any (packZ m t p k).1 A n c zs w1 (hs.le (st.le (by simp))) hn hn2) ?_
    rintro _ w1 q1 ⟨A1, c1, rfl, h1⟩ hf _ hF1
    have hF1 := hF1 (by simp)
    have h1 := h1.le hf
    clear hf
    refine xk_assign rfl (by decide) ?_
    refine xk_assign rfl (by decide) ?_
    refine XK.nilN ?_
    refine XK.ret ?_
    refine XK.norm ?_
    exact XK.ret2 rfl rfl rfl fun w1 st => ⟨⟨_, rfl, A1, c1, rfl, SlS.le h1 (st.fresh_le (by simp) hF1)⟩, st.below (by simp)⟩

theorem wordsG_any (pr m id v k : Int) (w : World) : Calls Tryz.prog 30 #[.agg #[.int .i64 pr, .int .i64 m, .int .u32 id, .int .u32 v], .int .i64 k] w (fun y w' => (∃ x, y = .returned x ∧ CmdG (cmdL (packZ m 0 pr k) [id, v]) (packZ m 0 pr k).2 x w w') ∧ Below w.heap.size w w') := by
  refine XK.enter (vs := [.agg #[.int .i64 pr, .int .i64 m, .int .u32 id, .int .u32 v], .int .i64 k]) Tryz.func30 rfl Tryz.ntmps30 (by simp) ?_
  refine XK.seq ?_

  refine XK.region ?_
  refine xk_box rfl (by decide) fun g1 => ?_
  refine xk_assign rfl (by decide) ?_
  refine xk_assign rfl (by decide) ?_
  refine XK.nilN ?_
  refine XK.seq ?_

  refine XK.region ?_
  refine xk_field (off := 1) (by kernel_rfl) rfl (by decide) ?_
  refine xk_ld rfl ?_
  refine xk_field (off := 0) (by kernel_rfl) rfl (by decide) ?_
  refine xk_ld rfl ?_
  refine xk_move rfl (by decide) ?_
  refine xk_buildS (zs := [.int .i64 0, .int .i64 0, .int .i64 0, .int .i64 0]) (L := [(0, 1), (1, 1), (2, 1), (3, 1)]) (zeroB_of (by kernel_rfl)) (by kernel_rfl) rfl (by simp [fillL, setN, Value.cells]; rfl) (by decide) ?_
  refine xk_field (off := 2) (by kernel_rfl) rfl (by decide) ?_
  refine xk_ld rfl ?_
  refine xk_field (off := 3) (by kernel_rfl) rfl (by decide) ?_
  refine xk_ld rfl ?_
  refine xk_slice (el := 32) (sz := 1) (zs := [.int .u32 0]) (by kernel_rfl) (zeroB_of (by kernel_rfl)) (by kernel_rfl) rfl (by decide) (by decide) rfl (by simp [fillL, setN, Value.cells, List.range_succ, List.set]; rfl) (by decide) fun g2 => ?_
  refine xk_call [] (f := 60) (fi := []) (ca := []) (by kernel_rfl) rfl rfl (by decide) (by simp) (CmdG (cmdL (packZ m 0 pr k) [id, v]) (packZ m 0 pr k).2) (fun w1 st => commandG_any m 0 pr k (some ⟨g2, 0, none⟩) 2 2 [id, v] w1 (st.slS (i := 0) rfl rfl) rfl (by omega)) ?_
  rintro _ w1 q1 ⟨A1, c1, rfl, h1⟩ hf _ hF1
  have hF1 := hF1 (by simp)
  have h1 := h1.le hf
  clear hf
  refine xk_extract rfl rfl (by decide) ?_
  refine xk_extract rfl rfl (by decide) ?_
  refine xk_assign rfl (by decide) ?_
  refine xk_assign rfl (by decide) ?_
  refine XK.nilN ?_
  refine XK.ret ?_
  refine XK.norm ?_
  exact XK.ret2 rfl rfl rfl fun w1 st => ⟨⟨_, rfl, A1, c1, rfl, SlS.le h1 (st.fresh_le (by simp) hF1)⟩, st.below (by simp)⟩

theorem refIn_any (n mo : Int) (w : World) : Calls Tryz.prog 145 #[.int .i64 n, .int .i64 mo] w (Rt (.bool (decide (0 ≤ n ∧ n ≤ mo))) w) := by
  refine XK.enter (vs := [.int .i64 n, .int .i64 mo]) Tryz.func145 rfl Tryz.ntmps145 (by simp) ?_
  refine XK.seq ?_

  refine XK.region ?_
  refine xk_assign rfl (by decide) ?_
  refine XK.nilN ?_
  refine XK.seq ?_

  refine XK.region ?_
  refine xk_move rfl (by decide) ?_
  refine xk_geq rfl rfl (by decide) ?_
  refine xk_move rfl (by decide) ?_
  refine xk_split (t := 7) rfl (fun hg => ?_) (fun hg => ?_)
  ·
    refine xk_guardT rfl rfl ?_; refine xk_move rfl (by decide) ?_
    refine xk_guardT rfl rfl ?_; refine xk_move rfl (by decide) ?_
    refine xk_guardT rfl rfl ?_; refine xk_leq rfl rfl (by decide) ?_
    (first | refine xk_pickT rfl rfl (by decide) ?_ | refine xk_pickF rfl rfl (by decide) ?_)
    refine xk_assign rfl (by decide) ?_
    refine XK.nilN ?_
    refine XK.ret ?_
    refine XK.norm ?_
    rw [show decide (0 ≤ n ∧ n ≤ mo) = decide (n ≤ mo) from decide_eq_decide.2 ⟨fun h => h.2, fun h => ⟨hg, h⟩⟩]
    exact XK.ret1 rfl rfl fun w1 st => ⟨rfl, st.below (by simp)⟩
  ·
    refine xk_guardF rfl rfl rfl (by decide) ?_
    refine xk_guardF rfl rfl rfl (by decide) ?_
    refine xk_guardF rfl rfl rfl (by decide) ?_
    (first | refine xk_pickT rfl rfl (by decide) ?_ | refine xk_pickF rfl rfl (by decide) ?_)
    refine xk_assign rfl (by decide) ?_
    refine XK.nilN ?_
    refine XK.ret ?_
    refine XK.norm ?_
    rw [show decide (0 ≤ n ∧ n ≤ mo) = false from decide_eq_false (fun h => hg h.1)]
    exact XK.ret1 rfl rfl fun w1 st => ⟨rfl, st.below (by simp)⟩

theorem refPack_any (m t p k : Int) (w : World) : Calls Tryz.prog 116 #[.agg #[.int .i64 m, .int .i64 t, .int .i64 p, .int .i64 k]] w (Rt (.tuple #[.int .u32 (packR m t p k).1, .int .i64 (packR m t p k).2]) w) := by
  refine XK.enter (vs := [.agg #[.int .i64 m, .int .i64 t, .int .i64 p, .int .i64 k]]) Tryz.func116 rfl Tryz.ntmps116 (by simp) ?_
  refine XK.seq ?_

  refine XK.region ?_
  refine xk_box rfl (by decide) fun g1 => ?_
  refine xk_assign rfl (by decide) ?_
  refine xk_assign rfl (by decide) ?_
  refine XK.nilN ?_
  refine XK.seq ?_
  refine XK.cutB 25 (¬ ((0 ≤ m ∧ m ≤ 255) ∧ (0 ≤ t ∧ t ≤ 3) ∧ (0 ≤ p ∧ p ≤ 255) ∧ (0 ≤ k ∧ k ≤ 1023))) ?_ ?_
  · skip

    refine XK.region ?_
    refine xk_field (off := 0) (by kernel_rfl) rfl (by decide) ?_
    refine xk_ld rfl ?_
    refine xk_callR (f := 145) (fi := []) (ca := []) (by kernel_rfl) rfl rfl (by decide) (fun w1 st => refIn_any m 255 w1) ?_
    refine xk_notD rfl (by decide) ?_
    refine xk_move rfl (by decide) ?_
    refine xk_split (t := 8) rfl (fun hg8 => ?_) (fun hg8 => ?_)
    ·
      refine xk_guardF rfl rfl rfl (by decide) ?_
      refine xk_guardF rfl rfl rfl (by decide) ?_
      refine xk_guardF rfl rfl rfl (by decide) ?_
      refine xk_guardF rfl rfl rfl (by decide) ?_
      (first | refine xk_pickT rfl rfl (by decide) ?_ | refine xk_pickF rfl rfl (by decide) ?_)
      refine xk_move rfl (by decide) ?_
      refine xk_guardF rfl rfl rfl (by decide) ?_
      refine xk_guardF rfl rfl rfl (by decide) ?_
      refine xk_guardF rfl rfl rfl (by decide) ?_
      refine xk_guardF rfl rfl rfl (by decide) ?_
      (first | refine xk_pickT rfl rfl (by decide) ?_ | refine xk_pickF rfl rfl (by decide) ?_)
      refine xk_move rfl (by decide) ?_
      refine xk_guardF rfl rfl rfl (by decide) ?_
      refine xk_guardF rfl rfl rfl (by decide) ?_
      refine xk_guardF rfl rfl rfl (by decide) ?_
      refine xk_guardF rfl rfl rfl (by decide) ?_
      (first | refine xk_pickT rfl rfl (by decide) ?_ | refine xk_pickF rfl rfl (by decide) ?_)
      refine XK.nilN ?_
      exact XK.meetB (by repeat (first | exact trivial | refine ⟨rfl, ?_⟩)) (by first | (refine get_true rfl ?_; omega) | (refine get_iff rfl ?_; omega))
    ·
      refine xk_guardT rfl rfl ?_; refine xk_field (off := 1) (by kernel_rfl) rfl (by decide) ?_
      refine xk_guardT rfl rfl ?_; refine xk_ld rfl ?_
      refine xk_guardT rfl rfl ?_; refine xk_callR (f := 145) (fi := []) (ca := []) (by kernel_rfl) rfl rfl (by decide) (fun w1 st => refIn_any t 3 w1) ?_
      refine xk_guardT rfl rfl ?_; refine xk_notD rfl (by decide) ?_
      (first | refine xk_pickT rfl rfl (by decide) ?_ | refine xk_pickF rfl rfl (by decide) ?_)
      refine xk_move rfl (by decide) ?_
      refine xk_split (t := 14) rfl (fun hg14 => ?_) (fun hg14 => ?_)
      ·
        refine xk_guardF rfl rfl rfl (by decide) ?_
        refine xk_guardF rfl rfl rfl (by decide) ?_
        refine xk_guardF rfl rfl rfl (by decide) ?_
        refine xk_guardF rfl rfl rfl (by decide) ?_
        (first | refine xk_pickT rfl rfl (by decide) ?_ | refine xk_pickF rfl rfl (by decide) ?_)
        refine xk_move rfl (by decide) ?_
        refine xk_guardF rfl rfl rfl (by decide) ?_
        refine xk_guardF rfl rfl rfl (by decide) ?_
        refine xk_guardF rfl rfl rfl (by decide) ?_
        refine xk_guardF rfl rfl rfl (by decide) ?_
        (first | refine xk_pickT rfl rfl (by decide) ?_ | refine xk_pickF rfl rfl (by decide) ?_)
        refine XK.nilN ?_
        exact XK.meetB (by repeat (first | exact trivial | refine ⟨rfl, ?_⟩)) (by first | (refine get_true rfl ?_; omega) | (refine get_iff rfl ?_; omega))
      ·
        refine xk_guardT rfl rfl ?_; refine xk_field (off := 2) (by kernel_rfl) rfl (by decide) ?_
        refine xk_guardT rfl rfl ?_; refine xk_ld rfl ?_
        refine xk_guardT rfl rfl ?_; refine xk_callR (f := 145) (fi := []) (ca := []) (by kernel_rfl) rfl rfl (by decide) (fun w1 st => refIn_any p 255 w1) ?_
        refine xk_guardT rfl rfl ?_; refine xk_notD rfl (by decide) ?_
        (first | refine xk_pickT rfl rfl (by decide) ?_ | refine xk_pickF rfl rfl (by decide) ?_)
        refine xk_move rfl (by decide) ?_
        refine xk_split (t := 20) rfl (fun hg20 => ?_) (fun hg20 => ?_)
        ·
          refine xk_guardF rfl rfl rfl (by decide) ?_
          refine xk_guardF rfl rfl rfl (by decide) ?_
          refine xk_guardF rfl rfl rfl (by decide) ?_
          refine xk_guardF rfl rfl rfl (by decide) ?_
          (first | refine xk_pickT rfl rfl (by decide) ?_ | refine xk_pickF rfl rfl (by decide) ?_)
          refine XK.nilN ?_
          exact XK.meetB (by repeat (first | exact trivial | refine ⟨rfl, ?_⟩)) (by first | (refine get_true rfl ?_; omega) | (refine get_iff rfl ?_; omega))
        ·
          refine xk_guardT rfl rfl ?_; refine xk_field (off := 3) (by kernel_rfl) rfl (by decide) ?_
          refine xk_guardT rfl rfl ?_; refine xk_ld rfl ?_
          refine xk_guardT rfl rfl ?_; refine xk_callR (f := 145) (fi := []) (ca := []) (by kernel_rfl) rfl rfl (by decide) (fun w1 st => refIn_any k 1023 w1) ?_
          refine xk_guardT rfl rfl ?_; refine xk_notD rfl (by decide) ?_
          (first | refine xk_pickT rfl rfl (by decide) ?_ | refine xk_pickF rfl rfl (by decide) ?_)
          refine XK.nilN ?_
          exact XK.meetB (by repeat (first | exact trivial | refine ⟨rfl, ?_⟩)) (by first | (refine get_true rfl ?_; omega) | (refine get_iff rfl ?_; omega))
  refine XK.if_ rfl (fun h => ?_) (fun h => ?_)
  ·
    refine XK.seq ?_

    refine XK.region ?_
    refine xk_assign rfl (by decide) ?_
    refine xk_assign rfl (by decide) ?_
    refine XK.nilN ?_
    refine XK.ret ?_
    refine XK.norm ?_
    rw [show packR m t p k = (0, 1) from if_neg h]
    exact XK.ret2 rfl rfl rfl fun w1 st => ⟨rfl, st.below (by simp)⟩
  ·
    refine XK.skip ?_
    refine XK.norm ?_
    refine XK.seq ?_
    have h := Classical.not_not.1 h

    refine XK.region ?_
    refine xk_field (off := 0) (by kernel_rfl) rfl (by decide) ?_
    refine xk_ld rfl ?_
    refine xk_field (off := 1) (by kernel_rfl) rfl (by decide) ?_
    refine xk_ld rfl ?_
    refine xk_mul rfl rfl (wrap_in (by omega)) (by decide) ?_
    refine xk_add rfl rfl (wrap_in (by omega)) (by decide) ?_
    refine xk_field (off := 2) (by kernel_rfl) rfl (by decide) ?_
    refine xk_ld rfl ?_
    refine xk_mul rfl rfl (wrap_in (by omega)) (by decide) ?_
    refine xk_add rfl rfl (wrap_in (by omega)) (by decide) ?_
    refine xk_field (off := 3) (by kernel_rfl) rfl (by decide) ?_
    refine xk_ld rfl ?_
    refine xk_mul rfl rfl (wrap_in (by omega)) (by decide) ?_
    refine xk_add rfl rfl (wrap_in (by omega)) (by decide) ?_
    refine xk_conv (ds := .int .i64) (by kernel_rfl) (by kernel_rfl) rfl (wrap_u32 (by omega)) (by decide) ?_
    refine xk_assign rfl (by decide) ?_
    refine xk_assign rfl (by decide) ?_
    refine XK.nilN ?_
    refine XK.ret ?_
    refine XK.norm ?_
    rw [show packR m t p k = (m + 256 * t + 1024 * p + 262144 * k, 0) from if_pos h]
    exact XK.ret2 rfl rfl rfl fun w1 st => ⟨rfl, st.below (by simp)⟩

theorem refCommand_any (m t p k : Int) (A : Option Addr) (n c : Nat) (zs : List Int) (w : World) (hs : SlS (all w) 1 A n (u32Cells zs)) (hn : n = zs.length) (hn2 : n ≤ 1000000) : Calls Tryz.prog 61 #[.agg #[.int .i64 m, .int .i64 t, .int .i64 p, .int .i64 k], .slice A n c] w (fun y w' => (∃ x, y = .returned x ∧ CmdG (cmdL (packR m t p k) zs) (packR m t p k).2 x w w') ∧ Below w.heap.size w w') := by
  refine XK.enter (vs := [.agg #[.int .i64 m, .int .i64 t, .int .i64 p, .int .i64 k], .slice A n c]) Tryz.func61 rfl Tryz.ntmps61 (by simp) ?_
  refine XK.seq ?_

  refine XK.region ?_
  refine xk_box rfl (by decide) fun g1 => ?_
  refine xk_assign rfl (by decide) ?_
  refine xk_assign rfl (by decide) ?_
  refine XK.nilN ?_
  refine XK.seq ?_

  refine XK.region ?_
  refine xk_ldN 4 rfl ?_
  refine xk_callR (f := 116) (fi := []) (ca := []) (by kernel_rfl) rfl rfl (by decide) (fun w1 st => refPack_any m t p k w1) ?_
  refine xk_move rfl (by decide) ?_
  refine xk_extract rfl rfl (by decide) ?_
  refine xk_extract rfl rfl (by decide) ?_
  refine xk_assign rfl (by decide) ?_
  refine xk_assign rfl (by decide) ?_
  refine XK.nilN ?_
  refine XK.seq ?_
  refine XK.seq ?_

  refine XK.region ?_
  refine xk_move rfl (by decide) ?_
  refine xk_neq rfl rfl (by decide) ?_
  refine XK.nilN ?_
  refine XK.if_ rfl (fun h => ?_) (fun h => ?_)
  ·
    refine XK.seq ?_

    refine XK.region ?_
    refine xk_move rfl (by decide) ?_
    refine xk_assign rfl (by decide) ?_
    refine xk_assign rfl (by decide) ?_
    refine XK.nilN ?_
    refine XK.ret ?_
    refine XK.norm ?_
    rw [show cmdL (packR m t p k) zs = [] from if_neg h]
    exact XK.ret2 rfl rfl rfl fun w1 st => ⟨⟨_, rfl, none, 0, rfl, SlS.nil _ _⟩, st.below (by simp)⟩
  ·
    refine XK.skip ?_
    refine XK.norm ?_
    refine XK.seq ?_
    have hok : (packR m t p k).2 = 0 := Classical.not_not.1 h
    rw [show cmdL (packR m t p k) zs = (packR m t p k).1 :: zs from if_pos hok, hok]

    refine XK.region ?_
    refine xk_move rfl (by decide) ?_
    refine xk_slice (el := 32) (sz := 1) (zs := [.int .u32 0]) (by kernel_rfl) (zeroB_of (by kernel_rfl)) (by kernel_rfl) rfl (by decide) (by decide) rfl (by simp [fillL, setN, Value.cells, List.range_succ, List.set]; rfl) (by decide) fun g2 => ?_
    refine xk_move rfl (by decide) ?_
    refine XK.asOwn 0 1 1 rfl rfl (by omega) ?_
    dsimp only [List.set]
    refine xk_appendT 0 1 4 n (n' := (zs.length + 1)) (el := 32) (by kernel_rfl) (by kernel_rfl) (by decide) rfl rfl rfl (sl_ro (by simp) hs) (u32Cells_one _) (by omega) (by omega) (by omega) (by decide) fun A' k' => ?_
    dsimp only [List.set]
    rw [show [Value.int .u32 (packR m t p k).1] ++ u32Cells zs = u32Cells ((packR m t p k).1 :: zs) by simp [u32Cells]]
    refine xk_assign rfl (by decide) ?_
    refine xk_assign rfl (by decide) ?_
    refine XK.nilN ?_
    refine XK.ret ?_
    refine XK.norm ?_
    refine XK.still [] [0] [] (by simp) rfl (by decide) (by decide) fun qf hqf _ hfr => ?_
    obtain ⟨Ff, sf, zf⟩ := hqf 0 _ (by simp) rfl
    obtain ⟨Av, cv, hv, hsv⟩ := SlS.of_own (Y := qf.Z) sf zf
    injection hv with hv1 hv2 hv3
    subst hv1
    exact XK.ret2 rfl rfl rfl fun w1 st => ⟨⟨_, rfl, A', k', rfl, SlS.le hsv (st.fresh_le (by simp) (hfr (by simp) (by simp)))⟩, st.below (by simp)⟩

theorem refWords_any (pr m id v k : Int) (w : World) : Calls Tryz.prog 31 #[.agg #[.int .i64 pr, .int .i64 m, .int .u32 id, .int .u32 v], .int .i64 k] w (fun y w' => (∃ x, y = .returned x ∧ CmdG (cmdL (packR m 0 pr k) [id, v]) (packR m 0 pr k).2 x w w') ∧ Below w.heap.size w w') := by
  refine XK.enter (vs := [.agg #[.int .i64 pr, .int .i64 m, .int .u32 id, .int .u32 v], .int .i64 k]) Tryz.func31 rfl Tryz.ntmps31 (by simp) ?_
  refine XK.seq ?_

  refine XK.region ?_
  refine xk_box rfl (by decide) fun g1 => ?_
  refine xk_assign rfl (by decide) ?_
  refine xk_assign rfl (by decide) ?_
  refine XK.nilN ?_
  refine XK.seq ?_

  refine XK.region ?_
  refine xk_field (off := 1) (by kernel_rfl) rfl (by decide) ?_
  refine xk_ld rfl ?_
  refine xk_field (off := 0) (by kernel_rfl) rfl (by decide) ?_
  refine xk_ld rfl ?_
  refine xk_move rfl (by decide) ?_
  refine xk_buildS (zs := [.int .i64 0, .int .i64 0, .int .i64 0, .int .i64 0]) (L := [(0, 1), (1, 1), (2, 1), (3, 1)]) (zeroB_of (by kernel_rfl)) (by kernel_rfl) rfl (by simp [fillL, setN, Value.cells]; rfl) (by decide) ?_
  refine xk_field (off := 2) (by kernel_rfl) rfl (by decide) ?_
  refine xk_ld rfl ?_
  refine xk_field (off := 3) (by kernel_rfl) rfl (by decide) ?_
  refine xk_ld rfl ?_
  refine xk_slice (el := 32) (sz := 1) (zs := [.int .u32 0]) (by kernel_rfl) (zeroB_of (by kernel_rfl)) (by kernel_rfl) rfl (by decide) (by decide) rfl (by simp [fillL, setN, Value.cells, List.range_succ, List.set]; rfl) (by decide) fun g2 => ?_
  refine xk_call [] (f := 61) (fi := []) (ca := []) (by kernel_rfl) rfl rfl (by decide) (by simp) (CmdG (cmdL (packR m 0 pr k) [id, v]) (packR m 0 pr k).2) (fun w1 st => refCommand_any m 0 pr k (some ⟨g2, 0, none⟩) 2 2 [id, v] w1 (st.slS (i := 0) rfl rfl) rfl (by omega)) ?_
  rintro _ w1 q1 ⟨A1, c1, rfl, h1⟩ hf _ hF1
  have hF1 := hF1 (by simp)
  have h1 := h1.le hf
  clear hf
  refine xk_extract rfl rfl (by decide) ?_
  refine xk_extract rfl rfl (by decide) ?_
  refine xk_assign rfl (by decide) ?_
  refine xk_assign rfl (by decide) ?_
  refine XK.nilN ?_
  refine XK.ret ?_
  refine XK.norm ?_
  exact XK.ret2 rfl rfl rfl fun w1 st => ⟨⟨_, rfl, A1, c1, rfl, SlS.le h1 (st.fresh_le (by simp) hF1)⟩, st.below (by simp)⟩

theorem refSame_any (A B : Option Addr) (n c n2 c2 : Nat) (a b : List Int) (w : World) (ha : SlS (all w) 1 A n (u32Cells a)) (hb : SlS (all w) 1 B n2 (u32Cells b)) (hn : n = a.length) (hn2 : n2 = b.length) (hn3 : n ≤ 1000000) : Calls Tryz.prog 32 #[.slice A n c, .slice B n2 c2] w (Rt (.bool (decide (a = b))) w) := by
  refine XK.enter (vs := [.slice A n c, .slice B n2 c2]) Tryz.func32 rfl Tryz.ntmps32 (by simp) ?_
  refine XK.seq ?_

  refine XK.region ?_
  refine xk_assign rfl (by decide) ?_
  refine XK.nilN ?_
  refine XK.seq ?_
  refine XK.seq ?_

  refine XK.region ?_
  refine xk_move rfl (by decide) ?_
  refine xk_len (el := 32) (by kernel_rfl) rfl (by decide) ?_
  refine xk_move rfl (by decide) ?_
  refine xk_len (el := 32) (by kernel_rfl) rfl (by decide) ?_
  refine xk_neq rfl rfl (by decide) ?_
  refine XK.nilN ?_
  refine XK.if_ rfl (fun hnn => ?_) (fun hnn => ?_)
  ·
    refine XK.seq ?_

    refine XK.region ?_
    refine xk_assign rfl (by decide) ?_
    refine XK.nilN ?_
    refine XK.ret ?_
    refine XK.norm ?_
    rw [show decide (a = b) = false from decide_eq_false (fun he => hnn (by rw [hn, hn2, he]))]
    exact XK.ret1 rfl rfl fun w1 st => ⟨rfl, st.below (by simp)⟩
  ·
    refine XK.skip ?_
    refine XK.norm ?_
    refine XK.seq ?_
    refine XK.seq ?_
    have hnn : n = n2 := by have h' := Classical.not_not.1 hnn; omega

    refine XK.region ?_
    refine xk_assign rfl (by decide) ?_
    refine XK.nilN ?_
    refine XK.envS [(5, .int .i64 0), (1, .slice B n2 c2), (0, .slice A n c)] ?_
    refine XK.block ?_
    refine XK.loop (fun m e R H => ∃ (i : Nat), i ≤ n ∧ a.take i = b.take i ∧ m = n - i ∧ e = [(5, .int .i64 i), (1, .slice B n2 c2), (0, .slice A n c)] ∧ R = [all w] ∧ H = []) n ⟨0, by omega, rfl, rfl, rfl, rfl, rfl⟩ fun m e R H hI => ?_
    obtain ⟨i, hi, htk, rfl, rfl, rfl, rfl⟩ := hI
    refine XK.seq ?_
    refine XK.seq ?_

    refine XK.region ?_
    refine xk_move rfl (by decide) ?_
    refine xk_move rfl (by decide) ?_
    refine xk_len (el := 32) (by kernel_rfl) rfl (by decide) ?_
    refine xk_lss rfl rfl (by decide) ?_
    refine XK.nilN ?_
    refine XK.if_ rfl (fun hil => ?_) (fun hil => ?_)
    ·
      refine XK.skip ?_
      refine XK.norm ?_
      refine XK.seq ?_
      refine XK.block ?_
      refine XK.seq ?_
      have hil' : i < n := by have h' : (i : Int) < (n : Int) := hil; omega
      obtain ⟨x, hx⟩ : ∃ x, a[i]? = some x := ⟨_, List.getElem?_eq_getElem (by omega)⟩
      obtain ⟨y, hy⟩ : ∃ y, b[i]? = some y := ⟨_, List.getElem?_eq_getElem (by omega)⟩
      obtain ⟨bA, oA, rfl, hzA, hcA⟩ := ha.2 (by omega)
      obtain ⟨bB, oB, rfl, hzB, hcB⟩ := hb.2 (by omega)

      refine XK.draw 8 (by kernel_rfl) (by kernel_rfl) ?_
      refine XA.dA 0 rfl rfl rfl (does_move rfl) ?_
      refine XA.dA 1 rfl rfl rfl (does_move rfl) ?_
      refine XA.dA 2 rfl rfl rfl (does_at (i) (oA + i) (el := 32) (sz := 1) (by kernel_rfl) (by kernel_rfl) rfl rfl (by omega) (by omega) (by omega)) ?_
      refine XA.dA 3 rfl rfl rfl (does_load (by kernel_rfl) rfl (Rd.ro (p := all w) (by simp) hzA (hcA i _ (u32Cells_get hx)))) ?_
      refine XA.dA 4 rfl rfl rfl (does_move rfl) ?_
      refine XA.dA 5 rfl rfl rfl (does_move rfl) ?_
      refine XA.dA 6 rfl rfl rfl (does_at (i) (oB + i) (el := 32) (sz := 1) (by kernel_rfl) (by kernel_rfl) rfl rfl (by omega) (by omega) (by omega)) ?_
      refine XA.dA 7 rfl rfl rfl (does_load (by kernel_rfl) rfl (Rd.ro (p := all w) (by simp) hzB (hcB i _ (u32Cells_get hy)))) ?_
      refine XA.next 8 rfl (by kernel_rfl) ?_
      refine xk_neq rfl rfl (by decide) ?_
      refine XA.bt ?_
      refine XA.done (by kernel_rfl) ?_
      refine XK.norm ?_
      refine XK.if_ rfl (fun hxy => ?_) (fun hxy => ?_)
      ·
        refine XK.seq ?_

        refine XK.region ?_
        refine xk_assign rfl (by decide) ?_
        refine XK.nilN ?_
        refine XK.ret ?_
        refine XK.norm ?_
        rw [show decide (a = b) = false from decide_eq_false (fun he => hxy (by rw [he, hy] at hx; exact (Option.some.inj hx).symm))]
        exact XK.ret1 rfl rfl fun w1 st => ⟨rfl, st.below (by simp)⟩
      ·
        refine XK.skip ?_
        refine XK.norm ?_

        refine XK.region ?_
        refine xk_move rfl (by decide) ?_
        refine xk_add rfl rfl (wrap_in (by omega)) (by decide) ?_
        refine xk_assign rfl (by decide) ?_
        refine XK.nilN ?_
        exact XK.envS [(5, .int .i64 ((i : Int) + 1)), (1, .slice (some ⟨bB, oB, none⟩) n2 c2), (0, .slice (some ⟨bA, oA, none⟩) n c)] (XK.round (n - (i + 1)) (by omega) ⟨i + 1, by omega, by rw [List.take_add_one, List.take_add_one, htk, hx, hy, Classical.not_not.1 hxy], rfl, rfl, rfl, rfl⟩)
    ·
      refine XK.exit ?_
      refine XK.norm ?_
      refine XK.seq ?_

      refine XK.region ?_
      refine xk_assign rfl (by decide) ?_
      refine XK.nilN ?_
      refine XK.ret ?_
      refine XK.norm ?_
      have hin : i = n := by have h' : ¬ (i : Int) < (n : Int) := hil; omega
      rw [List.take_of_length_le (by omega), List.take_of_length_le (by omega)] at htk
      rw [show decide (a = b) = true from decide_eq_true htk]
      exact XK.ret1 rfl rfl fun w1 st => ⟨rfl, st.below (by simp)⟩

end Go.Proofs.YtbgibbbggajgaaaGreat
