/- What the reference makes of a line's words. -/
import Derived.Laws.Strings3
import Derived.Laws.StructEq
import Derived.Test.YtgopaoidgcgalaaGreatDoorLinesParseK4
namespace Go.Proofs.YtgopaoidgcgalaaGreatDoor
set_option linter.all false
open Go.RowKit
theorem IntsV.u {o : Option (List Int)} {v : Value} {w w' : World} (h : IntsV o v w w') : ∃ (l : List Int) (A : Option Addr) (c : Nat) (b : Bool), v = .tuple #[.slice A l.length c, .bool b] ∧ l.length ≤ c ∧ SlS (fresh w w') 1 A l.length (intCells l) ∧ o = if b then some l else none := by
  cases o with
  | none => exact ⟨[], none, 0, false, h, Nat.zero_le _, SlS.nil _ _, rfl⟩
  | some l =>
    obtain ⟨A, c, h1, h2, h3⟩ := h
    exact ⟨l, A, c, true, h2, h1, h3, rfl⟩
def ClkV (ws : List ByteArray) (v : Value) (w w' : World) : Prop := ∃ (cl : Clk) (A : Option Addr) (c : Nat) (b : Bool), v = .tuple #[.agg #[.int .u8 cl.kind, .slice A cl.src.length c, .int .u64 cl.rate, .int .i64 cl.mul, .int .i64 cl.div, .int .i64 cl.lock], .bool b] ∧ SlS (fresh w w') 1 A cl.src.length (intCells cl.src) ∧ clockF ws.tail = if b then some cl else none
theorem clockF_few {ws : List ByteArray} (h : ws.length < 3) : clockF ws.tail = none := by
  match ws, h with
  | [], _ => rfl
  | [_], _ => rfl
  | [_, k], _ => exact if_neg (by simp)
  | _ :: _ :: _ :: _, h => simp at h; omega
theorem clockN_other {k : Nat} {o : Option (List Int)} (h1 : k ≠ 111) (h2 : k ≠ 112) (h3 : k ≠ 109) (h4 : k ≠ 100) (h5 : k ≠ 103) : clockN k o = none := by
  cases o with
  | none => rfl
  | some l => unfold clockN; simp only [if_neg h1, if_neg h2, if_neg h3, if_neg h4, if_neg h5]
theorem clockN_o' (l : List Int) (a : Int) (h : l[0]? = some a) : clockN 111 (some l) = if decide ((l.length : Int) = 1) = true then some ⟨111, [], a, 0, 0, 0⟩ else none := by
  match l, h with
  | [b], h => simp at h; subst h; rfl
  | b :: d :: l, h => rw [if_neg (by simp; omega)]; rfl
theorem clockN_g' (l : List Int) : clockN 103 (some l) = if decide ((l.length : Int) = 1) = true then some ⟨103, l, 0, 0, 0, 0⟩ else none := by
  match l with
  | [] => rfl
  | [b] => rfl
  | b :: d :: l => rw [if_neg (by simp; omega)]; rfl
theorem clockN_p' {l : List Int} (h : ¬ (l.length : Int) = 4) : clockN 112 (some l) = none := by
  match l, h with
  | [], _ => rfl
  | [_], _ => rfl
  | [_, _], _ => rfl
  | [_, _, _], _ => rfl
  | [_, _, _, _], h => exact absurd rfl h
  | _ :: _ :: _ :: _ :: _ :: _, _ => rfl
theorem clockN_d' {l : List Int} (h : ¬ (l.length : Int) = 2) : clockN 100 (some l) = none := by
  match l, h with
  | [], _ => rfl
  | [_], _ => rfl
  | [_, _], h => exact absurd rfl h
  | _ :: _ :: _ :: _, _ => rfl

set_option maxHeartbeats 1000000 in
theorem refClkA_ok (ws : List ByteArray) (A : Option Addr) (n c : Nat) (w : World) (hS : SlS (all w) 1 A n (strCells ws)) (hn : ws.length = n) (hnc : n ≤ c) (hn63 : n ≤ 1000000) (hsz : ∀ s ∈ ws, s.size < 4294967296) :
    Calls Tryz.prog 82 #[.slice A n c] w (fun y w' => (∃ v, y = .returned v ∧ ClkV ws v w w') ∧ Below w.heap.size w w') := by
  refine XK.enter (vs := [.slice A n c]) Tryz.func82 rfl Tryz.ntmps82 (by simp) ?_
  refine XK.seq ?_

  refine XK.region ?_
  refine xk_alloc (cs := [.int .u8 0, .slice none 0 0, .int .u64 0, .int .i64 0, .int .i64 0, .int .i64 0]) (zeroB_of (by kernel_rfl)) (by decide) fun g1 => ?_
  refine xk_assign rfl (by decide) ?_
  refine XK.nilN ?_
  refine XK.seq ?_
  refine XK.seq ?_

  refine XK.region ?_
  refine xk_move rfl (by decide) ?_
  refine xk_len (el := 9) (by kernel_rfl) rfl (by decide) ?_
  refine xk_lss rfl rfl (by decide) ?_
  refine xk_move rfl (by decide) ?_
  refine xk_split (t := 10) rfl (fun hg10 => ?_) (fun hg10 => ?_)
  ·
    refine xk_guardF rfl rfl rfl (by decide) ?_
    refine xk_guardF rfl rfl rfl (by decide) ?_
    refine xk_guardF rfl rfl rfl (by decide) ?_
    refine xk_guardF rfl rfl rfl (by decide) ?_
    refine xk_guardF rfl rfl rfl (by decide) ?_
    (first | refine xk_pickT rfl rfl (by decide) ?_ | refine xk_pickF rfl rfl (by decide) ?_)
    refine XK.nilN ?_
    refine XK.cond rfl (fun _ => ?_) (fun h => by cases h)
    refine XK.seq ?_

    refine XK.region ?_
    refine xk_buildS (zs := [.int .u8 0, .slice none 0 0, .int .u64 0, .int .i64 0, .int .i64 0, .int .i64 0]) (L := [(0, 1), (1, 1), (2, 1), (3, 1), (4, 1), (5, 1)]) (zeroB_of (by kernel_rfl)) (by kernel_rfl) rfl (by simp [fillL, setN, Value.cells]; rfl) (by decide) ?_
    (first | (refine xk_storeN 0 rfl rfl rfl (by kernel_rfl) (by simp [Value.cells, Value.oneCell']) (by simp [Value.cells]) ?_) | (refine xk_storeN 1 rfl rfl rfl (by kernel_rfl) (by simp [Value.cells, Value.oneCell']) (by simp [Value.cells]) ?_) | (refine xk_storeN 2 rfl rfl rfl (by kernel_rfl) (by simp [Value.cells, Value.oneCell']) (by simp [Value.cells]) ?_) | (refine xk_storeN 3 rfl rfl rfl (by kernel_rfl) (by simp [Value.cells, Value.oneCell']) (by simp [Value.cells]) ?_) | (refine xk_storeN 4 rfl rfl rfl (by kernel_rfl) (by simp [Value.cells, Value.oneCell']) (by simp [Value.cells]) ?_) | (refine xk_storeN 5 rfl rfl rfl (by kernel_rfl) (by simp [Value.cells, Value.oneCell']) (by simp [Value.cells]) ?_) | (refine xk_storeN 6 rfl rfl rfl (by kernel_rfl) (by simp [Value.cells, Value.oneCell']) (by simp [Value.cells]) ?_) | (refine xk_storeN 7 rfl rfl rfl (by kernel_rfl) (by simp [Value.cells, Value.oneCell']) (by simp [Value.cells]) ?_) | (refine xk_storeN 8 rfl rfl rfl (by kernel_rfl) (by simp [Value.cells, Value.oneCell']) (by simp [Value.cells]) ?_)); simp only [putN, Value.cells, List.set, List.take, List.drop, List.nil_append, List.append_nil, List.length_cons, List.length_nil, List.cons_append, Nat.reduceAdd]
    refine xk_assign rfl (by decide) ?_
    refine XK.nilN ?_
    refine XK.ret ?_
    refine XK.norm ?_
    exact XK.retCT rfl (by kernel_rfl) rfl rfl (RdN.whole 0 rfl) rfl fun w1 st => ⟨⟨_, rfl, ⟨0, [], 0, 0, 0, 0⟩, none, 0, false, rfl, SlS.nil _ _, clockF_few (by omega)⟩, st.below (by simp)⟩
  ·
    obtain ⟨b0, off, rfl, hz, hc⟩ := hS.2 (by omega)
    obtain ⟨u0, k0, r, rfl⟩ : ∃ u0 k0 r, ws = u0 :: k0 :: r := by
      match ws, hn with
      | [], hn => simp at hn; omega
      | [_], hn => simp at hn; omega
      | u0 :: k0 :: r, _ => exact ⟨u0, k0, r, rfl⟩
    have hrl : r.length + 2 = n := by simpa using hn
    have hsr : ∀ s ∈ r, s.size < 4294967296 := fun s hs => hsz s (by simp [hs])
    refine xk_guardT rfl rfl ?_; refine xk_move rfl (by decide) ?_
    refine xk_guardT rfl rfl ?_; refine xk_at 1 (off + 1) (el := 9) (sz := 1) (by kernel_rfl) (by kernel_rfl) rfl rfl rfl (by omega) (by omega) (by decide) ?_
    refine xk_guardT rfl rfl ?_; refine xk_load (by kernel_rfl) rfl (Rd.ro (p := all w) (by simp) hz (hc 1 _ rfl)) (by decide) ?_
    refine xk_guardT rfl rfl ?_; refine xk_lenS (by kernel_rfl) rfl (by decide) ?_
    refine xk_guardT rfl rfl ?_; refine xk_neq rfl rfl (by decide) ?_
    (first | refine xk_pickT rfl rfl (by decide) ?_ | refine xk_pickF rfl rfl (by decide) ?_)
    refine XK.nilN ?_
    refine XK.if_ rfl (fun hk => ?_) (fun hk => ?_)
    ·
      refine XK.seq ?_

      refine XK.region ?_
      refine xk_buildS (zs := [.int .u8 0, .slice none 0 0, .int .u64 0, .int .i64 0, .int .i64 0, .int .i64 0]) (L := [(0, 1), (1, 1), (2, 1), (3, 1), (4, 1), (5, 1)]) (zeroB_of (by kernel_rfl)) (by kernel_rfl) rfl (by simp [fillL, setN, Value.cells]; rfl) (by decide) ?_
      (first | (refine xk_storeN 0 rfl rfl rfl (by kernel_rfl) (by simp [Value.cells, Value.oneCell']) (by simp [Value.cells]) ?_) | (refine xk_storeN 1 rfl rfl rfl (by kernel_rfl) (by simp [Value.cells, Value.oneCell']) (by simp [Value.cells]) ?_) | (refine xk_storeN 2 rfl rfl rfl (by kernel_rfl) (by simp [Value.cells, Value.oneCell']) (by simp [Value.cells]) ?_) | (refine xk_storeN 3 rfl rfl rfl (by kernel_rfl) (by simp [Value.cells, Value.oneCell']) (by simp [Value.cells]) ?_) | (refine xk_storeN 4 rfl rfl rfl (by kernel_rfl) (by simp [Value.cells, Value.oneCell']) (by simp [Value.cells]) ?_) | (refine xk_storeN 5 rfl rfl rfl (by kernel_rfl) (by simp [Value.cells, Value.oneCell']) (by simp [Value.cells]) ?_) | (refine xk_storeN 6 rfl rfl rfl (by kernel_rfl) (by simp [Value.cells, Value.oneCell']) (by simp [Value.cells]) ?_) | (refine xk_storeN 7 rfl rfl rfl (by kernel_rfl) (by simp [Value.cells, Value.oneCell']) (by simp [Value.cells]) ?_) | (refine xk_storeN 8 rfl rfl rfl (by kernel_rfl) (by simp [Value.cells, Value.oneCell']) (by simp [Value.cells]) ?_)); simp only [putN, Value.cells, List.set, List.take, List.drop, List.nil_append, List.append_nil, List.length_cons, List.length_nil, List.cons_append, Nat.reduceAdd]
      refine xk_assign rfl (by decide) ?_
      refine XK.nilN ?_
      refine XK.ret ?_
      refine XK.norm ?_
      exact XK.retCT rfl (by kernel_rfl) rfl rfl (RdN.whole 0 rfl) rfl fun w1 st => ⟨⟨_, rfl, ⟨0, [], 0, 0, 0, 0⟩, none, 0, false, rfl, SlS.nil _ _, if_neg (by omega)⟩, st.below (by simp)⟩
    ·
      refine XK.skip ?_
      refine XK.norm ?_
      refine XK.seq ?_
      have hk1 : k0.size = 1 := by omega
      have hcF : clockF (u0 :: k0 :: r).tail = clockN (bAt k0 0).toNat (numsF r) := if_pos ⟨hk1, by omega⟩

      refine XK.region ?_
      refine xk_move rfl (by decide) ?_
      refine xk_sliceL 2 (el := 9) (sz := 1) (by kernel_rfl) (by kernel_rfl) rfl rfl rfl (by omega) hnc (by decide) fun A2 hA2 => ?_
      have hS2 : SlS (all w) 1 A2 (n - 2) (strCells r) := by
        have h := SlS.dropP (k := 2) hS (by omega) hA2
        rw [strCells_drop] at h
        exact h
      refine xk_call [] (f := 84) (fi := []) (ca := []) (by kernel_rfl) rfl rfl (by decide) (by simp) (IntsV (numsF r)) (fun w1 st => refInts_ok r A2 (n - 2) (c - 2) w1 (hS2.le (all_le (st.started (by simp)))) (by omega) (by omega) hsr) ?_
      rintro _ w1 q1 hv hq1 _ hF1
      obtain ⟨l, A3, c3, bo, rfl, hlc, hS3, hnum⟩ := hv.u
      have hS3 := hS3.le hq1
      have hF1 := hF1 (by simp)
      have hll : bo = true → l.length = r.length := fun hb => numsF_len r l (by rw [hnum, if_pos hb])
      rw [hnum] at hcF
      clear hq1 hv
      refine xk_move rfl (by decide) ?_
      refine xk_extract rfl rfl (by decide) ?_
      refine xk_extract rfl rfl (by decide) ?_
      refine xk_assign rfl (by decide) ?_
      refine xk_assign rfl (by decide) ?_
      refine XK.nilN ?_
      refine XK.seq ?_

      refine XK.region ?_
      refine xk_move rfl (by decide) ?_
      refine xk_at 1 (off + 1) (el := 9) (sz := 1) (by kernel_rfl) (by kernel_rfl) rfl rfl rfl (by omega) (by omega) (by decide) ?_
      refine xk_load (by kernel_rfl) rfl (Rd.ro (p := all w) (by simp) hz (hc 1 _ rfl)) (by decide) ?_
      refine xk_byte 0 (by kernel_rfl) rfl rfl rfl (bAt_get (by omega)) (by decide) ?_
      generalize hkd : bAt k0 0 = kd at hcF ⊢
      refine xk_buildS (zs := [.int .u8 0, .slice none 0 0, .int .u64 0, .int .i64 0, .int .i64 0, .int .i64 0]) (L := [(0, 1), (1, 1), (2, 1), (3, 1), (4, 1), (5, 1)]) (zeroB_of (by kernel_rfl)) (by kernel_rfl) rfl (by simp [fillL, setN, Value.cells]; rfl) (by decide) ?_
      refine xk_alloc (cs := [.int .u8 0, .slice none 0 0, .int .u64 0, .int .i64 0, .int .i64 0, .int .i64 0]) (zeroB_of (by kernel_rfl)) (by decide) fun g2 => ?_
      (first | (refine xk_storeN 0 rfl rfl rfl (by kernel_rfl) (by simp [Value.cells, Value.oneCell']) (by simp [Value.cells]) ?_) | (refine xk_storeN 1 rfl rfl rfl (by kernel_rfl) (by simp [Value.cells, Value.oneCell']) (by simp [Value.cells]) ?_) | (refine xk_storeN 2 rfl rfl rfl (by kernel_rfl) (by simp [Value.cells, Value.oneCell']) (by simp [Value.cells]) ?_) | (refine xk_storeN 3 rfl rfl rfl (by kernel_rfl) (by simp [Value.cells, Value.oneCell']) (by simp [Value.cells]) ?_) | (refine xk_storeN 4 rfl rfl rfl (by kernel_rfl) (by simp [Value.cells, Value.oneCell']) (by simp [Value.cells]) ?_) | (refine xk_storeN 5 rfl rfl rfl (by kernel_rfl) (by simp [Value.cells, Value.oneCell']) (by simp [Value.cells]) ?_) | (refine xk_storeN 6 rfl rfl rfl (by kernel_rfl) (by simp [Value.cells, Value.oneCell']) (by simp [Value.cells]) ?_) | (refine xk_storeN 7 rfl rfl rfl (by kernel_rfl) (by simp [Value.cells, Value.oneCell']) (by simp [Value.cells]) ?_) | (refine xk_storeN 8 rfl rfl rfl (by kernel_rfl) (by simp [Value.cells, Value.oneCell']) (by simp [Value.cells]) ?_)); simp only [putN, Value.cells, List.set, List.take, List.drop, List.nil_append, List.append_nil, List.length_cons, List.length_nil, List.cons_append, Nat.reduceAdd]
      refine XK.nilN ?_
      refine XK.seq ?_
      refine XK.seq ?_

      refine XK.region ?_
      refine xk_move rfl (by decide) ?_
      refine xk_not rfl (by decide) ?_
      refine XK.nilN ?_
      refine XK.cond rfl (fun hno => ?_) (fun hno => ?_)
      ·
        refine XK.seq ?_

        refine XK.region ?_
        refine xk_ldN 6 rfl ?_
        (first | (refine xk_storeN 0 rfl rfl rfl (by kernel_rfl) (by simp [Value.cells, Value.oneCell']) (by simp [Value.cells]) ?_) | (refine xk_storeN 1 rfl rfl rfl (by kernel_rfl) (by simp [Value.cells, Value.oneCell']) (by simp [Value.cells]) ?_) | (refine xk_storeN 2 rfl rfl rfl (by kernel_rfl) (by simp [Value.cells, Value.oneCell']) (by simp [Value.cells]) ?_) | (refine xk_storeN 3 rfl rfl rfl (by kernel_rfl) (by simp [Value.cells, Value.oneCell']) (by simp [Value.cells]) ?_) | (refine xk_storeN 4 rfl rfl rfl (by kernel_rfl) (by simp [Value.cells, Value.oneCell']) (by simp [Value.cells]) ?_) | (refine xk_storeN 5 rfl rfl rfl (by kernel_rfl) (by simp [Value.cells, Value.oneCell']) (by simp [Value.cells]) ?_) | (refine xk_storeN 6 rfl rfl rfl (by kernel_rfl) (by simp [Value.cells, Value.oneCell']) (by simp [Value.cells]) ?_) | (refine xk_storeN 7 rfl rfl rfl (by kernel_rfl) (by simp [Value.cells, Value.oneCell']) (by simp [Value.cells]) ?_) | (refine xk_storeN 8 rfl rfl rfl (by kernel_rfl) (by simp [Value.cells, Value.oneCell']) (by simp [Value.cells]) ?_)); simp only [putN, Value.cells, List.set, List.take, List.drop, List.nil_append, List.append_nil, List.length_cons, List.length_nil, List.cons_append, Nat.reduceAdd]
        refine xk_assign rfl (by decide) ?_
        refine XK.nilN ?_
        refine XK.ret ?_
        refine XK.norm ?_
        exact XK.retCT rfl (by kernel_rfl) rfl rfl (RdN.whole 1 rfl) rfl fun w1 st => ⟨⟨_, rfl, ⟨kd.toNat, [], 0, 0, 0, 0⟩, none, 0, false, rfl, SlS.nil _ _, hcF.trans (by rw [show bo = false by simpa using hno]; rfl)⟩, st.below (by simp)⟩
      ·
        refine XK.skip ?_
        refine XK.norm ?_
        refine XK.seq ?_
        refine XK.seq ?_
        obtain rfl : bo = true := by simpa using hno
        have hll := hll rfl
        rw [if_pos rfl] at hcF
        obtain ⟨b3, off3, rfl, hz3, hc3⟩ := hS3.2 (by omega)
        obtain ⟨a0, ha0⟩ : ∃ a0, l[0]? = some a0 := ⟨_, List.getElem?_eq_getElem (by omega)⟩

        refine XK.region ?_
        refine xk_field (off := 0) (by kernel_rfl) rfl (by decide) ?_
        refine xk_ld rfl ?_
        refine XK.nilN ?_
        refine XK.block ?_
        refine XK.seq ?_

        refine XK.region ?_
        refine xk_eql rfl rfl (by decide) ?_
        refine xk_assign rfl (by decide) ?_
        refine XK.nilN ?_
        refine XK.if_ rfl (fun ho => ?_) (fun ho => ?_)
        ·
          have hk8 : kd.toNat = 111 := by omega
          rw [hk8] at hcF ⊢
          refine XK.seq ?_

          refine XK.region ?_
          refine xk_move rfl (by decide) ?_
          refine xk_at 0 (off3 + 0) (el := 3) (sz := 1) (by kernel_rfl) (by kernel_rfl) rfl rfl rfl (by omega) (by omega) (by decide) ?_
          refine xk_load (by kernel_rfl) rfl (Rd.ro (p := q1) (by simp) hz3 (hc3 0 (.int .i64 a0) (by simp [intCells, ha0]))) (by decide) ?_
          have hab := numsF_bd r l hnum a0 (List.mem_of_getElem? ha0)
          refine xk_conv (ds := .int .i64) (by kernel_rfl) (by kernel_rfl) rfl (wrap_u64 (by omega)) (by decide) ?_
          refine xk_field (off := 2) (by kernel_rfl) rfl (by decide) ?_
          refine xk_st rfl rfl ?_; dsimp only [List.set]
          refine XK.nilN ?_
          refine XK.seq ?_

          refine XK.region ?_
          refine xk_ldN 6 rfl ?_
          refine xk_move rfl (by decide) ?_
          refine xk_len (el := 3) (by kernel_rfl) rfl (by decide) ?_
          refine xk_eql rfl rfl (by decide) ?_
          (first | (refine xk_storeN 0 rfl rfl rfl (by kernel_rfl) (by simp [Value.cells, Value.oneCell']) (by simp [Value.cells]) ?_) | (refine xk_storeN 1 rfl rfl rfl (by kernel_rfl) (by simp [Value.cells, Value.oneCell']) (by simp [Value.cells]) ?_) | (refine xk_storeN 2 rfl rfl rfl (by kernel_rfl) (by simp [Value.cells, Value.oneCell']) (by simp [Value.cells]) ?_) | (refine xk_storeN 3 rfl rfl rfl (by kernel_rfl) (by simp [Value.cells, Value.oneCell']) (by simp [Value.cells]) ?_) | (refine xk_storeN 4 rfl rfl rfl (by kernel_rfl) (by simp [Value.cells, Value.oneCell']) (by simp [Value.cells]) ?_) | (refine xk_storeN 5 rfl rfl rfl (by kernel_rfl) (by simp [Value.cells, Value.oneCell']) (by simp [Value.cells]) ?_) | (refine xk_storeN 6 rfl rfl rfl (by kernel_rfl) (by simp [Value.cells, Value.oneCell']) (by simp [Value.cells]) ?_) | (refine xk_storeN 7 rfl rfl rfl (by kernel_rfl) (by simp [Value.cells, Value.oneCell']) (by simp [Value.cells]) ?_) | (refine xk_storeN 8 rfl rfl rfl (by kernel_rfl) (by simp [Value.cells, Value.oneCell']) (by simp [Value.cells]) ?_)); simp only [putN, Value.cells, List.set, List.take, List.drop, List.nil_append, List.append_nil, List.length_cons, List.length_nil, List.cons_append, Nat.reduceAdd]
          refine xk_assign rfl (by decide) ?_
          refine XK.nilN ?_
          refine XK.ret ?_
          refine XK.norm ?_
          exact XK.retCT rfl (by kernel_rfl) rfl rfl (RdN.whole 1 rfl) rfl fun w1 st => ⟨⟨_, rfl, ⟨111, [], a0, 0, 0, 0⟩, none, 0, (decide ((l.length : Int) = 1)), rfl, SlS.nil _ _, hcF.trans (clockN_o' l a0 ha0)⟩, st.below (by simp)⟩
        ·
          refine XK.seq ?_

          refine XK.region ?_
          refine xk_eql rfl rfl (by decide) ?_
          refine xk_assign rfl (by decide) ?_
          refine XK.nilN ?_
          refine XK.if_ rfl (fun hp_ => ?_) (fun hp_ => ?_)
          ·
            have hk8 : kd.toNat = 112 := by omega
            rw [hk8] at hcF ⊢
            refine XK.seq ?_
            refine XK.seq ?_

            refine XK.region ?_
            refine xk_move rfl (by decide) ?_
            refine xk_len (el := 3) (by kernel_rfl) rfl (by decide) ?_
            refine xk_neq rfl rfl (by decide) ?_
            refine XK.nilN ?_
            refine XK.if_ rfl (fun hl4 => ?_) (fun hl4 => ?_)
            ·
              refine XK.seq ?_

              refine XK.region ?_
              refine xk_ldN 6 rfl ?_
              (first | (refine xk_storeN 0 rfl rfl rfl (by kernel_rfl) (by simp [Value.cells, Value.oneCell']) (by simp [Value.cells]) ?_) | (refine xk_storeN 1 rfl rfl rfl (by kernel_rfl) (by simp [Value.cells, Value.oneCell']) (by simp [Value.cells]) ?_) | (refine xk_storeN 2 rfl rfl rfl (by kernel_rfl) (by simp [Value.cells, Value.oneCell']) (by simp [Value.cells]) ?_) | (refine xk_storeN 3 rfl rfl rfl (by kernel_rfl) (by simp [Value.cells, Value.oneCell']) (by simp [Value.cells]) ?_) | (refine xk_storeN 4 rfl rfl rfl (by kernel_rfl) (by simp [Value.cells, Value.oneCell']) (by simp [Value.cells]) ?_) | (refine xk_storeN 5 rfl rfl rfl (by kernel_rfl) (by simp [Value.cells, Value.oneCell']) (by simp [Value.cells]) ?_) | (refine xk_storeN 6 rfl rfl rfl (by kernel_rfl) (by simp [Value.cells, Value.oneCell']) (by simp [Value.cells]) ?_) | (refine xk_storeN 7 rfl rfl rfl (by kernel_rfl) (by simp [Value.cells, Value.oneCell']) (by simp [Value.cells]) ?_) | (refine xk_storeN 8 rfl rfl rfl (by kernel_rfl) (by simp [Value.cells, Value.oneCell']) (by simp [Value.cells]) ?_)); simp only [putN, Value.cells, List.set, List.take, List.drop, List.nil_append, List.append_nil, List.length_cons, List.length_nil, List.cons_append, Nat.reduceAdd]
              refine xk_assign rfl (by decide) ?_
              refine XK.nilN ?_
              refine XK.ret ?_
              refine XK.norm ?_
              exact XK.retCT rfl (by kernel_rfl) rfl rfl (RdN.whole 1 rfl) rfl fun w1 st => ⟨⟨_, rfl, ⟨112, [], 0, 0, 0, 0⟩, none, 0, false, rfl, SlS.nil _ _, hcF.trans (clockN_p' hl4)⟩, st.below (by simp)⟩
            ·
              refine XK.skip ?_
              refine XK.norm ?_
              refine XK.seq ?_
              obtain ⟨a0, a1, a2, a3, rfl⟩ := len4 (show l.length = 4 by omega)
              clear ha0

              refine XK.region ?_
              refine xk_move rfl (by decide) ?_
              refine xk_sliceH 1 (el := 3) (sz := 1) (by kernel_rfl) (by kernel_rfl) rfl rfl rfl (by simp at hlc; omega) (by decide) fun A4 hA4 => ?_
              have hS4 := SlS.takeP (k := 1) hS3 (by simp) hA4
              refine xk_field (off := 1) (by kernel_rfl) rfl (by decide) ?_
              refine xk_st rfl rfl ?_; dsimp only [List.set]
              refine XK.nilN ?_
              refine XK.seq ?_

              refine XK.region ?_
              refine xk_move rfl (by decide) ?_
              refine xk_at 1 (off3 + 1) (el := 3) (sz := 1) (by kernel_rfl) (by kernel_rfl) rfl rfl rfl (by simp) (by simp) (by decide) ?_
              refine xk_load (by kernel_rfl) rfl (Rd.ro (p := q1) (by simp) hz3 (hc3 1 _ rfl)) (by decide) ?_
              refine xk_field (off := 3) (by kernel_rfl) rfl (by decide) ?_
              refine xk_st rfl rfl ?_; dsimp only [List.set]
              refine XK.nilN ?_
              refine XK.seq ?_

              refine XK.region ?_
              refine xk_move rfl (by decide) ?_
              refine xk_at 2 (off3 + 2) (el := 3) (sz := 1) (by kernel_rfl) (by kernel_rfl) rfl rfl rfl (by simp) (by simp) (by decide) ?_
              refine xk_load (by kernel_rfl) rfl (Rd.ro (p := q1) (by simp) hz3 (hc3 2 _ rfl)) (by decide) ?_
              refine xk_field (off := 4) (by kernel_rfl) rfl (by decide) ?_
              refine xk_st rfl rfl ?_; dsimp only [List.set]
              refine XK.nilN ?_
              refine XK.seq ?_

              refine XK.region ?_
              refine xk_move rfl (by decide) ?_
              refine xk_at 3 (off3 + 3) (el := 3) (sz := 1) (by kernel_rfl) (by kernel_rfl) rfl rfl rfl (by simp) (by simp) (by decide) ?_
              refine xk_load (by kernel_rfl) rfl (Rd.ro (p := q1) (by simp) hz3 (hc3 3 _ rfl)) (by decide) ?_
              refine xk_field (off := 5) (by kernel_rfl) rfl (by decide) ?_
              refine xk_st rfl rfl ?_; dsimp only [List.set]
              refine XK.nilN ?_
              refine XK.seq ?_

              refine XK.region ?_
              refine xk_ldN 6 rfl ?_
              (first | (refine xk_storeN 0 rfl rfl rfl (by kernel_rfl) (by simp [Value.cells, Value.oneCell']) (by simp [Value.cells]) ?_) | (refine xk_storeN 1 rfl rfl rfl (by kernel_rfl) (by simp [Value.cells, Value.oneCell']) (by simp [Value.cells]) ?_) | (refine xk_storeN 2 rfl rfl rfl (by kernel_rfl) (by simp [Value.cells, Value.oneCell']) (by simp [Value.cells]) ?_) | (refine xk_storeN 3 rfl rfl rfl (by kernel_rfl) (by simp [Value.cells, Value.oneCell']) (by simp [Value.cells]) ?_) | (refine xk_storeN 4 rfl rfl rfl (by kernel_rfl) (by simp [Value.cells, Value.oneCell']) (by simp [Value.cells]) ?_) | (refine xk_storeN 5 rfl rfl rfl (by kernel_rfl) (by simp [Value.cells, Value.oneCell']) (by simp [Value.cells]) ?_) | (refine xk_storeN 6 rfl rfl rfl (by kernel_rfl) (by simp [Value.cells, Value.oneCell']) (by simp [Value.cells]) ?_) | (refine xk_storeN 7 rfl rfl rfl (by kernel_rfl) (by simp [Value.cells, Value.oneCell']) (by simp [Value.cells]) ?_) | (refine xk_storeN 8 rfl rfl rfl (by kernel_rfl) (by simp [Value.cells, Value.oneCell']) (by simp [Value.cells]) ?_)); simp only [putN, Value.cells, List.set, List.take, List.drop, List.nil_append, List.append_nil, List.length_cons, List.length_nil, List.cons_append, Nat.reduceAdd]
              refine xk_assign rfl (by decide) ?_
              refine XK.nilN ?_
              refine XK.ret ?_
              refine XK.norm ?_
              exact XK.retCT rfl (by kernel_rfl) rfl rfl (RdN.whole 1 rfl) rfl fun w1 st => ⟨⟨_, rfl, ⟨112, [a0], 0, a1, a2, a3⟩, A4, _, true, rfl, hS4.le (st.fresh_le (by simp) hF1), hcF⟩, st.below (by simp)⟩
          ·
            refine XK.seq ?_

            refine XK.region ?_
            refine xk_eql rfl rfl (by decide) ?_
            refine xk_assign rfl (by decide) ?_
            refine XK.nilN ?_
            refine XK.if_ rfl (fun hm_ => ?_) (fun hm_ => ?_)
            ·
              have hk8 : kd.toNat = 109 := by omega
              rw [hk8] at hcF ⊢
              refine XK.seq ?_

              refine XK.region ?_
              refine xk_move rfl (by decide) ?_
              refine xk_field (off := 1) (by kernel_rfl) rfl (by decide) ?_
              refine xk_st rfl rfl ?_; dsimp only [List.set]
              refine XK.nilN ?_
              refine XK.seq ?_

              refine XK.region ?_
              refine xk_ldN 6 rfl ?_
              (first | (refine xk_storeN 0 rfl rfl rfl (by kernel_rfl) (by simp [Value.cells, Value.oneCell']) (by simp [Value.cells]) ?_) | (refine xk_storeN 1 rfl rfl rfl (by kernel_rfl) (by simp [Value.cells, Value.oneCell']) (by simp [Value.cells]) ?_) | (refine xk_storeN 2 rfl rfl rfl (by kernel_rfl) (by simp [Value.cells, Value.oneCell']) (by simp [Value.cells]) ?_) | (refine xk_storeN 3 rfl rfl rfl (by kernel_rfl) (by simp [Value.cells, Value.oneCell']) (by simp [Value.cells]) ?_) | (refine xk_storeN 4 rfl rfl rfl (by kernel_rfl) (by simp [Value.cells, Value.oneCell']) (by simp [Value.cells]) ?_) | (refine xk_storeN 5 rfl rfl rfl (by kernel_rfl) (by simp [Value.cells, Value.oneCell']) (by simp [Value.cells]) ?_) | (refine xk_storeN 6 rfl rfl rfl (by kernel_rfl) (by simp [Value.cells, Value.oneCell']) (by simp [Value.cells]) ?_) | (refine xk_storeN 7 rfl rfl rfl (by kernel_rfl) (by simp [Value.cells, Value.oneCell']) (by simp [Value.cells]) ?_) | (refine xk_storeN 8 rfl rfl rfl (by kernel_rfl) (by simp [Value.cells, Value.oneCell']) (by simp [Value.cells]) ?_)); simp only [putN, Value.cells, List.set, List.take, List.drop, List.nil_append, List.append_nil, List.length_cons, List.length_nil, List.cons_append, Nat.reduceAdd]
              refine xk_assign rfl (by decide) ?_
              refine XK.nilN ?_
              refine XK.ret ?_
              refine XK.norm ?_
              exact XK.retCT rfl (by kernel_rfl) rfl rfl (RdN.whole 1 rfl) rfl fun w1 st => ⟨⟨_, rfl, ⟨109, l, 0, 0, 0, 0⟩, _, _, true, rfl, hS3.le (st.fresh_le (by simp) hF1), hcF⟩, st.below (by simp)⟩
            ·
              refine XK.seq ?_

              refine XK.region ?_
              refine xk_eql rfl rfl (by decide) ?_
              refine xk_assign rfl (by decide) ?_
              refine XK.nilN ?_
              refine XK.if_ rfl (fun hd_ => ?_) (fun hd_ => ?_)
              ·
                have hk8 : kd.toNat = 100 := by omega
                rw [hk8] at hcF ⊢
                refine XK.seq ?_
                refine XK.seq ?_

                refine XK.region ?_
                refine xk_move rfl (by decide) ?_
                refine xk_len (el := 3) (by kernel_rfl) rfl (by decide) ?_
                refine xk_neq rfl rfl (by decide) ?_
                refine XK.nilN ?_
                refine XK.if_ rfl (fun hl2 => ?_) (fun hl2 => ?_)
                ·
                  refine XK.seq ?_

                  refine XK.region ?_
                  refine xk_ldN 6 rfl ?_
                  (first | (refine xk_storeN 0 rfl rfl rfl (by kernel_rfl) (by simp [Value.cells, Value.oneCell']) (by simp [Value.cells]) ?_) | (refine xk_storeN 1 rfl rfl rfl (by kernel_rfl) (by simp [Value.cells, Value.oneCell']) (by simp [Value.cells]) ?_) | (refine xk_storeN 2 rfl rfl rfl (by kernel_rfl) (by simp [Value.cells, Value.oneCell']) (by simp [Value.cells]) ?_) | (refine xk_storeN 3 rfl rfl rfl (by kernel_rfl) (by simp [Value.cells, Value.oneCell']) (by simp [Value.cells]) ?_) | (refine xk_storeN 4 rfl rfl rfl (by kernel_rfl) (by simp [Value.cells, Value.oneCell']) (by simp [Value.cells]) ?_) | (refine xk_storeN 5 rfl rfl rfl (by kernel_rfl) (by simp [Value.cells, Value.oneCell']) (by simp [Value.cells]) ?_) | (refine xk_storeN 6 rfl rfl rfl (by kernel_rfl) (by simp [Value.cells, Value.oneCell']) (by simp [Value.cells]) ?_) | (refine xk_storeN 7 rfl rfl rfl (by kernel_rfl) (by simp [Value.cells, Value.oneCell']) (by simp [Value.cells]) ?_) | (refine xk_storeN 8 rfl rfl rfl (by kernel_rfl) (by simp [Value.cells, Value.oneCell']) (by simp [Value.cells]) ?_)); simp only [putN, Value.cells, List.set, List.take, List.drop, List.nil_append, List.append_nil, List.length_cons, List.length_nil, List.cons_append, Nat.reduceAdd]
                  refine xk_assign rfl (by decide) ?_
                  refine XK.nilN ?_
                  refine XK.ret ?_
                  refine XK.norm ?_
                  exact XK.retCT rfl (by kernel_rfl) rfl rfl (RdN.whole 1 rfl) rfl fun w1 st => ⟨⟨_, rfl, ⟨100, [], 0, 0, 0, 0⟩, none, 0, false, rfl, SlS.nil _ _, hcF.trans (clockN_d' hl2)⟩, st.below (by simp)⟩
                ·
                  refine XK.skip ?_
                  refine XK.norm ?_
                  refine XK.seq ?_

                  refine XK.region ?_
                  refine xk_move rfl (by decide) ?_
                  obtain ⟨a0, a1, rfl⟩ := len2 (show l.length = 2 by omega)
                  clear ha0
                  refine xk_sliceH 1 (el := 3) (sz := 1) (by kernel_rfl) (by kernel_rfl) rfl rfl rfl (by simp at hlc; omega) (by decide) fun A4 hA4 => ?_
                  have hS4 := SlS.takeP (k := 1) hS3 (by simp) hA4
                  refine xk_field (off := 1) (by kernel_rfl) rfl (by decide) ?_
                  refine xk_st rfl rfl ?_; dsimp only [List.set]
                  refine XK.nilN ?_
                  refine XK.seq ?_

                  refine XK.region ?_
                  refine xk_move rfl (by decide) ?_
                  refine xk_at 1 (off3 + 1) (el := 3) (sz := 1) (by kernel_rfl) (by kernel_rfl) rfl rfl rfl (by simp) (by simp) (by decide) ?_
                  refine xk_load (by kernel_rfl) rfl (Rd.ro (p := q1) (by simp) hz3 (hc3 1 _ rfl)) (by decide) ?_
                  refine xk_field (off := 4) (by kernel_rfl) rfl (by decide) ?_
                  refine xk_st rfl rfl ?_; dsimp only [List.set]
                  refine XK.nilN ?_
                  refine XK.seq ?_

                  refine XK.region ?_
                  refine xk_ldN 6 rfl ?_
                  (first | (refine xk_storeN 0 rfl rfl rfl (by kernel_rfl) (by simp [Value.cells, Value.oneCell']) (by simp [Value.cells]) ?_) | (refine xk_storeN 1 rfl rfl rfl (by kernel_rfl) (by simp [Value.cells, Value.oneCell']) (by simp [Value.cells]) ?_) | (refine xk_storeN 2 rfl rfl rfl (by kernel_rfl) (by simp [Value.cells, Value.oneCell']) (by simp [Value.cells]) ?_) | (refine xk_storeN 3 rfl rfl rfl (by kernel_rfl) (by simp [Value.cells, Value.oneCell']) (by simp [Value.cells]) ?_) | (refine xk_storeN 4 rfl rfl rfl (by kernel_rfl) (by simp [Value.cells, Value.oneCell']) (by simp [Value.cells]) ?_) | (refine xk_storeN 5 rfl rfl rfl (by kernel_rfl) (by simp [Value.cells, Value.oneCell']) (by simp [Value.cells]) ?_) | (refine xk_storeN 6 rfl rfl rfl (by kernel_rfl) (by simp [Value.cells, Value.oneCell']) (by simp [Value.cells]) ?_) | (refine xk_storeN 7 rfl rfl rfl (by kernel_rfl) (by simp [Value.cells, Value.oneCell']) (by simp [Value.cells]) ?_) | (refine xk_storeN 8 rfl rfl rfl (by kernel_rfl) (by simp [Value.cells, Value.oneCell']) (by simp [Value.cells]) ?_)); simp only [putN, Value.cells, List.set, List.take, List.drop, List.nil_append, List.append_nil, List.length_cons, List.length_nil, List.cons_append, Nat.reduceAdd]
                  refine xk_assign rfl (by decide) ?_
                  refine XK.nilN ?_
                  refine XK.ret ?_
                  refine XK.norm ?_
                  exact XK.retCT rfl (by kernel_rfl) rfl rfl (RdN.whole 1 rfl) rfl fun w1 st => ⟨⟨_, rfl, ⟨100, [a0], 0, 0, a1, 0⟩, A4, _, true, rfl, hS4.le (st.fresh_le (by simp) hF1), hcF⟩, st.below (by simp)⟩
              ·
                refine XK.seq ?_

                refine XK.region ?_
                refine xk_eql rfl rfl (by decide) ?_
                refine xk_assign rfl (by decide) ?_
                refine XK.nilN ?_
                refine XK.if_ rfl (fun hg_ => ?_) (fun hg_ => ?_)
                ·
                  have hk8 : kd.toNat = 103 := by omega
                  rw [hk8] at hcF ⊢
                  refine XK.seq ?_

                  refine XK.region ?_
                  refine xk_move rfl (by decide) ?_
                  refine xk_field (off := 1) (by kernel_rfl) rfl (by decide) ?_
                  refine xk_st rfl rfl ?_; dsimp only [List.set]
                  refine XK.nilN ?_
                  refine XK.seq ?_

                  refine XK.region ?_
                  refine xk_ldN 6 rfl ?_
                  refine xk_move rfl (by decide) ?_
                  refine xk_len (el := 3) (by kernel_rfl) rfl (by decide) ?_
                  refine xk_eql rfl rfl (by decide) ?_
                  (first | (refine xk_storeN 0 rfl rfl rfl (by kernel_rfl) (by simp [Value.cells, Value.oneCell']) (by simp [Value.cells]) ?_) | (refine xk_storeN 1 rfl rfl rfl (by kernel_rfl) (by simp [Value.cells, Value.oneCell']) (by simp [Value.cells]) ?_) | (refine xk_storeN 2 rfl rfl rfl (by kernel_rfl) (by simp [Value.cells, Value.oneCell']) (by simp [Value.cells]) ?_) | (refine xk_storeN 3 rfl rfl rfl (by kernel_rfl) (by simp [Value.cells, Value.oneCell']) (by simp [Value.cells]) ?_) | (refine xk_storeN 4 rfl rfl rfl (by kernel_rfl) (by simp [Value.cells, Value.oneCell']) (by simp [Value.cells]) ?_) | (refine xk_storeN 5 rfl rfl rfl (by kernel_rfl) (by simp [Value.cells, Value.oneCell']) (by simp [Value.cells]) ?_) | (refine xk_storeN 6 rfl rfl rfl (by kernel_rfl) (by simp [Value.cells, Value.oneCell']) (by simp [Value.cells]) ?_) | (refine xk_storeN 7 rfl rfl rfl (by kernel_rfl) (by simp [Value.cells, Value.oneCell']) (by simp [Value.cells]) ?_) | (refine xk_storeN 8 rfl rfl rfl (by kernel_rfl) (by simp [Value.cells, Value.oneCell']) (by simp [Value.cells]) ?_)); simp only [putN, Value.cells, List.set, List.take, List.drop, List.nil_append, List.append_nil, List.length_cons, List.length_nil, List.cons_append, Nat.reduceAdd]
                  refine xk_assign rfl (by decide) ?_
                  refine XK.nilN ?_
                  refine XK.ret ?_
                  refine XK.norm ?_
                  exact XK.retCT rfl (by kernel_rfl) rfl rfl (RdN.whole 1 rfl) rfl fun w1 st => ⟨⟨_, rfl, ⟨103, l, 0, 0, 0, 0⟩, _, _, (decide ((l.length : Int) = 1)), rfl, hS3.le (st.fresh_le (by simp) hF1), hcF.trans (clockN_g' l)⟩, st.below (by simp)⟩
                ·
                  refine XK.skip ?_
                  refine XK.norm ?_
                  refine XK.seq ?_

                  refine XK.region ?_
                  refine xk_ldN 6 rfl ?_
                  (first | (refine xk_storeN 0 rfl rfl rfl (by kernel_rfl) (by simp [Value.cells, Value.oneCell']) (by simp [Value.cells]) ?_) | (refine xk_storeN 1 rfl rfl rfl (by kernel_rfl) (by simp [Value.cells, Value.oneCell']) (by simp [Value.cells]) ?_) | (refine xk_storeN 2 rfl rfl rfl (by kernel_rfl) (by simp [Value.cells, Value.oneCell']) (by simp [Value.cells]) ?_) | (refine xk_storeN 3 rfl rfl rfl (by kernel_rfl) (by simp [Value.cells, Value.oneCell']) (by simp [Value.cells]) ?_) | (refine xk_storeN 4 rfl rfl rfl (by kernel_rfl) (by simp [Value.cells, Value.oneCell']) (by simp [Value.cells]) ?_) | (refine xk_storeN 5 rfl rfl rfl (by kernel_rfl) (by simp [Value.cells, Value.oneCell']) (by simp [Value.cells]) ?_) | (refine xk_storeN 6 rfl rfl rfl (by kernel_rfl) (by simp [Value.cells, Value.oneCell']) (by simp [Value.cells]) ?_) | (refine xk_storeN 7 rfl rfl rfl (by kernel_rfl) (by simp [Value.cells, Value.oneCell']) (by simp [Value.cells]) ?_) | (refine xk_storeN 8 rfl rfl rfl (by kernel_rfl) (by simp [Value.cells, Value.oneCell']) (by simp [Value.cells]) ?_)); simp only [putN, Value.cells, List.set, List.take, List.drop, List.nil_append, List.append_nil, List.length_cons, List.length_nil, List.cons_append, Nat.reduceAdd]
                  refine xk_assign rfl (by decide) ?_
                  refine XK.nilN ?_
                  refine XK.ret ?_
                  refine XK.norm ?_
                  exact XK.retCT rfl (by kernel_rfl) rfl rfl (RdN.whole 1 rfl) rfl fun w1 st => ⟨⟨_, rfl, ⟨kd.toNat, [], 0, 0, 0, 0⟩, none, 0, false, rfl, SlS.nil _ _, hcF.trans (clockN_other (by omega) (by omega) (by omega) (by omega) (by omega))⟩, st.below (by simp)⟩

def DomV (ws : List ByteArray) (v : Value) (_ _ : World) : Prop := ∃ (d : Dom) (b : Bool), v = .tuple #[.agg #[.int .i64 d.above, .int .i64 d.delay, .bool d.ret], .bool b] ∧ domF ws.tail = if b then some d else none
theorem domF_len {ws : List ByteArray} (h : ¬ ws.length = 4) : domF ws.tail = none := by
  match ws, h with
  | [], _ => rfl
  | [_], _ => rfl
  | [_, _], _ => rfl
  | [_, _, _], _ => rfl
  | [_, _, _, _], h => exact absurd rfl h
  | _ :: _ :: _ :: _ :: _ :: _, _ => rfl
theorem keptF_some {s : ByteArray} (h : s = keepS ∨ s = loseS) : keptF s = some (decide (s = keepS)) := by
  unfold keptF
  by_cases h1 : s = keepS
  · rw [if_pos h1, decide_eq_true h1]
  · rw [if_neg h1, if_pos (h.resolve_left h1), decide_eq_false h1]
theorem keptF_none {s : ByteArray} (h1 : ¬ s = keepS) (h2 : ¬ s = loseS) : keptF s = none := by
  unfold keptF; rw [if_neg h1, if_neg h2]
theorem num_bd (s : ByteArray) : (numF s).getD 0 < 1000000000000000 := by
  cases h : numF s with
  | none => decide
  | some n => exact numF_lt h

set_option maxHeartbeats 1000000 in
theorem refDomA_ok (ws : List ByteArray) (A : Option Addr) (n c : Nat) (w : World) (hS : SlS (all w) 1 A n (strCells ws)) (hn : ws.length = n) (hnc : n ≤ c) (hn63 : n ≤ 1000000) (hsz : ∀ s ∈ ws, s.size < 4294967296) :
    Calls Tryz.prog 83 #[.slice A n c] w (fun y w' => (∃ v, y = .returned v ∧ DomV ws v w w') ∧ Below w.heap.size w w') := by
  obtain ⟨u3, hu3⟩ : ∃ u3 : ByteArray, n = 4 → ws[3]? = some u3 := by
    by_cases h : n = 4
    · exact ⟨ws[3]'(by omega), fun _ => List.getElem?_eq_getElem _⟩
    · exact ⟨⟨#[]⟩, fun h2 => absurd h2 h⟩
  refine XK.enter (vs := [.slice A n c]) Tryz.func83 rfl Tryz.ntmps83 (by simp) ?_
  refine XK.seq ?_

  refine XK.region ?_
  refine xk_alloc (cs := [.int .i64 0, .int .i64 0, .bool false]) (zeroB_of (by kernel_rfl)) (by decide) fun g1 => ?_
  refine xk_assign rfl (by decide) ?_
  refine XK.nilN ?_
  refine XK.seq ?_
  refine XK.cutB 23 (¬ (n : Int) = 4 ∨ (¬ u3 = keepS ∧ ¬ u3 = loseS)) ?_ ?_
  · skip

    refine XK.region ?_
    refine xk_move rfl (by decide) ?_
    refine xk_len (el := 9) (by kernel_rfl) rfl (by decide) ?_
    refine xk_neq rfl rfl (by decide) ?_
    refine xk_move rfl (by decide) ?_
    refine xk_split (t := 12) rfl (fun hg12 => ?_) (fun hg12 => ?_)
    ·
      refine xk_guardF rfl rfl rfl (by decide) ?_
      refine xk_guardF rfl rfl rfl (by decide) ?_
      refine xk_guardF rfl rfl rfl (by decide) ?_
      refine xk_guardF rfl rfl rfl (by decide) ?_
      refine xk_guardF rfl rfl rfl (by decide) ?_
      refine xk_guardU rfl rfl (by decide) ?_
      refine xk_guardU rfl rfl (by decide) ?_
      refine xk_guardU rfl rfl (by decide) ?_
      refine xk_guardU rfl rfl (by decide) ?_
      refine xk_guardF rfl rfl rfl (by decide) ?_
      (first | refine xk_pickT rfl rfl (by decide) ?_ | refine xk_pickF rfl rfl (by decide) ?_)
      refine XK.nilN ?_
      exact XK.meetB (by repeat (first | exact trivial | refine ⟨rfl, ?_⟩)) (get_true rfl (.inl (by omega)))
    ·
      have hn4 : n = 4 := by omega
      have hu := hu3 hn4
      obtain ⟨b0, off, rfl, hz, hc⟩ := hS.2 (by omega)
      have hc3 := hc 3 _ (strCells_at hu)
      refine xk_guardT rfl rfl ?_; refine xk_move rfl (by decide) ?_
      refine xk_guardT rfl rfl ?_; refine xk_at 3 (off + 3) (el := 9) (sz := 1) (by kernel_rfl) (by kernel_rfl) rfl rfl rfl (by omega) (by omega) (by decide) ?_
      refine xk_guardT rfl rfl ?_; refine xk_load (by kernel_rfl) rfl (Rd.ro (p := all w) (by simp) hz hc3) (by decide) ?_
      refine xk_guardT rfl rfl ?_; refine xk_neqStr (by kernel_rfl) rfl rfl (by decide) ?_
      refine xk_guardT rfl rfl ?_; refine xk_move rfl (by decide) ?_
      refine xk_split (t := 17) rfl (fun hg17 => ?_) (fun hg17 => ?_)
      ·
        refine xk_guardT rfl rfl ?_; refine xk_move rfl (by decide) ?_
        refine xk_guardT rfl rfl ?_; refine xk_at 3 (off + 3) (el := 9) (sz := 1) (by kernel_rfl) (by kernel_rfl) rfl rfl rfl (by omega) (by omega) (by decide) ?_
        refine xk_guardT rfl rfl ?_; refine xk_load (by kernel_rfl) rfl (Rd.ro (p := all w) (by simp) hz hc3) (by decide) ?_
        refine xk_guardT rfl rfl ?_; refine xk_neqStr (by kernel_rfl) rfl rfl (by decide) ?_
        refine xk_guardT rfl rfl ?_; (first | refine xk_pickT rfl rfl (by decide) ?_ | refine xk_pickF rfl rfl (by decide) ?_)
        (first | refine xk_pickT rfl rfl (by decide) ?_ | refine xk_pickF rfl rfl (by decide) ?_)
        refine XK.nilN ?_
        exact XK.meetB (by repeat (first | exact trivial | refine ⟨rfl, ?_⟩)) (get_iff rfl ⟨fun h => .inr ⟨hg17, h⟩, fun h => (h.resolve_left (by omega)).2⟩)
      ·
        refine xk_guardF rfl rfl rfl (by decide) ?_
        refine xk_guardF rfl rfl rfl (by decide) ?_
        refine xk_guardF rfl rfl rfl (by decide) ?_
        refine xk_guardF rfl rfl rfl (by decide) ?_
        refine xk_guardT rfl rfl ?_; (first | refine xk_pickT rfl rfl (by decide) ?_ | refine xk_pickF rfl rfl (by decide) ?_)
        (first | refine xk_pickT rfl rfl (by decide) ?_ | refine xk_pickF rfl rfl (by decide) ?_)
        refine XK.nilN ?_
        exact XK.meetB (by repeat (first | exact trivial | refine ⟨rfl, ?_⟩)) (get_false rfl (fun h => hg17 (h.resolve_left (by omega)).1))
  refine XK.if_ rfl (fun hbad => ?_) (fun hbad => ?_)
  ·
    refine XK.seq ?_

    refine XK.region ?_
    refine xk_buildS (zs := [.int .i64 0, .int .i64 0, .bool false]) (L := [(0, 1), (1, 1), (2, 1)]) (zeroB_of (by kernel_rfl)) (by kernel_rfl) rfl (by simp [fillL, setN, Value.cells]; rfl) (by decide) ?_
    (first | (refine xk_storeN 0 rfl rfl rfl (by kernel_rfl) (by simp [Value.cells, Value.oneCell']) (by simp [Value.cells]) ?_) | (refine xk_storeN 1 rfl rfl rfl (by kernel_rfl) (by simp [Value.cells, Value.oneCell']) (by simp [Value.cells]) ?_) | (refine xk_storeN 2 rfl rfl rfl (by kernel_rfl) (by simp [Value.cells, Value.oneCell']) (by simp [Value.cells]) ?_) | (refine xk_storeN 3 rfl rfl rfl (by kernel_rfl) (by simp [Value.cells, Value.oneCell']) (by simp [Value.cells]) ?_) | (refine xk_storeN 4 rfl rfl rfl (by kernel_rfl) (by simp [Value.cells, Value.oneCell']) (by simp [Value.cells]) ?_) | (refine xk_storeN 5 rfl rfl rfl (by kernel_rfl) (by simp [Value.cells, Value.oneCell']) (by simp [Value.cells]) ?_) | (refine xk_storeN 6 rfl rfl rfl (by kernel_rfl) (by simp [Value.cells, Value.oneCell']) (by simp [Value.cells]) ?_) | (refine xk_storeN 7 rfl rfl rfl (by kernel_rfl) (by simp [Value.cells, Value.oneCell']) (by simp [Value.cells]) ?_) | (refine xk_storeN 8 rfl rfl rfl (by kernel_rfl) (by simp [Value.cells, Value.oneCell']) (by simp [Value.cells]) ?_)); simp only [putN, Value.cells, List.set, List.take, List.drop, List.nil_append, List.append_nil, List.length_cons, List.length_nil, List.cons_append, Nat.reduceAdd]
    refine xk_assign rfl (by decide) ?_
    refine XK.nilN ?_
    refine XK.ret ?_
    refine XK.norm ?_
    have hbn : domF ws.tail = none := by
      by_cases h4 : ws.length = 4
      · have hu := hu3 (by omega)
        obtain ⟨u0, u1, u2, u4, rfl⟩ := len4 h4
        simp at hu
        subst hu
        obtain ⟨h5, h6⟩ := hbad.resolve_left (by omega)
        show (match aboveF u1, numF u2, keptF u4 with
          | some x, some y, some z => some (⟨x, (y : Int), z⟩ : Dom)
          | _, _, _ => none) = none
        rw [keptF_none h5 h6]
        cases aboveF u1 <;> cases numF u2 <;> rfl
      · exact domF_len h4
    exact XK.retCT rfl (by kernel_rfl) rfl rfl (RdN.whole 0 rfl) rfl fun w1 st => ⟨⟨_, rfl, ⟨0, 0, false⟩, false, rfl, hbn⟩, st.below (by simp)⟩
  ·
    refine XK.skip ?_
    refine XK.norm ?_
    refine XK.seq ?_
    obtain ⟨hn4, hkl⟩ : n = 4 ∧ (u3 = keepS ∨ u3 = loseS) := by
      refine ⟨Classical.byContradiction fun h => hbad (.inl (by omega)), Classical.byContradiction fun h => hbad (.inr ⟨fun h2 => h (.inl h2), fun h2 => h (.inr h2)⟩)⟩
    have hu := hu3 hn4
    obtain ⟨u0, u1, u2, u4, rfl⟩ := len4 (show ws.length = 4 by omega)
    simp at hu
    subst hu
    have hkp := keptF_some hkl
    have hdF : domF [u0, u1, u2, u4].tail = match aboveF u1, numF u2, keptF u4 with
      | some x, some y, some z => some (⟨x, (y : Int), z⟩ : Dom)
      | _, _, _ => none := rfl
    rw [hkp] at hdF
    obtain ⟨b0, off, rfl, hz, hc⟩ := hS.2 (by omega)
    have hs1 := hsz u1 (by simp)
    have hs2 := hsz u2 (by simp)
    clear hu3 hbad

    refine XK.region ?_
    refine xk_move rfl (by decide) ?_
    refine xk_at 3 (off + 3) (el := 9) (sz := 1) (by kernel_rfl) (by kernel_rfl) rfl rfl rfl (by omega) (by omega) (by decide) ?_
    refine xk_load (by kernel_rfl) rfl (Rd.ro (p := all w) (by simp) hz (hc 3 _ rfl)) (by decide) ?_
    refine xk_eqlStr (by kernel_rfl) rfl rfl (by decide) ?_
    rw [show decide (u4 = ⟨#[107, 101, 101, 112]⟩) = decide (u4 = keepS) from rfl]
    refine xk_buildS (zs := [.int .i64 0, .int .i64 0, .bool false]) (L := [(0, 1), (1, 1), (2, 1)]) (zeroB_of (by kernel_rfl)) (by kernel_rfl) rfl (by simp [fillL, setN, Value.cells]; rfl) (by decide) ?_
    refine xk_alloc (cs := [.int .i64 0, .int .i64 0, .bool false]) (zeroB_of (by kernel_rfl)) (by decide) fun g2 => ?_
    (first | (refine xk_storeN 0 rfl rfl rfl (by kernel_rfl) (by simp [Value.cells, Value.oneCell']) (by simp [Value.cells]) ?_) | (refine xk_storeN 1 rfl rfl rfl (by kernel_rfl) (by simp [Value.cells, Value.oneCell']) (by simp [Value.cells]) ?_) | (refine xk_storeN 2 rfl rfl rfl (by kernel_rfl) (by simp [Value.cells, Value.oneCell']) (by simp [Value.cells]) ?_) | (refine xk_storeN 3 rfl rfl rfl (by kernel_rfl) (by simp [Value.cells, Value.oneCell']) (by simp [Value.cells]) ?_) | (refine xk_storeN 4 rfl rfl rfl (by kernel_rfl) (by simp [Value.cells, Value.oneCell']) (by simp [Value.cells]) ?_) | (refine xk_storeN 5 rfl rfl rfl (by kernel_rfl) (by simp [Value.cells, Value.oneCell']) (by simp [Value.cells]) ?_) | (refine xk_storeN 6 rfl rfl rfl (by kernel_rfl) (by simp [Value.cells, Value.oneCell']) (by simp [Value.cells]) ?_) | (refine xk_storeN 7 rfl rfl rfl (by kernel_rfl) (by simp [Value.cells, Value.oneCell']) (by simp [Value.cells]) ?_) | (refine xk_storeN 8 rfl rfl rfl (by kernel_rfl) (by simp [Value.cells, Value.oneCell']) (by simp [Value.cells]) ?_)); simp only [putN, Value.cells, List.set, List.take, List.drop, List.nil_append, List.append_nil, List.length_cons, List.length_nil, List.cons_append, Nat.reduceAdd]
    refine XK.nilN ?_
    refine XK.cut (fun e R H => ∃ ab : Int, aboveF u1 = some ab ∧ e = [(4, .pointer (some ⟨g2, 0, none⟩)), (2, .pointer (some ⟨g1, 0, none⟩)), (0, .slice (some ⟨b0, off, none⟩) n c)] ∧ R = [all w] ∧ H = [HP.blk g2 69 [.int .i64 ab, .int .i64 0, .bool (decide (u4 = keepS))], HP.blk g1 69 [.int .i64 0, .int .i64 0, .bool false]]) ?_ ?_
    ·
      refine XK.seq ?_

      refine XK.region ?_
      refine xk_move rfl (by decide) ?_
      refine xk_at 1 (off + 1) (el := 9) (sz := 1) (by kernel_rfl) (by kernel_rfl) rfl rfl rfl (by omega) (by omega) (by decide) ?_
      refine xk_load (by kernel_rfl) rfl (Rd.ro (p := all w) (by simp) hz (hc 1 _ rfl)) (by decide) ?_
      refine xk_neqStr (by kernel_rfl) rfl rfl (by decide) ?_
      refine XK.nilN ?_
      refine XK.if_ rfl (fun hmi => ?_) (fun hmi => ?_)
      ·
        refine XK.seq ?_

        refine XK.region ?_
        refine xk_move rfl (by decide) ?_
        refine xk_at 1 (off + 1) (el := 9) (sz := 1) (by kernel_rfl) (by kernel_rfl) rfl rfl rfl (by omega) (by omega) (by decide) ?_
        refine xk_load (by kernel_rfl) rfl (Rd.ro (p := all w) (by simp) hz (hc 1 _ rfl)) (by decide) ?_
        have hab : aboveF u1 = (numF u1).map fun n => (n : Int) := if_neg hmi
        have hb1 := num_bd u1
        refine xk_callR (f := 14) (fi := []) (ca := []) (by kernel_rfl) rfl rfl (by decide) (fun w1 st => refNum_ok u1 hs1 w1) ?_
        dsimp only [numV]
        refine xk_move rfl (by decide) ?_
        refine xk_extract rfl rfl (by decide) ?_
        refine xk_extract rfl rfl (by decide) ?_
        refine xk_assign rfl (by decide) ?_
        refine xk_assign rfl (by decide) ?_
        refine XK.nilN ?_
        refine XK.seq ?_
        refine XK.seq ?_

        refine XK.region ?_
        refine xk_move rfl (by decide) ?_
        refine xk_not rfl (by decide) ?_
        refine XK.nilN ?_
        refine XK.cond rfl (fun hno => ?_) (fun hno => ?_)
        ·
          refine XK.seq ?_

          refine XK.region ?_
          refine xk_ldN 3 rfl ?_
          (first | (refine xk_storeN 0 rfl rfl rfl (by kernel_rfl) (by simp [Value.cells, Value.oneCell']) (by simp [Value.cells]) ?_) | (refine xk_storeN 1 rfl rfl rfl (by kernel_rfl) (by simp [Value.cells, Value.oneCell']) (by simp [Value.cells]) ?_) | (refine xk_storeN 2 rfl rfl rfl (by kernel_rfl) (by simp [Value.cells, Value.oneCell']) (by simp [Value.cells]) ?_) | (refine xk_storeN 3 rfl rfl rfl (by kernel_rfl) (by simp [Value.cells, Value.oneCell']) (by simp [Value.cells]) ?_) | (refine xk_storeN 4 rfl rfl rfl (by kernel_rfl) (by simp [Value.cells, Value.oneCell']) (by simp [Value.cells]) ?_) | (refine xk_storeN 5 rfl rfl rfl (by kernel_rfl) (by simp [Value.cells, Value.oneCell']) (by simp [Value.cells]) ?_) | (refine xk_storeN 6 rfl rfl rfl (by kernel_rfl) (by simp [Value.cells, Value.oneCell']) (by simp [Value.cells]) ?_) | (refine xk_storeN 7 rfl rfl rfl (by kernel_rfl) (by simp [Value.cells, Value.oneCell']) (by simp [Value.cells]) ?_) | (refine xk_storeN 8 rfl rfl rfl (by kernel_rfl) (by simp [Value.cells, Value.oneCell']) (by simp [Value.cells]) ?_)); simp only [putN, Value.cells, List.set, List.take, List.drop, List.nil_append, List.append_nil, List.length_cons, List.length_nil, List.cons_append, Nat.reduceAdd]
          refine xk_assign rfl (by decide) ?_
          refine XK.nilN ?_
          refine XK.ret ?_
          refine XK.norm ?_
          have hnn : numF u1 = none := by cases hq : numF u1 with | none => rfl | some z => (rw [hq] at hno; cases hno)
          rw [hab, hnn] at hdF
          exact XK.retCT rfl (by kernel_rfl) rfl rfl (RdN.whole 1 rfl) rfl fun w1 st => ⟨⟨_, rfl, ⟨-1, 0, decide (u4 = keepS)⟩, false, rfl, hdF⟩, st.below (by simp)⟩
        ·
          refine XK.skip ?_
          refine XK.norm ?_

          refine XK.region ?_
          refine xk_move rfl (by decide) ?_
          refine xk_conv (ds := .int .u64) (by kernel_rfl) (by kernel_rfl) rfl (wrap_in (by omega)) (by decide) ?_
          refine xk_field (off := 0) (by kernel_rfl) rfl (by decide) ?_
          refine xk_st rfl rfl ?_; dsimp only [List.set]
          refine XK.nilN ?_
          obtain ⟨nn, hnn⟩ : ∃ nn, numF u1 = some nn := by cases hq : numF u1 with | none => (rw [hq] at hno; cases hno) | some z => exact ⟨z, rfl⟩
          exact XK.envS [(4, .pointer (some ⟨g2, 0, none⟩)), (2, .pointer (some ⟨g1, 0, none⟩)), (0, .slice (some ⟨b0, off, none⟩) n c)] (XK.meet ⟨_, by rw [hab, hnn]; rfl, rfl, rfl, by rw [hnn]; rfl⟩)
      ·
        refine XK.skip ?_
        refine XK.norm ?_
        exact XK.envS [(4, .pointer (some ⟨g2, 0, none⟩)), (2, .pointer (some ⟨g1, 0, none⟩)), (0, .slice (some ⟨b0, off, none⟩) n c)] (XK.meet ⟨-1, if_pos (Classical.not_not.1 hmi), rfl, rfl, rfl⟩)
    rintro _ _ _ ⟨ab, hab, rfl, rfl, rfl⟩
    rw [hab] at hdF
    refine XK.seq ?_

    refine XK.region ?_
    refine xk_move rfl (by decide) ?_
    refine xk_at 2 (off + 2) (el := 9) (sz := 1) (by kernel_rfl) (by kernel_rfl) rfl rfl rfl (by omega) (by omega) (by decide) ?_
    refine xk_load (by kernel_rfl) rfl (Rd.ro (p := all w) (by simp) hz (hc 2 _ rfl)) (by decide) ?_
    have hb2 := num_bd u2
    refine xk_callR (f := 14) (fi := []) (ca := []) (by kernel_rfl) rfl rfl (by decide) (fun w1 st => refNum_ok u2 hs2 w1) ?_
    dsimp only [numV]
    refine xk_move rfl (by decide) ?_
    refine xk_extract rfl rfl (by decide) ?_
    refine xk_extract rfl rfl (by decide) ?_
    refine xk_assign rfl (by decide) ?_
    refine xk_assign rfl (by decide) ?_
    refine XK.nilN ?_
    refine XK.seq ?_

    refine XK.region ?_
    refine xk_move rfl (by decide) ?_
    refine xk_conv (ds := .int .u64) (by kernel_rfl) (by kernel_rfl) rfl (wrap_in (by omega)) (by decide) ?_
    refine xk_field (off := 1) (by kernel_rfl) rfl (by decide) ?_
    refine xk_st rfl rfl ?_; dsimp only [List.set]
    refine XK.nilN ?_
    refine XK.seq ?_

    refine XK.region ?_
    refine xk_ldN 3 rfl ?_
    refine xk_move rfl (by decide) ?_
    (first | (refine xk_storeN 0 rfl rfl rfl (by kernel_rfl) (by simp [Value.cells, Value.oneCell']) (by simp [Value.cells]) ?_) | (refine xk_storeN 1 rfl rfl rfl (by kernel_rfl) (by simp [Value.cells, Value.oneCell']) (by simp [Value.cells]) ?_) | (refine xk_storeN 2 rfl rfl rfl (by kernel_rfl) (by simp [Value.cells, Value.oneCell']) (by simp [Value.cells]) ?_) | (refine xk_storeN 3 rfl rfl rfl (by kernel_rfl) (by simp [Value.cells, Value.oneCell']) (by simp [Value.cells]) ?_) | (refine xk_storeN 4 rfl rfl rfl (by kernel_rfl) (by simp [Value.cells, Value.oneCell']) (by simp [Value.cells]) ?_) | (refine xk_storeN 5 rfl rfl rfl (by kernel_rfl) (by simp [Value.cells, Value.oneCell']) (by simp [Value.cells]) ?_) | (refine xk_storeN 6 rfl rfl rfl (by kernel_rfl) (by simp [Value.cells, Value.oneCell']) (by simp [Value.cells]) ?_) | (refine xk_storeN 7 rfl rfl rfl (by kernel_rfl) (by simp [Value.cells, Value.oneCell']) (by simp [Value.cells]) ?_) | (refine xk_storeN 8 rfl rfl rfl (by kernel_rfl) (by simp [Value.cells, Value.oneCell']) (by simp [Value.cells]) ?_)); simp only [putN, Value.cells, List.set, List.take, List.drop, List.nil_append, List.append_nil, List.length_cons, List.length_nil, List.cons_append, Nat.reduceAdd]
    refine xk_assign rfl (by decide) ?_
    refine XK.nilN ?_
    refine XK.ret ?_
    refine XK.norm ?_
    exact XK.retCT rfl (by kernel_rfl) rfl rfl (RdN.whole 1 rfl) rfl fun w1 st => ⟨⟨_, rfl, ⟨ab, (((numF u2).getD 0 : Nat) : Int), decide (u4 = keepS)⟩, (numF u2).isSome, rfl, (hdF.trans (by cases numF u2 <;> rfl))⟩, st.below (by simp)⟩

def DevV (ws : List ByteArray) (v : Value) (w w' : World) : Prop := ∃ (d : Dev) (A : Option Addr) (c : Nat) (b : Bool), v = .tuple #[.agg #[.int .i64 d.clock, .int .i64 d.domain, .int .i64 d.reset, .int .u32 d.clamp, .slice none 0 0, .slice A d.needs.length c], .bool b] ∧ d.regs = [] ∧ SlS (fresh w w') 1 A d.needs.length (intCells d.needs) ∧ devF ws.tail = if b then some d else none
theorem numsF_cons (s : ByteArray) (r : List ByteArray) : numsF (s :: r) = (numF s).bind fun n => (numsF r).map ((n : Int) :: ·) := by
  rw [numsF]; cases numF s <;> rfl
theorem devF_nums (args : List ByteArray) : devF args = (numsF args).bind fun l => if 4 ≤ l.length ∧ l[3]?.getD 0 ≤ 4294967295 then some ⟨l[0]?.getD 0, l[1]?.getD 0, l[2]?.getD 0, l[3]?.getD 0, [], l.drop 4⟩ else none := by
  have short : args.length < 4 → devF args = (numsF args).bind fun l => if 4 ≤ l.length ∧ l[3]?.getD 0 ≤ 4294967295 then some ⟨l[0]?.getD 0, l[1]?.getD 0, l[2]?.getD 0, l[3]?.getD 0, [], l.drop 4⟩ else none := fun h => by
    unfold devF
    rw [if_neg (by omega)]
    cases hl : numsF args with
    | none => rfl
    | some l =>
      have := numsF_len _ _ hl
      rw [Option.bind_some, if_neg (by omega)]
  match args with
  | [] => exact short (by simp)
  | [_] => exact short (by simp)
  | [_, _] => exact short (by simp)
  | [_, _, _] => exact short (by simp)
  | a :: b :: c :: d :: r =>
    unfold devF
    rw [if_pos (by simp)]
    simp only [List.take_succ_cons, List.take_zero, List.drop_succ_cons, List.drop_zero, List.getElem?_cons_succ, List.getElem?_cons_zero, Option.bind_some, numsF_cons]
    cases ha : numF a with
    | none => rfl
    | some x => cases hb : numF b with
      | none => rfl
      | some y => cases hc : numF c with
        | none => rfl
        | some z => cases hd : numF d with
          | none => simp [w32F, hd]
          | some m => cases hr : numsF r with
            | none =>
              simp only [Option.bind_some, Option.map_none, numsF, Option.map_some, w32F, hd, Option.bind_none]
              by_cases hm : m ≤ 4294967295
              · rw [if_pos hm]
              · rw [if_neg hm]
            | some l =>
              simp only [Option.bind_some, Option.map_some, numsF, w32F, hd]
              by_cases hm : m ≤ 4294967295
              · rw [if_pos hm, if_pos (by simp; omega)]; simp
              · rw [if_neg hm, if_neg (by simp; omega)]

set_option maxHeartbeats 1000000 in
theorem refDevA_ok (ws : List ByteArray) (A : Option Addr) (n c : Nat) (w : World) (hS : SlS (all w) 1 A n (strCells ws)) (hn : ws.length = n) (hnc : n ≤ c) (hn63 : n ≤ 1000000) (hsz : ∀ s ∈ ws, s.size < 4294967296) (hn1 : 1 ≤ n) :
    Calls Tryz.prog 85 #[.slice A n c] w (fun y w' => (∃ v, y = .returned v ∧ DevV ws v w w') ∧ Below w.heap.size w w') := by
  refine XK.enter (vs := [.slice A n c]) Tryz.func85 rfl Tryz.ntmps85 (by simp) ?_
  refine XK.seq ?_

  refine XK.region ?_
  refine xk_alloc (cs := [.int .i64 0, .int .i64 0, .int .i64 0, .int .u32 0, .slice none 0 0, .slice none 0 0]) (zeroB_of (by kernel_rfl)) (by decide) fun g1 => ?_
  refine xk_assign rfl (by decide) ?_
  refine XK.nilN ?_
  refine XK.seq ?_

  refine XK.region ?_
  refine xk_move rfl (by decide) ?_
  refine xk_sliceL 1 (el := 9) (sz := 1) (by kernel_rfl) (by kernel_rfl) rfl rfl rfl (by omega) hnc (by decide) fun A2 hA2 => ?_
  have hS2 : SlS (all w) 1 A2 (n - 1) (strCells ws.tail) := by
    have h := SlS.dropP (k := 1) hS (by omega) hA2
    rw [strCells_drop, List.drop_one] at h
    exact h
  have htl : ws.tail.length = n - 1 := by rw [List.length_tail, hn]
  refine xk_call [] (f := 84) (fi := []) (ca := []) (by kernel_rfl) rfl rfl (by decide) (by simp) (IntsV (numsF ws.tail)) (fun w1 st => refInts_ok ws.tail A2 (n - 1) (c - 1) w1 (hS2.le (all_le (st.started (by simp)))) htl (by omega) (fun s hs => hsz s (List.mem_of_mem_tail hs))) ?_
  rintro _ w1 q1 hv hq1 _ hF1
  obtain ⟨l, A3, c3, bo, rfl, hlc, hS3, hnum⟩ := hv.u
  have hS3 := hS3.le hq1
  have hF1 := hF1 (by simp)
  have hll : bo = true → l.length = ws.tail.length := fun hb => numsF_len ws.tail l (by rw [hnum, if_pos hb])
  have hdF := devF_nums ws.tail
  rw [hnum] at hdF
  obtain ⟨l3, hl3⟩ : ∃ l3 : Int, l[3]?.getD 0 = l3 := ⟨_, rfl⟩
  have hlb : bo = true → ∀ x ∈ l, 0 ≤ x ∧ x < 1000000000000000 := fun hb => numsF_bd ws.tail l (by rw [hnum, if_pos hb])
  clear hq1 hv
  refine xk_move rfl (by decide) ?_
  refine xk_extract rfl rfl (by decide) ?_
  refine xk_extract rfl rfl (by decide) ?_
  refine xk_assign rfl (by decide) ?_
  refine xk_assign rfl (by decide) ?_
  refine XK.nilN ?_
  refine XK.seq ?_
  refine XK.cutB 24 (bo = false ∨ (l.length : Int) < 4 ∨ (4294967295 : Int) < l3) ?_ ?_
  · skip

    refine XK.region ?_
    refine xk_move rfl (by decide) ?_
    refine xk_not rfl (by decide) ?_
    refine xk_move rfl (by decide) ?_
    refine xk_splitB (t := 14) rfl (fun hg14 => ?_) (fun hg14 => ?_)
    ·
      refine xk_guardF rfl rfl rfl (by decide) ?_
      refine xk_guardF rfl rfl rfl (by decide) ?_
      refine xk_guardF rfl rfl rfl (by decide) ?_
      (first | refine xk_pickT rfl rfl (by decide) ?_ | refine xk_pickF rfl rfl (by decide) ?_)
      refine xk_move rfl (by decide) ?_
      refine xk_guardF rfl rfl rfl (by decide) ?_
      refine xk_guardF rfl rfl rfl (by decide) ?_
      refine xk_guardF rfl rfl rfl (by decide) ?_
      refine xk_guardF rfl rfl rfl (by decide) ?_
      (first | refine xk_pickT rfl rfl (by decide) ?_ | refine xk_pickF rfl rfl (by decide) ?_)
      refine XK.nilN ?_
      exact XK.meetB (by repeat (first | exact trivial | refine ⟨rfl, ?_⟩)) (get_true rfl (.inl (by simpa using hg14)))
    ·
      refine xk_guardT rfl rfl ?_; refine xk_move rfl (by decide) ?_
      refine xk_guardT rfl rfl ?_; refine xk_len (el := 3) (by kernel_rfl) rfl (by decide) ?_
      refine xk_guardT rfl rfl ?_; refine xk_lss rfl rfl (by decide) ?_
      (first | refine xk_pickT rfl rfl (by decide) ?_ | refine xk_pickF rfl rfl (by decide) ?_)
      refine xk_move rfl (by decide) ?_
      refine xk_split (t := 19) rfl (fun hg19 => ?_) (fun hg19 => ?_)
      ·
        refine xk_guardF rfl rfl rfl (by decide) ?_
        refine xk_guardF rfl rfl rfl (by decide) ?_
        refine xk_guardF rfl rfl rfl (by decide) ?_
        refine xk_guardF rfl rfl rfl (by decide) ?_
        (first | refine xk_pickT rfl rfl (by decide) ?_ | refine xk_pickF rfl rfl (by decide) ?_)
        refine XK.nilN ?_
        exact XK.meetB (by repeat (first | exact trivial | refine ⟨rfl, ?_⟩)) (get_true rfl (.inr (.inl hg19)))
      ·
        refine xk_guardT rfl rfl ?_; refine xk_move rfl (by decide) ?_
        obtain rfl : bo = true := by simpa using hg14
        obtain ⟨b3, off3, rfl, hz3, hc3⟩ := hS3.2 (by omega)
        have hg3 : l[3]? = some l3 := by rw [← hl3, List.getElem?_eq_getElem (show 3 < l.length by omega)]; rfl
        refine xk_guardT rfl rfl ?_; refine xk_at 3 (off3 + 3) (el := 3) (sz := 1) (by kernel_rfl) (by kernel_rfl) rfl rfl rfl (by omega) (by omega) (by decide) ?_
        refine xk_guardT rfl rfl ?_; refine xk_load (by kernel_rfl) rfl (Rd.ro (p := q1) (by simp) hz3 (hc3 3 (.int .i64 l3) (by simp [intCells, hg3]))) (by decide) ?_
        refine xk_guardT rfl rfl ?_; refine xk_gtr rfl rfl (by decide) ?_
        (first | refine xk_pickT rfl rfl (by decide) ?_ | refine xk_pickF rfl rfl (by decide) ?_)
        refine XK.nilN ?_
        exact XK.meetB (by repeat (first | exact trivial | refine ⟨rfl, ?_⟩)) (get_iff rfl ⟨fun h => .inr (.inr h), fun h => by rcases h with h | h | h; cases h; exact absurd h hg19; exact h⟩)
  refine XK.if_ rfl (fun hbad => ?_) (fun hbad => ?_)
  ·
    refine XK.seq ?_

    refine XK.region ?_
    refine xk_buildS (zs := [.int .i64 0, .int .i64 0, .int .i64 0, .int .u32 0, .slice none 0 0, .slice none 0 0]) (L := [(0, 1), (1, 1), (2, 1), (3, 1), (4, 1), (5, 1)]) (zeroB_of (by kernel_rfl)) (by kernel_rfl) rfl (by simp [fillL, setN, Value.cells]; rfl) (by decide) ?_
    (first | (refine xk_storeN 0 rfl rfl rfl (by kernel_rfl) (by simp [Value.cells, Value.oneCell']) (by simp [Value.cells]) ?_) | (refine xk_storeN 1 rfl rfl rfl (by kernel_rfl) (by simp [Value.cells, Value.oneCell']) (by simp [Value.cells]) ?_) | (refine xk_storeN 2 rfl rfl rfl (by kernel_rfl) (by simp [Value.cells, Value.oneCell']) (by simp [Value.cells]) ?_) | (refine xk_storeN 3 rfl rfl rfl (by kernel_rfl) (by simp [Value.cells, Value.oneCell']) (by simp [Value.cells]) ?_) | (refine xk_storeN 4 rfl rfl rfl (by kernel_rfl) (by simp [Value.cells, Value.oneCell']) (by simp [Value.cells]) ?_) | (refine xk_storeN 5 rfl rfl rfl (by kernel_rfl) (by simp [Value.cells, Value.oneCell']) (by simp [Value.cells]) ?_) | (refine xk_storeN 6 rfl rfl rfl (by kernel_rfl) (by simp [Value.cells, Value.oneCell']) (by simp [Value.cells]) ?_) | (refine xk_storeN 7 rfl rfl rfl (by kernel_rfl) (by simp [Value.cells, Value.oneCell']) (by simp [Value.cells]) ?_) | (refine xk_storeN 8 rfl rfl rfl (by kernel_rfl) (by simp [Value.cells, Value.oneCell']) (by simp [Value.cells]) ?_)); simp only [putN, Value.cells, List.set, List.take, List.drop, List.nil_append, List.append_nil, List.length_cons, List.length_nil, List.cons_append, Nat.reduceAdd]
    refine xk_assign rfl (by decide) ?_
    refine XK.nilN ?_
    refine XK.ret ?_
    refine XK.norm ?_
    have hdn : devF ws.tail = none := by
      rw [hdF]
      cases bo with
      | false => rfl
      | true =>
        rw [if_pos rfl, Option.bind_some, if_neg]
        rw [hl3]
        rcases hbad with h | h | h
        · cases h
        · omega
        · omega
    exact XK.retCT rfl (by kernel_rfl) rfl rfl (RdN.whole 0 rfl) rfl fun w1 st => ⟨⟨_, rfl, ⟨0, 0, 0, 0, [], []⟩, none, 0, false, rfl, rfl, SlS.nil _ _, hdn⟩, st.below (by simp)⟩
  ·
    refine XK.skip ?_
    refine XK.norm ?_
    refine XK.seq ?_
    obtain rfl : bo = true := by cases bo with | true => rfl | false => exact absurd (.inl rfl) hbad
    have hlen4 : 4 ≤ l.length := by
      rcases Nat.lt_or_ge l.length 4 with h | h
      · exact absurd (.inr (.inl (by omega))) hbad
      · exact h
    have hl3b : l3 ≤ 4294967295 := by
      by_cases h : (4294967295 : Int) < l3
      · exact absurd (.inr (.inr h)) hbad
      · omega
    have hlb := hlb rfl
    have hll := hll rfl
    rw [if_pos rfl, Option.bind_some, if_pos ⟨hlen4, by rw [hl3]; exact hl3b⟩, hl3] at hdF
    obtain ⟨b3, off3, rfl, hz3, hc3⟩ := hS3.2 (by omega)
    obtain ⟨l0, hg0⟩ : ∃ x, l[0]? = some x := ⟨_, List.getElem?_eq_getElem (by omega)⟩
    obtain ⟨l1, hg1⟩ : ∃ x, l[1]? = some x := ⟨_, List.getElem?_eq_getElem (by omega)⟩
    obtain ⟨l2, hg2⟩ : ∃ x, l[2]? = some x := ⟨_, List.getElem?_eq_getElem (by omega)⟩
    have hg3 : l[3]? = some l3 := by rw [← hl3, List.getElem?_eq_getElem (show 3 < l.length by omega)]; rfl
    have hb3 := hlb l3 (List.mem_of_getElem? hg3)
    rw [hg0, hg1, hg2] at hdF
    simp only [Option.getD_some] at hdF
    obtain ⟨A4, hA4, hrun4⟩ := sliceL_all (P := Tryz.prog) (t := 40) (el := 3) (sz := 1) (n := l.length) (c := c3) (k := 4) (A := some ⟨b3, off3, none⟩) (kd := .i64) (by kernel_rfl) (by kernel_rfl) hlen4 hlc
    have hS4 := SlS.dropP (k := 4) hS3 hlen4 hA4
    have hdl : (l.drop 4).length = l.length - 4 := by simp
    have hic : (intCells l).drop (4 * 1) = intCells (l.drop 4) := by simp [intCells, List.map_drop]
    rw [hic, ← hdl] at hS4
    rw [← hdl] at hrun4
    have hc4 : c3 - 4 = c3 - 4 := rfl
    obtain ⟨ld, hld⟩ : ∃ ld : List Int, l.drop 4 = ld := ⟨_, rfl⟩
    rw [hld] at hS4 hrun4 hdF hdl

    refine XK.draw 17 (by kernel_rfl) (by kernel_rfl) ?_
    refine XA.dA 0 rfl rfl rfl (does_move rfl) ?_
    refine XA.dA 1 rfl rfl rfl (does_at 0 (off3 + 0) (el := 3) (sz := 1) (by kernel_rfl) (by kernel_rfl) rfl rfl rfl (by omega) (by omega)) ?_
    refine XA.dA 2 rfl rfl rfl (does_load (by kernel_rfl) rfl (Rd.ro (p := q1) (by simp) hz3 (hc3 0 (.int .i64 l0) (by simp [intCells, hg0])))) ?_
    refine XA.dA 3 rfl rfl rfl (does_move rfl) ?_
    refine XA.dA 4 rfl rfl rfl (does_at 1 (off3 + 1) (el := 3) (sz := 1) (by kernel_rfl) (by kernel_rfl) rfl rfl rfl (by omega) (by omega)) ?_
    refine XA.dA 5 rfl rfl rfl (does_load (by kernel_rfl) rfl (Rd.ro (p := q1) (by simp) hz3 (hc3 1 (.int .i64 l1) (by simp [intCells, hg1])))) ?_
    refine XA.dA 6 rfl rfl rfl (does_move rfl) ?_
    refine XA.dA 7 rfl rfl rfl (does_at 2 (off3 + 2) (el := 3) (sz := 1) (by kernel_rfl) (by kernel_rfl) rfl rfl rfl (by omega) (by omega)) ?_
    refine XA.dA 8 rfl rfl rfl (does_load (by kernel_rfl) rfl (Rd.ro (p := q1) (by simp) hz3 (hc3 2 (.int .i64 l2) (by simp [intCells, hg2])))) ?_
    refine XA.dA 9 rfl rfl rfl (does_move rfl) ?_
    refine XA.dA 10 rfl rfl rfl (does_at 3 (off3 + 3) (el := 3) (sz := 1) (by kernel_rfl) (by kernel_rfl) rfl rfl rfl (by omega) (by omega)) ?_
    refine XA.dA 11 rfl rfl rfl (does_load (by kernel_rfl) rfl (Rd.ro (p := q1) (by simp) hz3 (hc3 3 (.int .i64 l3) (by simp [intCells, hg3])))) ?_
    refine XA.dA 12 rfl rfl rfl (does_conv (ds := .int .i64) (by kernel_rfl) (by kernel_rfl) rfl (wrap_u32 (by omega))) ?_
    refine XA.dA 14 rfl rfl rfl (does_move rfl) ?_
    refine XA.dA 15 rfl rfl rfl (does_sliceL rfl rfl hrun4) ?_
    refine XA.next 13 rfl (by kernel_rfl) ?_
    refine xk_slice0 (el := 3) (sz := 1) (by kernel_rfl) (by kernel_rfl) (by decide) fun g4 => ?_
    refine XK.asOwn 0 1 0 rfl rfl (by omega) ?_
    dsimp only [List.set]
    refine XA.bk ?_
    refine XA.next 16 rfl (by kernel_rfl) ?_
    refine xk_appendT 0 1 8 ld.length (n' := ld.length) (el := 3) (by kernel_rfl) (by kernel_rfl) (by decide) rfl rfl rfl (sl_ro (p := q1) (by simp) hS4) (by simp [intCells, Value.oneCell']) (by simp) (by omega) (by omega) (by decide) fun A5 c5 => ?_
    dsimp only [List.set, List.nil_append]
    refine XA.bk ?_
    refine XA.next 17 rfl (by kernel_rfl) ?_
    refine xk_buildS (zs := [.int .i64 0, .int .i64 0, .int .i64 0, .int .u32 0, .slice none 0 0, .slice none 0 0]) (L := [(0, 1), (1, 1), (2, 1), (3, 1), (4, 1), (5, 1)]) (zeroB_of (by kernel_rfl)) (by kernel_rfl) rfl (by simp [fillL, setN, Value.cells]; rfl) (by decide) ?_
    refine XA.bt ?_
    refine XA.next 18 rfl (by kernel_rfl) ?_
    (first | (refine xk_storeN 0 rfl rfl rfl (by kernel_rfl) (by simp [Value.cells, Value.oneCell']) (by simp [Value.cells]) ?_) | (refine xk_storeN 1 rfl rfl rfl (by kernel_rfl) (by simp [Value.cells, Value.oneCell']) (by simp [Value.cells]) ?_) | (refine xk_storeN 2 rfl rfl rfl (by kernel_rfl) (by simp [Value.cells, Value.oneCell']) (by simp [Value.cells]) ?_) | (refine xk_storeN 3 rfl rfl rfl (by kernel_rfl) (by simp [Value.cells, Value.oneCell']) (by simp [Value.cells]) ?_) | (refine xk_storeN 4 rfl rfl rfl (by kernel_rfl) (by simp [Value.cells, Value.oneCell']) (by simp [Value.cells]) ?_) | (refine xk_storeN 5 rfl rfl rfl (by kernel_rfl) (by simp [Value.cells, Value.oneCell']) (by simp [Value.cells]) ?_) | (refine xk_storeN 6 rfl rfl rfl (by kernel_rfl) (by simp [Value.cells, Value.oneCell']) (by simp [Value.cells]) ?_) | (refine xk_storeN 7 rfl rfl rfl (by kernel_rfl) (by simp [Value.cells, Value.oneCell']) (by simp [Value.cells]) ?_) | (refine xk_storeN 8 rfl rfl rfl (by kernel_rfl) (by simp [Value.cells, Value.oneCell']) (by simp [Value.cells]) ?_)); simp only [putN, Value.cells, List.set, List.take, List.drop, List.nil_append, List.append_nil, List.length_cons, List.length_nil, List.cons_append, Nat.reduceAdd]
    refine XA.bt ?_
    refine XA.next 19 rfl (by kernel_rfl) ?_
    refine xk_assign rfl (by decide) ?_
    refine XA.bt ?_
    refine XA.done (by kernel_rfl) ?_
    refine XK.norm ?_
    refine XK.ret ?_
    refine XK.norm ?_
    refine XK.still [] [0] [1] (by simp) rfl (by decide) (by decide) fun q hq _ hfr => ?_
    have hS5 := SlS.own (hq 0 _ (by simp) rfl)
    exact XK.retCT rfl (by kernel_rfl) rfl rfl (RdN.whole 0 rfl) rfl fun w1 st => ⟨⟨_, rfl, ⟨l0, l1, l2, l3, [], ld⟩, A5, c5, true, rfl, rfl, SlS.le hS5 (st.fresh_le (by simp) (hfr (by simp) (by simp))), hdF⟩, st.below (by simp)⟩

end Go.Proofs.YtgopaoidgcgalaaGreatDoor
/- The reference: a line is taken into a description. -/
namespace Go.Proofs.YtgopaoidgcgalaaGreatDoor
set_option linter.all false
open Go.RowKit
def LineV (g : Nat) (s : Soc) (ws : List ByteArray) (w : World) (F : Nat → Prop) : Ending → World → Prop := fun y w' => ∃ (b : Bool) (s' : Soc), y = .returned (.bool b) ∧ (takeF s ws = if b then some s' else none) ∧ ∃ F', (SocH g s').sat F' w' ∧ Turns w w' F F'
theorem does_eqlStr {P : Program} {N : Frm} {w0 : World} {e : Env} {R : List Piece} {H : List HP} {d : Nat} {ty : TypeId} {pos : String} {aft : Array Edge} {x y : Operand} {t u : TypeId} {a b : ByteArray} (ht : P.underlying t = some .string) (hx : e.ev x = some (.string a)) (hy : e.ev y = some (.string b)) : Does P N w0 e R H ⟨some d, .binOp .eql t x y u, ty, pos, aft, none⟩ (.bool (decide (a = b))) := does_of (fun a' w hr => by
  have hb : (a.toList == b.toList) = decide (a = b) := by
    by_cases h : a = b
    · subst h; simp
    · have h2 : ¬ a.toList = b.toList := fun he => h (by
        rw [ByteArray.toList_eq, ByteArray.toList_eq] at he
        cases a; cases b
        congr 1
        simpa using he)
      simp [h, h2]
  simp [execOp, hr.ev hx, hr.ev hy, eqGuard, binOp_string_eql, binOp_string_neq, hb])
theorem w32_int (s : ByteArray) : w32F s = if (numF s).isSome = true ∧ (((numF s).getD 0 : Nat) : Int) ≤ 4294967295 then some ((numF s).getD 0) else none := by
  unfold w32F
  cases numF s with
  | none => rfl
  | some n =>
    by_cases h : n ≤ 4294967295
    · simp only [Option.getD_some, Option.isSome_some]; rw [if_pos h, if_pos ⟨trivial, by omega⟩]
    · simp only [Option.getD_some, Option.isSome_some]; rw [if_neg h, if_neg (fun hh => by have := hh.2; omega)]

set_option maxHeartbeats 1000000 in
theorem refLine_ok (g : Nat) (s : Soc) (ws : List ByteArray) (A : Option Addr) (n c : Nat) (w : World) (F : Nat → Prop) (hp : (SocH g s).sat F w) (hF : ∀ b, F b → b < w.heap.size) (hfew : s.few 8000) (hS : SlS ⟨w, fun b => b < w.heap.size ∧ ¬ F b⟩ 1 A n (strCells ws)) (hn : ws.length = n) (hn1 : 1 ≤ n) (hnc : n ≤ c) (hn63 : n ≤ 1000000) (hsz : ∀ s ∈ ws, s.size < 4294967296) :
    Calls Tryz.prog 28 #[.pointer (some ⟨g, 0, none⟩), .slice A n c] w (LineV g s ws w F) := by
  refine XK.enterM (p := SocH g s) (F := F) (vs := [.pointer (some ⟨g, 0, none⟩), .slice A n c]) Tryz.func28 rfl Tryz.ntmps28 (by simp) hp hF ?_
  obtain ⟨p0, hp0⟩ : ∃ p0, p0 = (⟨w, fun b => b < w.heap.size ∧ ¬ F b⟩ : Piece) := ⟨_, rfl⟩
  rw [← hp0] at hS ⊢
  have hR0 : ∀ p ∈ [p0], ∀ b, p.Z b → b < w.heap.size := by
    intro p hp b hb
    simp at hp
    subst hp
    rw [hp0] at hb
    exact hb.1
  refine XK.openEx 0 rfl ?_
  rintro ⟨⟨cs, dm, rs, ds, A1, n1, c1, A2, n2, c2, A3, n3, c3, A4, n4, c4, L1, L2, L3, L4, rg⟩, hx⟩
  dsimp only [List.set, SocY.hp]
  refine XK.take 0 0 rfl rfl ?_
  dsimp only [List.set]
  obtain ⟨e1, e2, e3, e4, e5, e6, e7, e8, e9, e10, e11, e12, e13⟩ := hx
  dsimp only at e1 e2 e3 e4 e5 e6 e7 e8 e9 e10 e11 e12 e13
  have hl1 : n1 = s.clocks.length := by rw [e5, ← e1]; simp
  have hl2 : n2 = s.domains.length := by rw [e6, e2]
  have hl3 : n3 = s.resets.length := by rw [e7, e3]
  have hl4 : n4 = s.devs.length := by rw [e8, ← e4]; simp
  have f1 := hfew.clocks
  have f2 := hfew.domains
  have f3 := hfew.resets
  have f4 := hfew.devs
  obtain ⟨k0, args, rfl⟩ : ∃ k0 args, ws = k0 :: args := by
    cases ws with
    | nil => simp at hn; omega
    | cons k0 r => exact ⟨k0, r, rfl⟩
  obtain ⟨b0, off, rfl, hz, hc⟩ := hS.2 (by omega)
  have hnr : n = args.length + 1 := by simp at hn; omega
  have hsr : ∀ s ∈ args, s.size < 4294967296 := fun s hs => hsz s (by simp [hs])
  refine XK.seq ?_

  refine XK.region ?_
  refine xk_assign rfl (by decide) ?_
  refine XK.nilN ?_
  refine XK.seq ?_
  refine XK.seq ?_

  refine XK.region ?_
  refine xk_move rfl (by decide) ?_
  refine xk_at 0 (off + 0) (el := 9) (sz := 1) (by kernel_rfl) (by kernel_rfl) rfl rfl rfl (by omega) (by omega) (by decide) ?_
  refine xk_load (by kernel_rfl) rfl (Rd.ro (p := p0) (by simp) hz (hc 0 _ rfl)) (by decide) ?_
  refine XK.nilN ?_
  refine XK.block ?_
  refine XK.seq ?_

  refine XK.region ?_
  refine xk_eqlStr (by kernel_rfl) rfl rfl (by decide) ?_
  refine xk_assign rfl (by decide) ?_
  refine XK.nilN ?_
  refine XK.if_ rfl (fun hk1 => ?_) (fun hk1 => ?_)
  have hk1t : takeF s (k0 :: args) = (clockF args).map fun c => ⟨s.clocks ++ [c], s.domains, s.resets, s.devs⟩ := if_pos hk1
  ·
    refine XK.seq ?_

    refine XK.region ?_
    refine xk_move rfl (by decide) ?_
    refine xk_call [] (f := 82) (fi := []) (ca := []) (by kernel_rfl) rfl rfl (by decide) (by simp) (ClkV (k0 :: args)) (fun w1 st => refClkA_ok (k0 :: args) _ n c w1 (hS.le (st.le (by simp))) hn hnc hn63 hsz) ?_
    rintro _ w1 q1 ⟨cl, Ac, cc, bo, rfl, hSc, hcl⟩ hq1 _ hF1
    have hSc := hSc.le hq1
    have hF1 := hF1 (by simp)
    have htk : takeF s (k0 :: args) = if bo = true then some ⟨s.clocks ++ [cl], s.domains, s.resets, s.devs⟩ else none := hk1t.trans (by rw [show clockF args = _ from hcl]; cases bo <;> rfl)
    clear hq1
    refine xk_move rfl (by decide) ?_
    refine xk_extract rfl rfl (by decide) ?_
    refine xk_extract rfl rfl (by decide) ?_
    dsimp only [List.getElem_toArray, List.getElem_cons_zero, List.getElem_cons_succ]
    refine xk_alloc (cs := [.int .u8 0, .slice none 0 0, .int .u64 0, .int .i64 0, .int .i64 0, .int .i64 0]) (zeroB_of (by kernel_rfl)) (by decide) fun g1 => ?_
    (first | (refine xk_storeN 0 rfl rfl rfl (by kernel_rfl) (by simp [Value.cells, Value.oneCell']) (by simp [Value.cells]) ?_) | (refine xk_storeN 1 rfl rfl rfl (by kernel_rfl) (by simp [Value.cells, Value.oneCell']) (by simp [Value.cells]) ?_) | (refine xk_storeN 2 rfl rfl rfl (by kernel_rfl) (by simp [Value.cells, Value.oneCell']) (by simp [Value.cells]) ?_) | (refine xk_storeN 3 rfl rfl rfl (by kernel_rfl) (by simp [Value.cells, Value.oneCell']) (by simp [Value.cells]) ?_) | (refine xk_storeN 4 rfl rfl rfl (by kernel_rfl) (by simp [Value.cells, Value.oneCell']) (by simp [Value.cells]) ?_) | (refine xk_storeN 5 rfl rfl rfl (by kernel_rfl) (by simp [Value.cells, Value.oneCell']) (by simp [Value.cells]) ?_) | (refine xk_storeN 6 rfl rfl rfl (by kernel_rfl) (by simp [Value.cells, Value.oneCell']) (by simp [Value.cells]) ?_) | (refine xk_storeN 7 rfl rfl rfl (by kernel_rfl) (by simp [Value.cells, Value.oneCell']) (by simp [Value.cells]) ?_) | (refine xk_storeN 8 rfl rfl rfl (by kernel_rfl) (by simp [Value.cells, Value.oneCell']) (by simp [Value.cells]) ?_)); simp only [putN, Value.cells, List.set, List.take, List.drop, List.nil_append, List.append_nil, List.length_cons, List.length_nil, List.cons_append, Nat.reduceAdd]
    refine xk_assign rfl (by decide) ?_
    refine XK.nilN ?_
    refine XK.seq ?_
    refine XK.take 2 1 rfl rfl ?_
    dsimp only [List.set]

    refine XK.draw1 [q1, p0] [HP.blk g1 55 [.int .u8 cl.kind, .slice Ac cl.src.length cc, .int .u64 cl.rate, .int .i64 cl.mul, .int .i64 cl.div, .int .i64 cl.lock], HP.blk g 28 [.slice A1 n1 c1, .slice A2 n2 c2, .slice A3 n3 c3, .slice A4 n4 c4], HP.many [HP.emp, HP.emp, HP.own 69 3 (.slice A2 n2 c2) n2 L2, HP.own 71 1 (.slice A3 n3 c3) n3 L3, HP.own 51 6 (.slice A4 n4 c4) n4 L4, HP.many rg, HP.pic (picY cs ds) (picY_mono cs ds)]] 8 (by kernel_rfl) (by kernel_rfl) ?_
    refine XA.dA 0 rfl rfl rfl (does_move rfl) ?_
    refine XA.dA 1 rfl rfl rfl (does_move rfl) ?_
    refine XA.dA 2 rfl rfl rfl (does_nilC rfl) ?_
    refine XA.dA 3 rfl rfl rfl (does_field (off := 0) (by kernel_rfl) rfl) ?_
    refine XA.dA 4 rfl rfl rfl (does_ld rfl) ?_
    refine XA.dA 5 rfl rfl rfl (does_ldN 6 rfl) ?_
    refine XA.next 6 rfl (by kernel_rfl) ?_
    refine xk_slice (el := 55) (sz := 6) (zs := [.int .u8 0, .slice none 0 0, .int .u64 0, .int .i64 0, .int .i64 0, .int .i64 0]) (by kernel_rfl) (zeroB_of (by kernel_rfl)) (by kernel_rfl) rfl (by decide) (by decide) rfl (by simp [fillL, setN, Value.cells, List.range_succ, List.set]; rfl) (by decide) fun g2 => ?_
    refine XA.bk ?_
    refine XA.next 7 rfl (by kernel_rfl) ?_
    refine xk_appendT 1 6 64 1 (n' := n1 + 1) (el := 55) (by kernel_rfl) (by kernel_rfl) (by decide) rfl rfl rfl (sl_blk 0 rfl rfl) (by simp [Value.oneCell']) rfl (by omega) (by omega) (by decide) fun An cn => ?_
    dsimp only [List.set]
    refine XA.bk ?_
    refine XA.next 8 rfl (by kernel_rfl) ?_
    refine xk_nilC rfl (by decide) ?_
    refine XA.bt ?_
    refine XA.next 9 rfl (by kernel_rfl) ?_
    refine xk_field (off := 0) (by kernel_rfl) rfl (by decide) ?_
    refine XA.bt ?_
    refine XA.next 10 rfl (by kernel_rfl) ?_
    refine xk_st rfl rfl ?_; dsimp only [List.set]
    refine XA.bt ?_
    refine XA.done (by kernel_rfl) ?_
    refine XK.norm ?_
    refine XK.seq ?_

    refine XK.region ?_
    refine xk_move rfl (by decide) ?_
    refine xk_assign rfl (by decide) ?_
    refine XK.nilN ?_
    refine XK.ret ?_
    refine XK.norm ?_
    refine XK.weak [1, 3, 4] rfl (by decide) (fun _ h => h) ?_
    refine XK.ownP (Φ := sls1 Ac cl.src) (hm := sls1_mono Ac cl.src) hF1 hR0 hSc ?_
    refine XK.take 3 6 rfl rfl ?_
    dsimp only [List.set]
    refine XK.joinPic (X := picY (cs ++ [(cl, Ac, cc)]) ds) (h3 := picY_mono _ _) (fun p h1 h2 => ⟨fun x hx => by
      rcases List.mem_append.1 hx with hx | hx
      · exact h1.1 x hx
      · simp at hx; subst hx; exact h2, h1.2⟩) ?_
    refine XK.give 2 6 rfl rfl ?_
    dsimp only [List.set]
    refine XK.give 1 1 rfl rfl ?_
    dsimp only [List.set]
    refine XK.give 0 0 rfl rfl ?_
    dsimp only [List.set]
    refine XK.toEx 0 (f := fun X0 : {X0 : SocY // X0.of ⟨s.clocks ++ [cl], s.domains, s.resets, s.devs⟩} => X0.1.hp g) ⟨⟨cs ++ [(cl, Ac, cc)], dm, rs, ds, An, n1 + 1, cn, A2, n2, c2, A3, n3, c3, A4, n4, c4, L1 ++ clkRow (cl, Ac, cc), L2, L3, L4, rg⟩, ⟨by simp [e1], e2, e3, e4, by simp [e5], e6, e7, e8, by simp [e9], e10, e11, e12, e13⟩⟩ rfl ?_
    exact XK.ret1 rfl rfl fun w1 st => ⟨bo, ⟨s.clocks ++ [cl], s.domains, s.resets, s.devs⟩, rfl, htk, st.turns hF (by simp [hp0]) (i := 0) rfl⟩
  ·
    refine XK.seq ?_

    refine XK.region ?_
    refine xk_eqlStr (by kernel_rfl) rfl rfl (by decide) ?_
    refine xk_assign rfl (by decide) ?_
    refine XK.nilN ?_
    refine XK.if_ rfl (fun hk2 => ?_) (fun hk2 => ?_)
    have hk2t : takeF s (k0 :: args) = (domF args).map fun d => ⟨s.clocks, s.domains ++ [d], s.resets, s.devs⟩ := (if_neg hk1).trans (if_pos hk2)
    ·
      refine XK.seq ?_

      refine XK.region ?_
      refine xk_move rfl (by decide) ?_
      refine xk_callV (f := 83) (fi := []) (ca := []) (by kernel_rfl) rfl rfl (by decide) (fun v => DomV (k0 :: args) v w w) (fun w1 st => refDomA_ok (k0 :: args) _ n c w1 (hS.le (st.le (by simp))) hn hnc hn63 hsz) ?_
      rintro _ ⟨d, bo, rfl, hdf⟩
      have htk : takeF s (k0 :: args) = if bo = true then some ⟨s.clocks, s.domains ++ [d], s.resets, s.devs⟩ else none := hk2t.trans (by rw [show domF args = _ from hdf]; cases bo <;> rfl)
      refine xk_move rfl (by decide) ?_
      refine xk_extract rfl rfl (by decide) ?_
      refine xk_extract rfl rfl (by decide) ?_
      dsimp only [List.getElem_toArray, List.getElem_cons_zero, List.getElem_cons_succ]
      refine xk_alloc (cs := [.int .i64 0, .int .i64 0, .bool false]) (zeroB_of (by kernel_rfl)) (by decide) fun g3 => ?_
      (first | (refine xk_storeN 0 rfl rfl rfl (by kernel_rfl) (by simp [Value.cells, Value.oneCell']) (by simp [Value.cells]) ?_) | (refine xk_storeN 1 rfl rfl rfl (by kernel_rfl) (by simp [Value.cells, Value.oneCell']) (by simp [Value.cells]) ?_) | (refine xk_storeN 2 rfl rfl rfl (by kernel_rfl) (by simp [Value.cells, Value.oneCell']) (by simp [Value.cells]) ?_) | (refine xk_storeN 3 rfl rfl rfl (by kernel_rfl) (by simp [Value.cells, Value.oneCell']) (by simp [Value.cells]) ?_) | (refine xk_storeN 4 rfl rfl rfl (by kernel_rfl) (by simp [Value.cells, Value.oneCell']) (by simp [Value.cells]) ?_) | (refine xk_storeN 5 rfl rfl rfl (by kernel_rfl) (by simp [Value.cells, Value.oneCell']) (by simp [Value.cells]) ?_) | (refine xk_storeN 6 rfl rfl rfl (by kernel_rfl) (by simp [Value.cells, Value.oneCell']) (by simp [Value.cells]) ?_) | (refine xk_storeN 7 rfl rfl rfl (by kernel_rfl) (by simp [Value.cells, Value.oneCell']) (by simp [Value.cells]) ?_) | (refine xk_storeN 8 rfl rfl rfl (by kernel_rfl) (by simp [Value.cells, Value.oneCell']) (by simp [Value.cells]) ?_)); simp only [putN, Value.cells, List.set, List.take, List.drop, List.nil_append, List.append_nil, List.length_cons, List.length_nil, List.cons_append, Nat.reduceAdd]
      refine xk_assign rfl (by decide) ?_
      refine XK.nilN ?_
      refine XK.seq ?_
      refine XK.take 2 2 rfl rfl ?_
      dsimp only [List.set]

      refine XK.draw1 [p0] [HP.blk g3 69 [.int .i64 d.above, .int .i64 d.delay, .bool d.ret], HP.blk g 28 [.slice A1 n1 c1, .slice A2 n2 c2, .slice A3 n3 c3, .slice A4 n4 c4], HP.many [HP.emp, HP.own 55 6 (.slice A1 n1 c1) n1 L1, HP.emp, HP.own 71 1 (.slice A3 n3 c3) n3 L3, HP.own 51 6 (.slice A4 n4 c4) n4 L4, HP.many rg, HP.pic (picY cs ds) (picY_mono cs ds)]] 8 (by kernel_rfl) (by kernel_rfl) ?_
      refine XA.dA 0 rfl rfl rfl (does_move rfl) ?_
      refine XA.dA 1 rfl rfl rfl (does_move rfl) ?_
      refine XA.dA 2 rfl rfl rfl (does_nilC rfl) ?_
      refine XA.dA 3 rfl rfl rfl (does_field (off := 1) (by kernel_rfl) rfl) ?_
      refine XA.dA 4 rfl rfl rfl (does_ld rfl) ?_
      refine XA.dA 5 rfl rfl rfl (does_ldN 3 rfl) ?_
      refine XA.next 6 rfl (by kernel_rfl) ?_
      refine xk_slice (el := 69) (sz := 3) (zs := [.int .i64 0, .int .i64 0, .bool false]) (by kernel_rfl) (zeroB_of (by kernel_rfl)) (by kernel_rfl) rfl (by decide) (by decide) rfl (by simp [fillL, setN, Value.cells, List.range_succ, List.set]; rfl) (by decide) fun g4 => ?_
      refine XA.bk ?_
      refine XA.next 7 rfl (by kernel_rfl) ?_
      refine xk_appendT 1 3 24 1 (n' := n2 + 1) (el := 69) (by kernel_rfl) (by kernel_rfl) (by decide) rfl rfl rfl (sl_blk 0 rfl rfl) (by simp [Value.oneCell']) rfl (by omega) (by omega) (by decide) fun An cn => ?_
      dsimp only [List.set]
      refine XA.bk ?_
      refine XA.next 8 rfl (by kernel_rfl) ?_
      refine xk_nilC rfl (by decide) ?_
      refine XA.bt ?_
      refine XA.next 9 rfl (by kernel_rfl) ?_
      refine xk_field (off := 1) (by kernel_rfl) rfl (by decide) ?_
      refine XA.bt ?_
      refine XA.next 10 rfl (by kernel_rfl) ?_
      refine xk_st rfl rfl ?_; dsimp only [List.set]
      refine XA.bt ?_
      refine XA.done (by kernel_rfl) ?_
      refine XK.norm ?_
      refine XK.seq ?_

      refine XK.region ?_
      refine xk_move rfl (by decide) ?_
      refine xk_assign rfl (by decide) ?_
      refine XK.nilN ?_
      refine XK.ret ?_
      refine XK.norm ?_
      refine XK.weak [1, 3, 4] rfl (by decide) (fun _ h => h) ?_
      refine XK.give 1 2 rfl rfl ?_
      dsimp only [List.set]
      refine XK.give 0 0 rfl rfl ?_
      dsimp only [List.set]
      refine XK.toEx 0 (f := fun X0 : {X0 : SocY // X0.of ⟨s.clocks, s.domains ++ [d], s.resets, s.devs⟩} => X0.1.hp g) ⟨⟨cs, dm ++ [d], rs, ds, A1, n1, c1, An, n2 + 1, cn, A3, n3, c3, A4, n4, c4, L1, L2 ++ domCells d, L3, L4, rg⟩, ⟨e1, by simp [e2], e3, e4, e5, by simp [e6], e7, e8, e9, by simp [e10], e11, e12, e13⟩⟩ rfl ?_
      exact XK.ret1 rfl rfl fun w1 st => ⟨bo, ⟨s.clocks, s.domains ++ [d], s.resets, s.devs⟩, rfl, htk, st.turns hF (by simp [hp0]) (i := 0) rfl⟩
    ·
      refine XK.seq ?_

      refine XK.region ?_
      refine xk_eqlStr (by kernel_rfl) rfl rfl (by decide) ?_
      refine xk_assign rfl (by decide) ?_
      refine XK.nilN ?_
      refine XK.if_ rfl (fun hk3 => ?_) (fun hk3 => ?_)
      have hk3t : takeF s (k0 :: args) = ((resF args).map fun r => ⟨s.clocks, s.domains, s.resets ++ [r], s.devs⟩) := (if_neg hk1).trans ((if_neg hk2).trans (if_pos hk3))
      ·
        refine XK.seq ?_

        refine XK.region ?_
        refine xk_move rfl (by decide) ?_
        refine xk_sliceL 1 (el := 9) (sz := 1) (by kernel_rfl) (by kernel_rfl) rfl rfl rfl (by omega) hnc (by decide) fun Aa hA2 => ?_
        have hS2 : SlS p0 1 Aa (n - 1) (strCells args) := by
          have h := SlS.dropP (k := 1) hS (by omega) hA2
          rw [strCells_drop] at h
          exact h
        refine xk_call [] (f := 84) (fi := []) (ca := []) (by kernel_rfl) rfl rfl (by decide) (by simp) (IntsV (numsF args)) (fun w1 st => refInts_ok args Aa (n - 1) (c - 1) w1 (hS2.le (st.le (by simp))) (by omega) (by omega) hsr) ?_
        rintro _ w1 q1 hv hq1 _ hF1
        obtain ⟨l, A3', c3', bo, rfl, hlc, hS3, hnum⟩ := hv.u
        have hS3 := hS3.le hq1
        have hrF : resF args = (numsF args).bind fun l => if (l.length : Int) = 1 then l[0]? else none := by
          match args with
          | [] => rfl
          | [a] => rw [resF_one, numsF_one]; cases numF a <;> rfl
          | a :: b :: r =>
            cases hl : numsF (a :: b :: r) with
            | none => rfl
            | some l =>
              have := numsF_len _ _ hl
              rw [Option.bind_some, if_neg (by simp at this; omega)]; rfl
        rw [hnum] at hrF
        clear hq1 hv
        refine xk_move rfl (by decide) ?_
        refine xk_extract rfl rfl (by decide) ?_
        refine xk_extract rfl rfl (by decide) ?_
        refine xk_assign rfl (by decide) ?_
        refine xk_assign rfl (by decide) ?_
        refine XK.nilN ?_
        refine XK.seq ?_
        refine XK.seq ?_

        refine XK.region ?_
        refine xk_move rfl (by decide) ?_
        refine xk_not rfl (by decide) ?_
        refine xk_move rfl (by decide) ?_
        refine xk_splitB (t := 65) rfl (fun hg65 => ?_) (fun hg65 => ?_)
        ·
          refine xk_guardF rfl rfl rfl (by decide) ?_
          refine xk_guardF rfl rfl rfl (by decide) ?_
          refine xk_guardF rfl rfl rfl (by decide) ?_
          (first | refine xk_pickT rfl rfl (by decide) ?_ | refine xk_pickF rfl rfl (by decide) ?_)
          refine XK.nilN ?_
          refine XK.cond rfl (fun _ => ?_) (fun h => by cases h)
          refine XK.seq ?_

          refine XK.region ?_
          refine xk_assign rfl (by decide) ?_
          refine XK.nilN ?_
          refine XK.ret ?_
          refine XK.norm ?_
          refine XK.give 0 0 rfl rfl ?_
          dsimp only [List.set]
          refine XK.toEx 0 (f := fun X0 : {X0 : SocY // X0.of s} => X0.1.hp g) ⟨⟨cs, dm, rs, ds, A1, n1, c1, A2, n2, c2, A3, n3, c3, A4, n4, c4, L1, L2, L3, L4, rg⟩, ⟨e1, e2, e3, e4, e5, e6, e7, e8, e9, e10, e11, e12, e13⟩⟩ rfl ?_
          exact XK.ret1 rfl rfl fun w1 st => ⟨false, s, rfl, hk3t.trans (by rw [hrF, show bo = false by simpa using hg65]; rfl), st.turns hF (by simp [hp0]) (i := 0) rfl⟩
        ·
          refine xk_guardT rfl rfl ?_; refine xk_move rfl (by decide) ?_
          refine xk_guardT rfl rfl ?_; refine xk_len (el := 3) (by kernel_rfl) rfl (by decide) ?_
          refine xk_guardT rfl rfl ?_; refine xk_neq rfl rfl (by decide) ?_
          (first | refine xk_pickT rfl rfl (by decide) ?_ | refine xk_pickF rfl rfl (by decide) ?_)
          refine XK.nilN ?_
          obtain rfl : bo = true := by simpa using hg65
          rw [if_pos rfl, Option.bind_some] at hrF
          refine XK.if_ rfl (fun hl1 => ?_) (fun hl1 => ?_)
          ·
            refine XK.seq ?_

            refine XK.region ?_
            refine xk_assign rfl (by decide) ?_
            refine XK.nilN ?_
            refine XK.ret ?_
            refine XK.norm ?_
            refine XK.give 0 0 rfl rfl ?_
            dsimp only [List.set]
            refine XK.toEx 0 (f := fun X0 : {X0 : SocY // X0.of s} => X0.1.hp g) ⟨⟨cs, dm, rs, ds, A1, n1, c1, A2, n2, c2, A3, n3, c3, A4, n4, c4, L1, L2, L3, L4, rg⟩, ⟨e1, e2, e3, e4, e5, e6, e7, e8, e9, e10, e11, e12, e13⟩⟩ rfl ?_
            exact XK.ret1 rfl rfl fun w1 st => ⟨false, s, rfl, hk3t.trans (by rw [hrF, if_neg hl1]; rfl), st.turns hF (by simp [hp0]) (i := 0) rfl⟩
          ·
            refine XK.skip ?_
            refine XK.norm ?_
            refine XK.seq ?_
            rw [if_pos (Classical.not_not.1 hl1)] at hrF
            obtain ⟨a0, rfl⟩ := len1 (show l.length = 1 by omega)
            obtain ⟨b3, off3, rfl, hz3, hc3⟩ := hS3.2 (by simp)
            have htk : takeF s (k0 :: args) = if true = true then some ⟨s.clocks, s.domains, s.resets ++ [a0], s.devs⟩ else none := hk3t.trans (by rw [hrF]; rfl)
            refine XK.take 1 3 rfl rfl ?_
            dsimp only [List.set]

            refine XK.draw1 [q1, p0] [HP.blk g 28 [.slice A1 n1 c1, .slice A2 n2 c2, .slice A3 n3 c3, .slice A4 n4 c4], HP.many [HP.emp, HP.own 55 6 (.slice A1 n1 c1) n1 L1, HP.own 69 3 (.slice A2 n2 c2) n2 L2, HP.emp, HP.own 51 6 (.slice A4 n4 c4) n4 L4, HP.many rg, HP.pic (picY cs ds) (picY_mono cs ds)]] 11 (by kernel_rfl) (by kernel_rfl) ?_
            refine XA.dA 0 rfl rfl rfl (does_move rfl) ?_
            refine XA.dA 1 rfl rfl rfl (does_move rfl) ?_
            refine XA.dA 2 rfl rfl rfl (does_nilC rfl) ?_
            refine XA.dA 3 rfl rfl rfl (does_field (off := 2) (by kernel_rfl) rfl) ?_
            refine XA.dA 4 rfl rfl rfl (does_ld rfl) ?_
            refine XA.dA 5 rfl rfl rfl (does_move rfl) ?_
            refine XA.dA 6 rfl rfl rfl (does_at 0 (off3 + 0) (el := 3) (sz := 1) (by kernel_rfl) (by kernel_rfl) rfl rfl rfl (by simp) (by omega)) ?_
            refine XA.dA 7 rfl rfl rfl (does_load (by kernel_rfl) rfl (Rd.ro (p := q1) (by simp) hz3 (hc3 0 _ rfl))) ?_
            refine XA.dA 8 rfl rfl rfl (does_buildS (zs := [.int .i64 0]) (L := [(0, 1)]) (zeroB_of (by kernel_rfl)) (by kernel_rfl) rfl (by simp [fillL, setN, Value.cells]; rfl)) ?_
            refine XA.next 9 rfl (by kernel_rfl) ?_
            refine xk_slice (el := 71) (sz := 1) (zs := [.int .i64 0]) (by kernel_rfl) (zeroB_of (by kernel_rfl)) (by kernel_rfl) rfl (by decide) (by decide) rfl (by simp [fillL, setN, Value.cells, List.range_succ, List.set]; rfl) (by decide) fun g5 => ?_
            refine XA.bk ?_
            refine XA.next 10 rfl (by kernel_rfl) ?_
            refine xk_appendT 1 1 8 1 (n' := n3 + 1) (el := 71) (by kernel_rfl) (by kernel_rfl) (by decide) rfl rfl rfl (sl_blk 0 rfl rfl) (by simp [Value.oneCell']) rfl (by omega) (by omega) (by decide) fun An cn => ?_
            dsimp only [List.set]
            refine XA.bk ?_
            refine XA.next 11 rfl (by kernel_rfl) ?_
            refine xk_nilC rfl (by decide) ?_
            refine XA.bt ?_
            refine XA.next 12 rfl (by kernel_rfl) ?_
            refine xk_field (off := 2) (by kernel_rfl) rfl (by decide) ?_
            refine XA.bt ?_
            refine XA.next 13 rfl (by kernel_rfl) ?_
            refine xk_st rfl rfl ?_; dsimp only [List.set]
            refine XA.bt ?_
            refine XA.done (by kernel_rfl) ?_
            refine XK.norm ?_
            refine XK.seq ?_

            refine XK.region ?_
            refine xk_assign rfl (by decide) ?_
            refine XK.nilN ?_
            refine XK.ret ?_
            refine XK.norm ?_
            refine XK.weak [1, 2, 3] rfl (by decide) (fun _ h => h) ?_
            refine XK.give 1 3 rfl rfl ?_
            dsimp only [List.set]
            refine XK.give 0 0 rfl rfl ?_
            dsimp only [List.set]
            refine XK.toEx 0 (f := fun X0 : {X0 : SocY // X0.of ⟨s.clocks, s.domains, s.resets ++ [a0], s.devs⟩} => X0.1.hp g) ⟨⟨cs, dm, rs ++ [a0], ds, A1, n1, c1, A2, n2, c2, An, n3 + 1, cn, A4, n4, c4, L1, L2, L3 ++ [.int .i64 a0], L4, rg⟩, ⟨e1, e2, by simp [e3], e4, e5, e6, by simp [e7], e8, e9, e10, by rw [e11, intCells_one], e12, e13⟩⟩ rfl ?_
            exact XK.ret1 rfl rfl fun w1 st => ⟨true, ⟨s.clocks, s.domains, s.resets ++ [a0], s.devs⟩, rfl, htk, st.turns hF (by simp [hp0]) (i := 0) rfl⟩
      ·
        refine XK.seq ?_

        refine XK.region ?_
        refine xk_eqlStr (by kernel_rfl) rfl rfl (by decide) ?_
        refine xk_assign rfl (by decide) ?_
        refine XK.nilN ?_
        refine XK.if_ rfl (fun hk4 => ?_) (fun hk4 => ?_)
        have hk4t : takeF s (k0 :: args) = (devF args).map fun d => ⟨s.clocks, s.domains, s.resets, s.devs ++ [d]⟩ := (if_neg hk1).trans ((if_neg hk2).trans ((if_neg hk3).trans (if_pos hk4)))
        ·
          refine XK.seq ?_

          refine XK.region ?_
          refine xk_move rfl (by decide) ?_
          refine xk_call [] (f := 85) (fi := []) (ca := []) (by kernel_rfl) rfl rfl (by decide) (by simp) (DevV (k0 :: args)) (fun w1 st => refDevA_ok (k0 :: args) _ n c w1 (hS.le (st.le (by simp))) hn hnc hn63 hsz hn1) ?_
          rintro _ w2 q2 ⟨⟨x, yd, z, nm, rgs, ln⟩, A6, c6, bo, rfl, hrg0, hS6, hdv⟩ hq2 _ hF2
          dsimp only at hrg0 hS6 ⊢
          subst hrg0
          have hS6 := hS6.le hq2
          have hF2 := hF2 (by simp)
          have htk : takeF s (k0 :: args) = if bo = true then some ⟨s.clocks, s.domains, s.resets, s.devs ++ [⟨x, yd, z, nm, [], ln⟩]⟩ else none := hk4t.trans (by rw [show devF args = _ from hdv]; cases bo <;> rfl)
          clear hq2
          refine xk_move rfl (by decide) ?_
          refine xk_extract rfl rfl (by decide) ?_
          refine xk_extract rfl rfl (by decide) ?_
          dsimp only [List.getElem_toArray, List.getElem_cons_zero, List.getElem_cons_succ]
          refine xk_alloc (cs := [.int .i64 0, .int .i64 0, .int .i64 0, .int .u32 0, .slice none 0 0, .slice none 0 0]) (zeroB_of (by kernel_rfl)) (by decide) fun g6 => ?_
          (first | (refine xk_storeN 0 rfl rfl rfl (by kernel_rfl) (by simp [Value.cells, Value.oneCell']) (by simp [Value.cells]) ?_) | (refine xk_storeN 1 rfl rfl rfl (by kernel_rfl) (by simp [Value.cells, Value.oneCell']) (by simp [Value.cells]) ?_) | (refine xk_storeN 2 rfl rfl rfl (by kernel_rfl) (by simp [Value.cells, Value.oneCell']) (by simp [Value.cells]) ?_) | (refine xk_storeN 3 rfl rfl rfl (by kernel_rfl) (by simp [Value.cells, Value.oneCell']) (by simp [Value.cells]) ?_) | (refine xk_storeN 4 rfl rfl rfl (by kernel_rfl) (by simp [Value.cells, Value.oneCell']) (by simp [Value.cells]) ?_) | (refine xk_storeN 5 rfl rfl rfl (by kernel_rfl) (by simp [Value.cells, Value.oneCell']) (by simp [Value.cells]) ?_) | (refine xk_storeN 6 rfl rfl rfl (by kernel_rfl) (by simp [Value.cells, Value.oneCell']) (by simp [Value.cells]) ?_) | (refine xk_storeN 7 rfl rfl rfl (by kernel_rfl) (by simp [Value.cells, Value.oneCell']) (by simp [Value.cells]) ?_) | (refine xk_storeN 8 rfl rfl rfl (by kernel_rfl) (by simp [Value.cells, Value.oneCell']) (by simp [Value.cells]) ?_)); simp only [putN, Value.cells, List.set, List.take, List.drop, List.nil_append, List.append_nil, List.length_cons, List.length_nil, List.cons_append, Nat.reduceAdd]
          refine xk_assign rfl (by decide) ?_
          refine XK.nilN ?_
          refine XK.seq ?_
          refine XK.take 2 4 rfl rfl ?_
          dsimp only [List.set]

          refine XK.draw1 [q2, p0] [HP.blk g6 51 [.int .i64 x, .int .i64 yd, .int .i64 z, .int .u32 nm, .slice none 0 0, .slice A6 ln.length c6], HP.blk g 28 [.slice A1 n1 c1, .slice A2 n2 c2, .slice A3 n3 c3, .slice A4 n4 c4], HP.many [HP.emp, HP.own 55 6 (.slice A1 n1 c1) n1 L1, HP.own 69 3 (.slice A2 n2 c2) n2 L2, HP.own 71 1 (.slice A3 n3 c3) n3 L3, HP.emp, HP.many rg, HP.pic (picY cs ds) (picY_mono cs ds)]] 8 (by kernel_rfl) (by kernel_rfl) ?_
          refine XA.dA 0 rfl rfl rfl (does_move rfl) ?_
          refine XA.dA 1 rfl rfl rfl (does_move rfl) ?_
          refine XA.dA 2 rfl rfl rfl (does_nilC rfl) ?_
          refine XA.dA 3 rfl rfl rfl (does_field (off := 3) (by kernel_rfl) rfl) ?_
          refine XA.dA 4 rfl rfl rfl (does_ld rfl) ?_
          refine XA.dA 5 rfl rfl rfl (does_ldN 6 rfl) ?_
          refine XA.next 6 rfl (by kernel_rfl) ?_
          refine xk_slice (el := 51) (sz := 6) (zs := [.int .i64 0, .int .i64 0, .int .i64 0, .int .u32 0, .slice none 0 0, .slice none 0 0]) (by kernel_rfl) (zeroB_of (by kernel_rfl)) (by kernel_rfl) rfl (by decide) (by decide) rfl (by simp [fillL, setN, Value.cells, List.range_succ, List.set]; rfl) (by decide) fun g7 => ?_
          refine XA.bk ?_
          refine XA.next 7 rfl (by kernel_rfl) ?_
          refine xk_appendT 1 6 80 1 (n' := n4 + 1) (el := 51) (by kernel_rfl) (by kernel_rfl) (by decide) rfl rfl rfl (sl_blk 0 rfl rfl) (by simp [Value.oneCell']) rfl (by omega) (by omega) (by decide) fun An cn => ?_
          dsimp only [List.set]
          refine XA.bk ?_
          refine XA.next 8 rfl (by kernel_rfl) ?_
          refine xk_nilC rfl (by decide) ?_
          refine XA.bt ?_
          refine XA.next 9 rfl (by kernel_rfl) ?_
          refine xk_field (off := 3) (by kernel_rfl) rfl (by decide) ?_
          refine XA.bt ?_
          refine XA.next 10 rfl (by kernel_rfl) ?_
          refine xk_st rfl rfl ?_; dsimp only [List.set]
          refine XA.bt ?_
          refine XA.done (by kernel_rfl) ?_
          refine XK.norm ?_
          refine XK.seq ?_

          refine XK.region ?_
          refine xk_move rfl (by decide) ?_
          refine xk_assign rfl (by decide) ?_
          refine XK.nilN ?_
          refine XK.ret ?_
          refine XK.norm ?_
          refine XK.weak [1, 3, 4] rfl (by decide) (fun _ h => h) ?_
          refine XK.ownP (Φ := sls1 A6 ln) (hm := sls1_mono A6 ln) hF2 hR0 hS6 ?_
          refine XK.take 3 6 rfl rfl ?_
          dsimp only [List.set]
          refine XK.joinPic (X := picY cs (ds ++ [(⟨x, yd, z, nm, [], ln⟩, (none, 0), (A6, c6))])) (h3 := picY_mono _ _) (fun p h1 h2 => ⟨h1.1, fun x hx => by
            rcases List.mem_append.1 hx with hx | hx
            · exact h1.2 x hx
            · simp at hx; subst hx; exact h2⟩) ?_
          refine XK.give 2 6 rfl rfl ?_
          dsimp only [List.set]
          refine XK.take 2 5 rfl rfl ?_
          dsimp only [List.set]
          refine XK.nilrow 57 2 ?_
          refine XK.push ?_
          refine XK.give 2 5 rfl rfl ?_
          dsimp only [List.set]
          refine XK.give 1 4 rfl rfl ?_
          dsimp only [List.set]
          refine XK.give 0 0 rfl rfl ?_
          dsimp only [List.set]
          refine XK.toEx 0 (f := fun X0 : {X0 : SocY // X0.of ⟨s.clocks, s.domains, s.resets, s.devs ++ [⟨x, yd, z, nm, [], ln⟩]⟩} => X0.1.hp g) ⟨⟨cs, dm, rs, ds ++ [(⟨x, yd, z, nm, [], ln⟩, (none, 0), (A6, c6))], A1, n1, c1, A2, n2, c2, A3, n3, c3, An, n4 + 1, cn, L1, L2, L3, L4 ++ devRow (⟨x, yd, z, nm, [], ln⟩, (none, 0), (A6, c6)), rg ++ [regOwn (⟨x, yd, z, nm, [], ln⟩, (none, 0), (A6, c6))]⟩, ⟨e1, e2, e3, by simp [e4], e5, e6, e7, by simp [e8], e9, e10, e11, by simp [e12], by simp [e13]⟩⟩ rfl ?_
          exact XK.ret1 rfl rfl fun w1 st => ⟨bo, ⟨s.clocks, s.domains, s.resets, s.devs ++ [⟨x, yd, z, nm, [], ln⟩]⟩, rfl, htk, st.turns hF (by simp [hp0]) (i := 0) rfl⟩
        ·
          refine XK.seq ?_

          refine XK.region ?_
          refine xk_eqlStr (by kernel_rfl) rfl rfl (by decide) ?_
          refine xk_assign rfl (by decide) ?_
          refine XK.nilN ?_
          refine XK.if_ rfl (fun hk5 => ?_) (fun hk5 => ?_)
          have hk5t : takeF s (k0 :: args) = regF s args := (if_neg hk1).trans ((if_neg hk2).trans ((if_neg hk3).trans ((if_neg hk4).trans (if_pos hk5))))
          obtain ⟨sb, hsb⟩ : ∃ sb : ByteArray, n = 3 → (k0 :: args)[2]? = some sb := by
            by_cases h : n = 3
            · exact ⟨(k0 :: args)[2]'(by simp; omega), fun _ => List.getElem?_eq_getElem _⟩
            · exact ⟨⟨#[]⟩, fun h2 => absurd h2 h⟩
          ·
            refine XK.seq ?_
            refine XK.cutB 125 (¬ (n : Int) = 3 ∨ (n4 : Int) = 0 ∨ (¬ sb = keepS ∧ ¬ sb = loseS)) ?_ ?_
            · skip

              refine XK.region ?_
              refine xk_move rfl (by decide) ?_
              refine xk_len (el := 9) (by kernel_rfl) rfl (by decide) ?_
              refine xk_neq rfl rfl (by decide) ?_
              refine xk_move rfl (by decide) ?_
              refine xk_split (t := 106) rfl (fun hg106 => ?_) (fun hg106 => ?_)
              ·
                refine xk_guardF rfl rfl rfl (by decide) ?_
                refine xk_guardF rfl rfl rfl (by decide) ?_
                refine xk_guardF rfl rfl rfl (by decide) ?_
                refine xk_guardF rfl rfl rfl (by decide) ?_
                refine xk_guardF rfl rfl rfl (by decide) ?_
                refine xk_guardF rfl rfl rfl (by decide) ?_
                (first | refine xk_pickT rfl rfl (by decide) ?_ | refine xk_pickF rfl rfl (by decide) ?_)
                refine xk_move rfl (by decide) ?_
                refine xk_guardF rfl rfl rfl (by decide) ?_
                refine xk_guardF rfl rfl rfl (by decide) ?_
                refine xk_guardF rfl rfl rfl (by decide) ?_
                refine xk_guardF rfl rfl rfl (by decide) ?_
                refine xk_guardF rfl rfl rfl (by decide) ?_
                refine xk_guardU rfl rfl (by decide) ?_
                refine xk_guardU rfl rfl (by decide) ?_
                refine xk_guardU rfl rfl (by decide) ?_
                refine xk_guardU rfl rfl (by decide) ?_
                refine xk_guardF rfl rfl rfl (by decide) ?_
                (first | refine xk_pickT rfl rfl (by decide) ?_ | refine xk_pickF rfl rfl (by decide) ?_)
                refine XK.nilN ?_
                exact XK.meetB (by repeat (first | exact trivial | refine ⟨rfl, ?_⟩)) (get_true rfl (.inl hg106))
              ·
                refine xk_guardT rfl rfl ?_; refine xk_move rfl (by decide) ?_
                refine xk_guardT rfl rfl ?_; refine xk_nilC rfl (by decide) ?_
                refine xk_guardT rfl rfl ?_; refine xk_field (off := 3) (by kernel_rfl) rfl (by decide) ?_
                refine xk_guardT rfl rfl ?_; refine xk_ld rfl ?_
                refine xk_guardT rfl rfl ?_; refine xk_len (el := 51) (by kernel_rfl) rfl (by decide) ?_
                refine xk_guardT rfl rfl ?_; refine xk_eql rfl rfl (by decide) ?_
                (first | refine xk_pickT rfl rfl (by decide) ?_ | refine xk_pickF rfl rfl (by decide) ?_)
                refine xk_move rfl (by decide) ?_
                refine xk_split (t := 114) rfl (fun hg114 => ?_) (fun hg114 => ?_)
                ·
                  refine xk_guardF rfl rfl rfl (by decide) ?_
                  refine xk_guardF rfl rfl rfl (by decide) ?_
                  refine xk_guardF rfl rfl rfl (by decide) ?_
                  refine xk_guardF rfl rfl rfl (by decide) ?_
                  refine xk_guardF rfl rfl rfl (by decide) ?_
                  refine xk_guardU rfl rfl (by decide) ?_
                  refine xk_guardU rfl rfl (by decide) ?_
                  refine xk_guardU rfl rfl (by decide) ?_
                  refine xk_guardU rfl rfl (by decide) ?_
                  refine xk_guardF rfl rfl rfl (by decide) ?_
                  (first | refine xk_pickT rfl rfl (by decide) ?_ | refine xk_pickF rfl rfl (by decide) ?_)
                  refine XK.nilN ?_
                  exact XK.meetB (by repeat (first | exact trivial | refine ⟨rfl, ?_⟩)) (get_true rfl (.inr (.inl hg114)))
                ·
                  refine xk_guardT rfl rfl ?_; refine xk_move rfl (by decide) ?_
                  refine xk_guardT rfl rfl ?_; refine xk_at 2 (off + 2) (el := 9) (sz := 1) (by kernel_rfl) (by kernel_rfl) rfl rfl rfl (by omega) (by omega) (by decide) ?_
                  refine xk_guardT rfl rfl ?_; refine xk_load (by kernel_rfl) rfl (Rd.ro (p := p0) (by simp) hz (hc 2 _ (strCells_at (hsb (by omega))))) (by decide) ?_
                  refine xk_guardT rfl rfl ?_; refine xk_neqStr (by kernel_rfl) rfl rfl (by decide) ?_
                  refine xk_guardT rfl rfl ?_; refine xk_move rfl (by decide) ?_
                  refine xk_split (t := 119) rfl (fun hg119 => ?_) (fun hg119 => ?_)
                  ·
                    refine xk_guardT rfl rfl ?_; refine xk_move rfl (by decide) ?_
                    refine xk_guardT rfl rfl ?_; refine xk_at 2 (off + 2) (el := 9) (sz := 1) (by kernel_rfl) (by kernel_rfl) rfl rfl rfl (by omega) (by omega) (by decide) ?_
                    refine xk_guardT rfl rfl ?_; refine xk_load (by kernel_rfl) rfl (Rd.ro (p := p0) (by simp) hz (hc 2 _ (strCells_at (hsb (by omega))))) (by decide) ?_
                    refine xk_guardT rfl rfl ?_; refine xk_neqStr (by kernel_rfl) rfl rfl (by decide) ?_
                    refine xk_guardT rfl rfl ?_; (first | refine xk_pickT rfl rfl (by decide) ?_ | refine xk_pickF rfl rfl (by decide) ?_)
                    (first | refine xk_pickT rfl rfl (by decide) ?_ | refine xk_pickF rfl rfl (by decide) ?_)
                    refine XK.nilN ?_
                    exact XK.meetB (by repeat (first | exact trivial | refine ⟨rfl, ?_⟩)) (get_iff rfl ⟨fun h => .inr (.inr ⟨hg119, h⟩), fun h => by rcases h with h | h | h; exact absurd h hg106; exact absurd h hg114; exact h.2⟩)
                  ·
                    refine xk_guardF rfl rfl rfl (by decide) ?_
                    refine xk_guardF rfl rfl rfl (by decide) ?_
                    refine xk_guardF rfl rfl rfl (by decide) ?_
                    refine xk_guardF rfl rfl rfl (by decide) ?_
                    refine xk_guardT rfl rfl ?_; (first | refine xk_pickT rfl rfl (by decide) ?_ | refine xk_pickF rfl rfl (by decide) ?_)
                    (first | refine xk_pickT rfl rfl (by decide) ?_ | refine xk_pickF rfl rfl (by decide) ?_)
                    refine XK.nilN ?_
                    exact XK.meetB (by repeat (first | exact trivial | refine ⟨rfl, ?_⟩)) (get_false rfl (fun h => by rcases h with h | h | h; exact hg106 h; exact hg114 h; exact hg119 h.1))
            refine XK.if_ rfl (fun hbad => ?_) (fun hbad => ?_)
            ·
              refine XK.seq ?_

              refine XK.region ?_
              refine xk_assign rfl (by decide) ?_
              refine XK.nilN ?_
              refine XK.ret ?_
              refine XK.norm ?_
              have hrn : regF s args = none := by
                by_cases h3 : args.length = 2
                · have hsb := hsb (by omega)
                  obtain ⟨sa, sb', rfl⟩ := len2 h3
                  simp at hsb
                  subst hsb
                  unfold regF
                  dsimp only
                  rcases hbad with h | h | ⟨h, h'⟩
                  · omega
                  · rw [List.getElem?_eq_none (by omega)]
                  · rw [keptF_none h h']
                    cases s.devs[s.devs.length - 1]? <;> cases w32F sa <;> rfl
                · match args, h3 with
                  | [], _ => rfl
                  | [a], _ => rfl
                  | [a, b], h3 => exact absurd rfl h3
                  | a :: b :: c :: r, _ => rfl
              refine XK.give 0 0 rfl rfl ?_
              dsimp only [List.set]
              refine XK.toEx 0 (f := fun X0 : {X0 : SocY // X0.of s} => X0.1.hp g) ⟨⟨cs, dm, rs, ds, A1, n1, c1, A2, n2, c2, A3, n3, c3, A4, n4, c4, L1, L2, L3, L4, rg⟩, ⟨e1, e2, e3, e4, e5, e6, e7, e8, e9, e10, e11, e12, e13⟩⟩ rfl ?_
              exact XK.ret1 rfl rfl fun w1 st => ⟨false, s, rfl, hk5t.trans hrn, st.turns hF (by simp [hp0]) (i := 0) rfl⟩
            ·
              refine XK.skip ?_
              refine XK.norm ?_
              refine XK.seq ?_
              obtain ⟨hn3, hn40, hkl⟩ : n = 3 ∧ 0 < n4 ∧ (sb = keepS ∨ sb = loseS) :=
                ⟨Classical.byContradiction fun h => hbad (.inl (by omega)), Nat.pos_of_ne_zero fun h => hbad (.inr (.inl (by omega))), Classical.byContradiction fun h => hbad (.inr (.inr ⟨fun h2 => h (.inl h2), fun h2 => h (.inr h2)⟩))⟩
              have hsb := hsb hn3
              obtain ⟨sa, sb', rfl⟩ := len2 (show args.length = 2 by omega)
              simp at hsb
              subst hsb
              have hkp := keptF_some hkl
              obtain ⟨X, hX⟩ : ∃ X, ds[n4 - 1]? = some X := ⟨_, List.getElem?_eq_getElem (by omega)⟩
              have hXs : s.devs[s.devs.length - 1]? = some X.1 := by rw [← hl4, ← e4, List.getElem?_map, hX]; rfl
              have hb1 := num_bd sa
              have hw32 := w32_int sa
              rw [regF, hXs, hkp, hw32] at hk5t
              have hXr : X.1.regs.length ≤ 8000 := hfew.regs X.1 (List.mem_of_getElem? hXs)
              obtain ⟨XD, ⟨X5, X5c⟩, ⟨X6, X6c⟩⟩ := X
              dsimp only at hk5t hXr
              obtain ⟨nn, hnn⟩ : ∃ nn : Nat, (numF sa).getD 0 = nn := ⟨_, rfl⟩
              obtain ⟨RV, hRV⟩ : ∃ RV : Int, IntKind.u32.wrap (nn : Int) = RV := ⟨_, rfl⟩
              rw [hnn] at hk5t hb1

              refine XK.region ?_
              refine xk_move rfl (by decide) ?_
              refine xk_at 1 (off + 1) (el := 9) (sz := 1) (by kernel_rfl) (by kernel_rfl) rfl rfl rfl (by omega) (by omega) (by decide) ?_
              refine xk_load (by kernel_rfl) rfl (Rd.ro (p := p0) (by simp) hz (hc 1 _ rfl)) (by decide) ?_
              refine xk_callR (f := 14) (fi := []) (ca := []) (by kernel_rfl) rfl rfl (by decide) (fun w1 st => refNum_ok sa (hsr sa (by simp)) w1) ?_
              dsimp only [numV]
              rw [hnn]
              refine xk_move rfl (by decide) ?_
              refine xk_extract rfl rfl (by decide) ?_
              refine xk_extract rfl rfl (by decide) ?_
              refine xk_assign rfl (by decide) ?_
              refine xk_assign rfl (by decide) ?_
              refine XK.nilN ?_
              refine XK.seq ?_

              refine XK.region ?_
              refine xk_move rfl (by decide) ?_
              refine xk_nilC rfl (by decide) ?_
              refine xk_field (off := 3) (by kernel_rfl) rfl (by decide) ?_
              refine xk_ld rfl ?_
              refine xk_len (el := 51) (by kernel_rfl) rfl (by decide) ?_
              refine xk_sub rfl rfl (wrap_in (by omega)) (by decide) ?_
              refine xk_assign rfl (by decide) ?_
              refine XK.nilN ?_
              refine XK.seq ?_
              refine XK.take 1 4 rfl rfl ?_
              dsimp only [List.set]
              refine XK.ownHead 0 rfl (by omega) fun gd hgd => ?_
              subst hgd
              refine XK.openOwn 0 rfl fun dc hd1 hd2 hd3 hd4 => ?_
              dsimp only [List.set]
              have hdr : dc[(n4 - 1) * 6 + 4]? = some (.slice X5 XD.regs.length X5c) := by
                have h := flat_get devRow 6 ds (fun y _ => devRow_len y) (n4 - 1) 4 _ hX (by omega)
                rw [← e12, ← hd2, List.getElem?_take, if_pos (by omega)] at h
                exact h
              refine XK.take 2 5 rfl rfl ?_
              dsimp only [List.set]
              refine XK.take 0 (n4 - 1) (p := regOwn (XD, (X5, X5c), (X6, X6c))) rfl (by rw [e13, List.getElem?_map, hX]; rfl) ?_
              dsimp only [List.set, regOwn]

              refine XK.draw1 [p0] [HP.many (rg.set (n4 - 1) HP.emp), HP.blk gd 51 dc, HP.blk g 28 [.slice A1 n1 c1, .slice A2 n2 c2, .slice A3 n3 c3, .slice (some ⟨gd, 0, none⟩) n4 c4], HP.many [HP.emp, HP.own 55 6 (.slice A1 n1 c1) n1 L1, HP.own 69 3 (.slice A2 n2 c2) n2 L2, HP.own 71 1 (.slice A3 n3 c3) n3 L3, HP.emp, HP.emp, HP.pic (picY cs ds) (picY_mono cs ds)]] 22 (by kernel_rfl) (by kernel_rfl) ?_
              refine XA.dA 0 rfl rfl rfl (does_move rfl) ?_
              refine XA.dA 1 rfl rfl rfl (does_nilC rfl) ?_
              refine XA.dA 2 rfl rfl rfl (does_field (off := 3) (by kernel_rfl) rfl) ?_
              refine XA.dA 3 rfl rfl rfl (does_ld rfl) ?_
              refine XA.dA 4 rfl rfl rfl (does_move rfl) ?_
              refine XA.dA 5 rfl rfl rfl (does_move rfl) ?_
              refine XA.dA 6 rfl rfl rfl (does_nilC rfl) ?_
              refine XA.dA 7 rfl rfl rfl (does_field (off := 3) (by kernel_rfl) rfl) ?_
              refine XA.dA 8 rfl rfl rfl (does_ld rfl) ?_
              refine XA.dA 9 rfl rfl rfl (does_move rfl) ?_
              refine XA.dA 10 rfl rfl rfl (does_at (n4 - 1) ((n4 - 1) * 6) (el := 51) (sz := 6) (by kernel_rfl) (by kernel_rfl) rfl rfl (by omega) (by omega) (by omega)) ?_
              refine XA.dA 11 rfl rfl rfl (does_field (off := 4) (by kernel_rfl) rfl) ?_
              refine XA.dA 12 rfl rfl rfl (does_load (by kernel_rfl) rfl (Rd.blk 1 rfl hdr)) ?_
              refine XA.dA 13 rfl rfl rfl (does_move rfl) ?_
              refine XA.dA 14 rfl rfl rfl (does_conv (ds := .int .u64) (by kernel_rfl) (by kernel_rfl) rfl hRV) ?_
              refine XA.dA 15 rfl rfl rfl (does_move rfl) ?_
              refine XA.dA 16 rfl rfl rfl (does_at 2 (off + 2) (el := 9) (sz := 1) (by kernel_rfl) (by kernel_rfl) rfl rfl rfl (by omega) (by omega)) ?_
              refine XA.dA 17 rfl rfl rfl (does_load (by kernel_rfl) rfl (Rd.ro (p := p0) (by simp) hz (hc 2 _ rfl))) ?_
              refine XA.dA 18 rfl rfl rfl (does_eqlStr (by kernel_rfl) rfl rfl) ?_
              refine XA.dA 19 rfl rfl rfl (does_buildS (zs := [.int .u32 0, .bool false]) (L := [(0, 1), (1, 1)]) (zeroB_of (by kernel_rfl)) (by kernel_rfl) rfl (by simp [fillL, setN, Value.cells]; rfl)) ?_
              refine XA.next 20 rfl (by kernel_rfl) ?_
              refine xk_slice (el := 57) (sz := 2) (zs := [.int .u32 0, .bool false]) (by kernel_rfl) (zeroB_of (by kernel_rfl)) (by kernel_rfl) rfl (by decide) (by decide) rfl (by simp [fillL, setN, Value.cells, List.range_succ, List.set]; rfl) (by decide) fun g8 => ?_
              refine XA.bk ?_
              refine XA.next 21 rfl (by kernel_rfl) ?_
              refine xk_appendT 1 2 8 1 (n' := XD.regs.length + 1) (el := 57) (by kernel_rfl) (by kernel_rfl) (by decide) rfl rfl rfl (sl_blk 0 rfl rfl) (by simp [Value.oneCell']) rfl (by omega) (by omega) (by decide) fun An cn => ?_
              dsimp only [List.set]
              refine XA.bk ?_
              refine XA.next 22 rfl (by kernel_rfl) ?_
              refine xk_at (n4 - 1) ((n4 - 1) * 6) (el := 51) (sz := 6) (by kernel_rfl) (by kernel_rfl) rfl rfl (by omega) (by omega) (by omega) (by decide) ?_
              refine XA.bt ?_
              refine XA.next 23 rfl (by kernel_rfl) ?_
              refine xk_field (off := 4) (by kernel_rfl) rfl (by decide) ?_
              refine XA.bt ?_
              refine XA.next 24 rfl (by kernel_rfl) ?_
              refine xk_store 3 rfl (by kernel_rfl) rfl rfl rfl (by omega) ?_
              dsimp only [List.set]
              refine XA.bt ?_
              refine XA.done (by kernel_rfl) ?_
              refine XK.norm ?_
              refine XK.seq ?_
              rw [show decide (sb' = ⟨#[107, 101, 101, 112]⟩) = decide (sb' = keepS) from rfl]

              refine XK.region ?_
              refine xk_move rfl (by decide) ?_
              refine xk_move rfl (by decide) ?_
              refine xk_splitB (t := 164) rfl (fun hg164 => ?_) (fun hg164 => ?_)
              ·
                refine xk_guardT rfl rfl ?_; refine xk_move rfl (by decide) ?_
                refine xk_guardT rfl rfl ?_; refine xk_leq rfl rfl (by decide) ?_
                (first | refine xk_pickT rfl rfl (by decide) ?_ | refine xk_pickF rfl rfl (by decide) ?_)
                refine xk_assign rfl (by decide) ?_
                refine XK.nilN ?_
                refine XK.ret ?_
                refine XK.norm ?_
                refine XK.weak [1, 2, 3, 4, 5] rfl (by decide) (fun _ h => h) ?_
                refine XK.closeOwn 2 (n := n4) (c := c4) (sz := 6) (el := 51) (xs := (ds.set (n4 - 1) (⟨XD.clock, XD.domain, XD.reset, XD.clamp, XD.regs ++ [⟨RV, decide (sb' = keepS)⟩], XD.needs⟩, (An, cn), (X6, X6c))).flatMap devRow) rfl (by rw [List.length_set]; exact hd1) (by rw [List.take_set, hd2, e12]; exact flat_set devRow 6 4 _ (by omega) ds (n4 - 1) _ (fun y _ => devRow_len y) hX (by simp [devRow])) hd3 hd4 ?_
                dsimp only [List.set]
                refine XK.give 0 (n4 - 1) rfl (by rw [List.getElem?_set_self (by rw [e13]; simp; omega)]) ?_
                dsimp only [List.set]
                rw [List.set_set]
                refine XK.give 2 5 rfl rfl ?_
                dsimp only [List.set]
                refine XK.take 2 6 rfl rfl ?_
                dsimp only [List.set]
                refine XK.reuse 0 (q := HP.pic (picY cs (ds.set (n4 - 1) (⟨XD.clock, XD.domain, XD.reset, XD.clamp, XD.regs ++ [⟨RV, decide (sb' = keepS)⟩], XD.needs⟩, (An, cn), (X6, X6c)))) (picY_mono _ _)) rfl (fun F w h => ⟨h.1, fun x hx => by
                  rcases List.mem_or_eq_of_mem_set hx with hx | hx
                  · exact h.2 x hx
                  · subst hx; exact h.2 (XD, (X5, X5c), (X6, X6c)) (List.mem_of_getElem? hX)⟩) ?_
                dsimp only [List.set]
                refine XK.give 2 6 rfl rfl ?_
                dsimp only [List.set]
                refine XK.give 1 4 rfl rfl ?_
                dsimp only [List.set]
                refine XK.give 0 0 rfl rfl ?_
                dsimp only [List.set]
                refine XK.toEx 0 (f := fun X0 : {X0 : SocY // X0.of ⟨s.clocks, s.domains, s.resets, s.devs.set (s.devs.length - 1) ⟨XD.clock, XD.domain, XD.reset, XD.clamp, XD.regs ++ [⟨RV, decide (sb' = keepS)⟩], XD.needs⟩⟩} => X0.1.hp g) ⟨⟨cs, dm, rs, ds.set (n4 - 1) (⟨XD.clock, XD.domain, XD.reset, XD.clamp, XD.regs ++ [⟨RV, decide (sb' = keepS)⟩], XD.needs⟩, (An, cn), (X6, X6c)), A1, n1, c1, A2, n2, c2, A3, n3, c3, some ⟨gd, 0, none⟩, n4, c4, L1, L2, L3, (ds.set (n4 - 1) (⟨XD.clock, XD.domain, XD.reset, XD.clamp, XD.regs ++ [⟨RV, decide (sb' = keepS)⟩], XD.needs⟩, (An, cn), (X6, X6c))).flatMap devRow, rg.set (n4 - 1) (HP.own 57 2 (.slice An (XD.regs.length + 1) cn) (XD.regs.length + 1) (XD.regs.flatMap Rg.cells ++ [.int .u32 RV, .bool (decide (sb' = keepS))]))⟩, ⟨e1, e2, e3, by rw [List.map_set, e4, ← hl4], e5, e6, e7, by rw [List.length_set]; exact e8, e9, e10, e11, rfl, by rw [e13, List.map_set]; simp [regOwn, Rg.cells]⟩⟩ rfl ?_
                exact XK.ret1 rfl rfl fun w1 st => ⟨(decide ((nn : Int) ≤ 4294967295)), ⟨s.clocks, s.domains, s.resets, s.devs.set (s.devs.length - 1) ⟨XD.clock, XD.domain, XD.reset, XD.clamp, XD.regs ++ [⟨RV, decide (sb' = keepS)⟩], XD.needs⟩⟩, rfl, hk5t.trans (by
                  rw [show (numF sa).isSome = true from hg164]
                  by_cases hle : (nn : Int) ≤ 4294967295
                  · rw [if_pos ⟨rfl, hle⟩, if_pos (decide_eq_true hle)]
                    rw [← hRV, wrap_u32 (by omega)]
                  · rw [if_neg (fun h => hle h.2), if_neg (by simpa using hle)]), st.turns hF (by simp [hp0]) (i := 0) rfl⟩
              ·
                refine xk_guardF rfl rfl rfl (by decide) ?_
                refine xk_guardF rfl rfl rfl (by decide) ?_
                (first | refine xk_pickT rfl rfl (by decide) ?_ | refine xk_pickF rfl rfl (by decide) ?_)
                refine xk_assign rfl (by decide) ?_
                refine XK.nilN ?_
                refine XK.ret ?_
                refine XK.norm ?_
                refine XK.weak [1, 2, 3, 4, 5] rfl (by decide) (fun _ h => h) ?_
                refine XK.closeOwn 2 (n := n4) (c := c4) (sz := 6) (el := 51) (xs := (ds.set (n4 - 1) (⟨XD.clock, XD.domain, XD.reset, XD.clamp, XD.regs ++ [⟨RV, decide (sb' = keepS)⟩], XD.needs⟩, (An, cn), (X6, X6c))).flatMap devRow) rfl (by rw [List.length_set]; exact hd1) (by rw [List.take_set, hd2, e12]; exact flat_set devRow 6 4 _ (by omega) ds (n4 - 1) _ (fun y _ => devRow_len y) hX (by simp [devRow])) hd3 hd4 ?_
                dsimp only [List.set]
                refine XK.give 0 (n4 - 1) rfl (by rw [List.getElem?_set_self (by rw [e13]; simp; omega)]) ?_
                dsimp only [List.set]
                rw [List.set_set]
                refine XK.give 2 5 rfl rfl ?_
                dsimp only [List.set]
                refine XK.take 2 6 rfl rfl ?_
                dsimp only [List.set]
                refine XK.reuse 0 (q := HP.pic (picY cs (ds.set (n4 - 1) (⟨XD.clock, XD.domain, XD.reset, XD.clamp, XD.regs ++ [⟨RV, decide (sb' = keepS)⟩], XD.needs⟩, (An, cn), (X6, X6c)))) (picY_mono _ _)) rfl (fun F w h => ⟨h.1, fun x hx => by
                  rcases List.mem_or_eq_of_mem_set hx with hx | hx
                  · exact h.2 x hx
                  · subst hx; exact h.2 (XD, (X5, X5c), (X6, X6c)) (List.mem_of_getElem? hX)⟩) ?_
                dsimp only [List.set]
                refine XK.give 2 6 rfl rfl ?_
                dsimp only [List.set]
                refine XK.give 1 4 rfl rfl ?_
                dsimp only [List.set]
                refine XK.give 0 0 rfl rfl ?_
                dsimp only [List.set]
                refine XK.toEx 0 (f := fun X0 : {X0 : SocY // X0.of ⟨s.clocks, s.domains, s.resets, s.devs.set (s.devs.length - 1) ⟨XD.clock, XD.domain, XD.reset, XD.clamp, XD.regs ++ [⟨RV, decide (sb' = keepS)⟩], XD.needs⟩⟩} => X0.1.hp g) ⟨⟨cs, dm, rs, ds.set (n4 - 1) (⟨XD.clock, XD.domain, XD.reset, XD.clamp, XD.regs ++ [⟨RV, decide (sb' = keepS)⟩], XD.needs⟩, (An, cn), (X6, X6c)), A1, n1, c1, A2, n2, c2, A3, n3, c3, some ⟨gd, 0, none⟩, n4, c4, L1, L2, L3, (ds.set (n4 - 1) (⟨XD.clock, XD.domain, XD.reset, XD.clamp, XD.regs ++ [⟨RV, decide (sb' = keepS)⟩], XD.needs⟩, (An, cn), (X6, X6c))).flatMap devRow, rg.set (n4 - 1) (HP.own 57 2 (.slice An (XD.regs.length + 1) cn) (XD.regs.length + 1) (XD.regs.flatMap Rg.cells ++ [.int .u32 RV, .bool (decide (sb' = keepS))]))⟩, ⟨e1, e2, e3, by rw [List.map_set, e4, ← hl4], e5, e6, e7, by rw [List.length_set]; exact e8, e9, e10, e11, rfl, by rw [e13, List.map_set]; simp [regOwn, Rg.cells]⟩⟩ rfl ?_
                exact XK.ret1 rfl rfl fun w1 st => ⟨false, ⟨s.clocks, s.domains, s.resets, s.devs.set (s.devs.length - 1) ⟨XD.clock, XD.domain, XD.reset, XD.clamp, XD.regs ++ [⟨RV, decide (sb' = keepS)⟩], XD.needs⟩⟩, rfl, hk5t.trans (by rw [show (numF sa).isSome = false from hg164]; rfl), st.turns hF (by simp [hp0]) (i := 0) rfl⟩
          ·
            refine XK.skip ?_
            refine XK.norm ?_
            refine XK.seq ?_

            refine XK.region ?_
            refine xk_assign rfl (by decide) ?_
            refine XK.nilN ?_
            refine XK.ret ?_
            refine XK.norm ?_
            refine XK.give 0 0 rfl rfl ?_
            dsimp only [List.set]
            refine XK.toEx 0 (f := fun X0 : {X0 : SocY // X0.of s} => X0.1.hp g) ⟨⟨cs, dm, rs, ds, A1, n1, c1, A2, n2, c2, A3, n3, c3, A4, n4, c4, L1, L2, L3, L4, rg⟩, ⟨e1, e2, e3, e4, e5, e6, e7, e8, e9, e10, e11, e12, e13⟩⟩ rfl ?_
            exact XK.ret1 rfl rfl fun w1 st => ⟨false, s, rfl, (if_neg hk1).trans ((if_neg hk2).trans ((if_neg hk3).trans ((if_neg hk4).trans (if_neg hk5)))), st.turns hF (by simp [hp0]) (i := 0) rfl⟩

end Go.Proofs.YtgopaoidgcgalaaGreatDoor
/- The small logic: bools, and structs of plain cells, are the same. -/
namespace Go.Proofs.YtgopaoidgcgalaaGreatDoor
set_option linter.all false
open Go.RowKit
section
variable {P : Program} {w : World}
variable {N : Frm} {w0 : World} {e : Env} {R : List Piece} {H : List HP} {Q : Exit → Act → World → Prop} {ops : Array Oper} {rest : List Oper}
variable {d : Nat} {ty : TypeId} {pos : String} {aft : Array Edge}
theorem xk_eqlB {x y : Operand} {t u : TypeId} {b c : Bool} (ht : P.underlying t = some .bool) (hx : e.ev x = some (.bool b)) (hy : e.ev y = some (.bool c)) (hd : d < N.n) (k : XK N w0 (wpList P ops Q rest) ((d, .bool (b == c)) :: e) R H) :
    XK N w0 (wpList P ops Q (⟨some d, .binOp .eql t x y u, ty, pos, aft, none⟩ :: rest)) e R H := xk_pure hd (fun a w hr => by
  simp [execOp, hr.ev hx, hr.ev hy, eqGuard, binOp, run_equal_bool w t b c ht]) k
theorem xk_neqB {x y : Operand} {t u : TypeId} {b c : Bool} (ht : P.underlying t = some .bool) (hx : e.ev x = some (.bool b)) (hy : e.ev y = some (.bool c)) (hd : d < N.n) (k : XK N w0 (wpList P ops Q rest) ((d, .bool (decide (¬ b = c))) :: e) R H) :
    XK N w0 (wpList P ops Q (⟨some d, .binOp .neq t x y u, ty, pos, aft, none⟩ :: rest)) e R H := xk_pure hd (fun a w hr => by
  have he : (!(b == c)) = decide (¬ b = c) := by cases b <;> cases c <;> rfl
  simp [execOp, hr.ev hx, hr.ev hy, eqGuard, binOp, run_equal_bool w t b c ht, he]) k
end
end Go.Proofs.YtgopaoidgcgalaaGreatDoor
/- The law LinesBack. -/
namespace Go.Proofs.YtgopaoidgcgalaaGreatDoor
set_option linter.all false
open Go.RowKit
def ParseR (e : Int) (s : Soc) (v : Value) (w w' : World) : Prop := ∃ cs, v = .tuple #[.agg cs, .int .i64 e] ∧ SocR (slq (fresh w w')) s cs
theorem parseR_ok (t : ByteArray) (e : Int) (s : Soc) (h : parseF t = (e, s)) (mm : Int) (w : World) (hM : ROc w 0 0 (.int .i64 mm)) :
    Calls Tryz.prog 11 #[.string t] w fun y w' => (∃ v, y = .returned v ∧ ParseR e s v w w') ∧ Below w.heap.size w w' :=
  (parse_ok t mm w hM).mono fun y w' hy => by
    obtain ⟨⟨cs, h1, h2⟩, h3⟩ := hy
    rw [h] at h1 h2
    exact ⟨⟨_, h1, cs, rfl, h2⟩, h3⟩
theorem ok_small {s : Soc} (h : s.okB) : s.small := by
  have h1 := h.nc
  have h2 := h.nd
  have h3 := h.nr
  have h4 := h.nv
  exact ⟨by omega, by omega, by omega, by omega, fun c hc => by have := h.src c hc; omega, fun d hd => by have := (h.devs d hd).2; omega⟩

end Go.Proofs.YtgopaoidgcgalaaGreatDoor
/- The law LinesOrder. -/
namespace Go.Proofs.YtgopaoidgcgalaaGreatDoor
set_option linter.all false
open Go.RowKit
section
variable {P : Program} {N : Frm} {w0 : World} {e : Env} {R : List Piece} {H : List HP} {Q : Exit → Act → World → Prop} {ops : Array Oper} {rest : List Oper}
variable {d : Nat} {ty : TypeId} {pos : String} {aft : Array Edge}
end
theorem u8_eq {b : UInt8} (n : Nat) (h : n < 256) : ((b.toNat : Nat) : Int) = (n : Int) ↔ b = UInt8.ofNat n := by
  have hn : (UInt8.ofNat n).toNat = n := by rw [UInt8.toNat_ofNat']; exact Nat.mod_eq_of_lt (by omega)
  constructor
  · intro he
    apply UInt8.toNat_inj.1
    rw [hn]; omega
  · rintro rfl
    rw [hn]
theorem u8_10 {b : UInt8} : ((b.toNat : Nat) : Int) = 10 ↔ b = 10 := u8_eq 10 (by decide)
end Go.Proofs.YtgopaoidgcgalaaGreatDoor
/- The reference: a text is parsed. -/
namespace Go.Proofs.YtgopaoidgcgalaaGreatDoor
set_option linter.all false
open Go.RowKit
section
variable {P : Program} {N : Frm} {w0 : World} {e : Env} {R : List Piece} {H : List HP} {Q : Exit → Act → World → Prop} {ops : Array Oper} {rest : List Oper}
variable {d : Nat} {ty : TypeId} {pos : String} {aft : Array Edge}
/-- a call that turns chunk i, and tells how -/
theorem xk_callMV {α : Type} (i : Nat) {f : FuncId} {x : Operand} {args : List Operand} {fi ca vs : List Value} {tys : Array TypeId} {p : HP} (v : α → Value) (q : α → HP) (G : α → Prop) (hf : callB P f = true) (hx : e.ev x = some (.func (.func f) fi.toArray ca.toArray)) (ha : e.evs args = some vs) (hi : H[i]? = some p) (hd : d < N.n)
    (hc : ∀ w F, St w0 R H w → p.sat F w → (∀ b, F b → b < w.heap.size) → (∀ q ∈ R, q.Le ⟨w, fun b => b < w.heap.size ∧ ¬ F b⟩) → Calls P f (fi ++ vs ++ ca).toArray w fun y w' => ∃ a, y = .returned (v a) ∧ G a ∧ ∃ F', (q a).sat F' w' ∧ Turns w w' F F')
    (k : ∀ a, G a → XK N w0 (wpList P ops Q rest) ((d, v a) :: e) R (H.set i (q a))) : XK N w0 (wpList P ops Q (⟨some d, .call { callee := .value x, args := args.toArray, argTypes := tys }, ty, pos, aft, none⟩ :: rest)) e R H := fun a w hr st => wpList_plain rfl fun K hK => by
  unfold callB at hf
  cases hq : P.funcs[f]? with
  | none => simp [hq] at hf
  | some fn =>
    simp [hq] at hf
    obtain ⟨hf1, hf2⟩ := hf
    have hrun : (execOp a.eval (⟨some d, .call { callee := .value x, args := args.toArray, argTypes := tys }, ty, pos, aft, none⟩ : Oper)).run P w = .ok (.enter f (fi ++ vs ++ ca).toArray) w := by
      cases hb : fn.body with
      | none => simp [hb] at hf2
      | some c => simp [execOp, resolve, hr.ev hx, Deferred.ofValue, invoke, callFunc, hq, hf1, hb, hr.evs ha]
    obtain ⟨F, hp, hlt, hle, hset⟩ := st.chunk hi
    unfold Oper.wp
    rw [hrun]
    refine (hc w F st hp hlt hle).mono fun y w' hy => ?_
    obtain ⟨a', rfl, hG, F', hs, ht⟩ := hy
    exact hK _ _ (k a' hG _ _ (hr.put hd (v a')) (hset w' F' (q a') hs ht))
end
/-- a word that is empty makes no line right -/
theorem take_empty {s : Soc} {l : List UInt8} (h : [] ∈ splitC 32 l) : takeF s (wordsF l) = none := by
  rw [takeF_item]
  cases hi : itemF (wordsF l) with
  | none => rfl
  | some i =>
    obtain ⟨h1, h2⟩ := itemF_back hi
    exfalso
    have h3 : splitC 32 l = i.words := by
      have := congrArg (List.map fun b : ByteArray => b.data.toList) h1
      simpa [wordsF, List.map_map, Function.comp_def, strOf] using this
    rw [h3] at h
    exact ((i.isWords h2).2 [] h).1 rfl
/-- the walk over a text's lines: behind from_ the rest is read on -/
structure Ln (t : List UInt8) (s : Soc) (i from_ : Nat) : Prop where
  le : from_ ≤ i
  hi : i ≤ t.length
  go : contF soc0 t = contF s (t.drop from_)
  no : (10 : UInt8) ∉ (t.drop from_).take (i - from_)
theorem Ln.start (t : List UInt8) : Ln t soc0 0 0 := ⟨Nat.le_refl _, Nat.zero_le _, by simp, by simp⟩
theorem cont_line (s : Soc) {l : List UInt8} (r : List UInt8) (h : (10 : UInt8) ∉ l) : contF s (l ++ 10 :: r) = (takeF s (wordsF l)).bind fun s' => contF s' r := by
  rw [contF, linesF_one h, List.nil_append]
  cases hr : linesF [] r with
  | none =>
    rw [Option.map_none, Option.bind_none]
    cases takeF s (wordsF l) with
    | none => rfl
    | some s' => simp [contF, hr]
  | some ls =>
    rw [Option.map_some, Option.bind_some]
    show (takeF s (wordsF l)).bind (fun s' => takeAll s' ls) = _
    cases takeF s (wordsF l) with
    | none => rfl
    | some s' => simp [contF, hr]
section
variable {t : List UInt8} {s : Soc} {i from_ : Nat} (h : Ln t s i from_)
include h
theorem Ln.step (hi : i < t.length) (hb : t[i]?.getD 0 ≠ 10) : Ln t s (i + 1) from_ := by
  have h0 := h.le
  refine ⟨by omega, by omega, h.go, ?_⟩
  have hg : (t.drop from_)[i - from_]? = some (t[i]'hi) := by rw [List.getElem?_drop, show from_ + (i - from_) = i by omega, List.getElem?_eq_getElem hi]
  rw [show i + 1 - from_ = (i - from_) + 1 by omega, takeS_get hg, List.mem_append]
  rw [List.getElem?_eq_getElem hi, Option.getD_some] at hb
  rintro (h3 | h3)
  · exact h.no h3
  · simp at h3; exact hb h3.symm
theorem Ln.split (hi : i < t.length) (hb : t[i]?.getD 0 = 10) : t.drop from_ = (t.drop from_).take (i - from_) ++ 10 :: t.drop (i + 1) := by
  have h0 := h.le
  rw [List.getElem?_eq_getElem hi, Option.getD_some] at hb
  conv => lhs; rw [← List.take_append_drop (i - from_) (t.drop from_)]
  rw [List.drop_drop, show from_ + (i - from_) = i by omega, List.drop_eq_getElem_cons hi, hb]
theorem Ln.line (hi : i < t.length) (hb : t[i]?.getD 0 = 10) : contF soc0 t = (takeF s (wordsF ((t.drop from_).take (i - from_)))).bind fun s' => contF s' (t.drop (i + 1)) := by
  rw [h.go, h.split hi hb, cont_line s _ h.no]
  rw [← h.split hi hb]
theorem Ln.next {s' : Soc} (hi : i < t.length) (hb : t[i]?.getD 0 = 10) (ht : takeF s (wordsF ((t.drop from_).take (i - from_))) = some s') : Ln t s' (i + 1) (i + 1) := by
  refine ⟨Nat.le_refl _, by omega, ?_, by simp⟩
  rw [h.line hi hb, ht]; rfl
theorem Ln.ends (hi : ¬ i < t.length) (hl : t = [] ∨ ∃ X, t = X ++ [10]) : contF soc0 t = some s := by
  have h0 := h.le
  have h1 := h.hi
  have hd : (t.drop from_).take (i - from_) = t.drop from_ := List.take_of_length_le (by rw [List.length_drop]; omega)
  have hno := h.no
  rw [hd] at hno
  rw [h.go]
  rcases Nat.lt_or_ge from_ t.length with hlt | hge
  · exfalso
    rcases hl with rfl | ⟨X, rfl⟩
    · simp at hlt
    · refine hno ?_
      simp at hlt
      rw [List.drop_append_of_le_length (by omega)]
      simp
  · rw [List.drop_eq_nil_of_le hge]; rfl
end
theorem cont_no_end {t : List UInt8} (h1 : t ≠ []) (h2 : ¬ t[t.length - 1]?.getD 0 = 10) : contF soc0 t = none := by
  cases hc : contF soc0 t with
  | none => rfl
  | some s =>
    exfalso
    obtain ⟨is, rfl, hcan, _⟩ := items_contF hc
    rcases List.eq_nil_or_concat is with rfl | ⟨pre, i, rfl⟩
    · exact h1 rfl
    · rw [List.concat_eq_append, itemsT_app] at h2
      apply h2
      simp [itemsT, unlines]

theorem WordsV.u {l : List UInt8} {v : Value} {w w' : World} (h : WordsV l v w w') : ∃ (ws : List ByteArray) (A : Option Addr) (c : Nat) (b : Bool), v = .tuple #[.slice A ws.length c, .bool b] ∧ ws.length ≤ c ∧ SlS (fresh w w') 1 A ws.length (strCells ws) ∧ (b = true → ws = wordsF l) ∧ (b = false → [] ∈ splitC 32 l) := by
  rcases h with ⟨rfl, h⟩ | ⟨A, c, h1, rfl, h2⟩
  · exact ⟨[], none, 0, false, rfl, Nat.zero_le _, SlS.nil _ _, (fun h => by cases h), fun _ => h⟩
  · exact ⟨_, A, c, true, rfl, h1, h2, (fun _ => rfl), (fun h => by cases h)⟩

set_option maxHeartbeats 1000000 in
theorem refParse_ok (t : List UInt8) (ht : t.length ≤ 1000000) (w : World) :
    Calls Tryz.prog 12 #[.string (strOf t)] w (ParseOk (strOf t) w) := by
  have hsz := strOf_size t
  refine XK.enter (vs := [.string (strOf t)]) Tryz.func12 rfl Tryz.ntmps12 (by simp) ?_
  refine XK.seq ?_

  refine XK.region ?_
  refine xk_alloc (cs := [.slice none 0 0, .slice none 0 0, .slice none 0 0, .slice none 0 0]) (zeroB_of (by kernel_rfl)) (by decide) fun g1 => ?_
  refine xk_assign rfl (by decide) ?_
  refine XK.nilN ?_
  refine XK.seq ?_

  refine XK.region ?_
  refine xk_buildS (zs := [.slice none 0 0, .slice none 0 0, .slice none 0 0, .slice none 0 0]) (L := [(0, 1), (1, 1), (2, 1), (3, 1)]) (zeroB_of (by kernel_rfl)) (by kernel_rfl) rfl (by simp [fillL, setN, Value.cells]; rfl) (by decide) ?_
  refine xk_box rfl (by decide) fun g2 => ?_
  refine xk_assign rfl (by decide) ?_
  refine XK.nilN ?_
  refine XK.seq ?_
  refine XK.cutB 26 ((8000 : Int) < (t.length : Int) ∨ (¬ strOf t = ⟨#[]⟩ ∧ ¬ ((bAt (strOf t) (t.length - 1)).toNat : Int) = 10)) ?_ ?_
  · skip

    refine XK.region ?_
    refine xk_move rfl (by decide) ?_
    refine xk_lenS (by kernel_rfl) rfl (by decide) ?_
    refine xk_gtr rfl rfl (by decide) ?_
    refine xk_move rfl (by decide) ?_
    refine xk_split (t := 15) rfl (fun hg15 => ?_) (fun hg15 => ?_)
    ·
      refine xk_guardF rfl rfl rfl (by decide) ?_
      refine xk_guardF rfl rfl rfl (by decide) ?_
      refine xk_guardF rfl rfl rfl (by decide) ?_
      refine xk_guardU rfl rfl (by decide) ?_
      refine xk_guardU rfl rfl (by decide) ?_
      refine xk_guardU rfl rfl (by decide) ?_
      refine xk_guardU rfl rfl (by decide) ?_
      refine xk_guardU rfl rfl (by decide) ?_
      refine xk_guardU rfl rfl (by decide) ?_
      refine xk_guardF rfl rfl rfl (by decide) ?_
      (first | refine xk_pickT rfl rfl (by decide) ?_ | refine xk_pickF rfl rfl (by decide) ?_)
      refine XK.nilN ?_
      exact XK.meetB (by repeat (first | exact trivial | refine ⟨rfl, ?_⟩)) (get_true rfl (.inl (by omega)))
    ·
      refine xk_guardT rfl rfl ?_; refine xk_move rfl (by decide) ?_
      refine xk_guardT rfl rfl ?_; refine xk_neqStr (by kernel_rfl) rfl rfl (by decide) ?_
      refine xk_guardT rfl rfl ?_; refine xk_move rfl (by decide) ?_
      refine xk_split (t := 18) rfl (fun hg18 => ?_) (fun hg18 => ?_)
      ·
        refine xk_guardT rfl rfl ?_; refine xk_move rfl (by decide) ?_
        refine xk_guardT rfl rfl ?_; refine xk_move rfl (by decide) ?_
        refine xk_guardT rfl rfl ?_; refine xk_lenS (by kernel_rfl) rfl (by decide) ?_
        refine xk_guardT rfl rfl ?_; refine xk_sub rfl rfl (wrap_in (by omega)) (by decide) ?_
        refine xk_guardT rfl rfl ?_; refine xk_byte (t.length - 1) (by kernel_rfl) rfl rfl (by have := mt (fun h : t = [] => by rw [h]; rfl) hg18; have : t ≠ [] := this; have := List.length_pos_iff.2 this; omega) (bAt_get (by have := mt (fun h : t = [] => by rw [h]; rfl) hg18; have : t ≠ [] := this; have := List.length_pos_iff.2 this; omega)) (by decide) ?_
        refine xk_guardT rfl rfl ?_; refine xk_neq rfl rfl (by decide) ?_
        refine xk_guardT rfl rfl ?_; (first | refine xk_pickT rfl rfl (by decide) ?_ | refine xk_pickF rfl rfl (by decide) ?_)
        (first | refine xk_pickT rfl rfl (by decide) ?_ | refine xk_pickF rfl rfl (by decide) ?_)
        refine XK.nilN ?_
        exact XK.meetB (by repeat (first | exact trivial | refine ⟨rfl, ?_⟩)) (get_iff rfl ⟨fun h => .inr ⟨hg18, h⟩, fun h => (h.resolve_left (by omega)).2⟩)
      ·
        refine xk_guardF rfl rfl rfl (by decide) ?_
        refine xk_guardF rfl rfl rfl (by decide) ?_
        refine xk_guardF rfl rfl rfl (by decide) ?_
        refine xk_guardF rfl rfl rfl (by decide) ?_
        refine xk_guardF rfl rfl rfl (by decide) ?_
        refine xk_guardF rfl rfl rfl (by decide) ?_
        refine xk_guardT rfl rfl ?_; (first | refine xk_pickT rfl rfl (by decide) ?_ | refine xk_pickF rfl rfl (by decide) ?_)
        (first | refine xk_pickT rfl rfl (by decide) ?_ | refine xk_pickF rfl rfl (by decide) ?_)
        refine XK.nilN ?_
        exact XK.meetB (by repeat (first | exact trivial | refine ⟨rfl, ?_⟩)) (get_false rfl (fun h => hg18 (h.resolve_left (by omega)).1))
  refine XK.if_ rfl (fun hbad => ?_) (fun hbad => ?_)
  ·
    refine XK.seq ?_

    refine XK.region ?_
    refine xk_buildS (zs := [.slice none 0 0, .slice none 0 0, .slice none 0 0, .slice none 0 0]) (L := [(0, 1), (1, 1), (2, 1), (3, 1)]) (zeroB_of (by kernel_rfl)) (by kernel_rfl) rfl (by simp [fillL, setN, Value.cells]; rfl) (by decide) ?_
    (first | (refine xk_storeN 0 rfl rfl rfl (by kernel_rfl) (by simp [Value.cells, Value.oneCell']) (by simp [Value.cells]) ?_) | (refine xk_storeN 1 rfl rfl rfl (by kernel_rfl) (by simp [Value.cells, Value.oneCell']) (by simp [Value.cells]) ?_) | (refine xk_storeN 2 rfl rfl rfl (by kernel_rfl) (by simp [Value.cells, Value.oneCell']) (by simp [Value.cells]) ?_) | (refine xk_storeN 3 rfl rfl rfl (by kernel_rfl) (by simp [Value.cells, Value.oneCell']) (by simp [Value.cells]) ?_) | (refine xk_storeN 4 rfl rfl rfl (by kernel_rfl) (by simp [Value.cells, Value.oneCell']) (by simp [Value.cells]) ?_) | (refine xk_storeN 5 rfl rfl rfl (by kernel_rfl) (by simp [Value.cells, Value.oneCell']) (by simp [Value.cells]) ?_) | (refine xk_storeN 6 rfl rfl rfl (by kernel_rfl) (by simp [Value.cells, Value.oneCell']) (by simp [Value.cells]) ?_) | (refine xk_storeN 7 rfl rfl rfl (by kernel_rfl) (by simp [Value.cells, Value.oneCell']) (by simp [Value.cells]) ?_) | (refine xk_storeN 8 rfl rfl rfl (by kernel_rfl) (by simp [Value.cells, Value.oneCell']) (by simp [Value.cells]) ?_)); simp only [putN, Value.cells, List.set, List.take, List.drop, List.nil_append, List.append_nil, List.length_cons, List.length_nil, List.cons_append, Nat.reduceAdd]
    refine xk_assign rfl (by decide) ?_
    refine XK.nilN ?_
    refine XK.ret ?_
    refine XK.norm ?_
    have hpf : parseF (strOf t) = (2, soc0) := by
      by_cases h8 : 8000 < t.length
      · unfold parseF readF; rw [if_pos (by omega)]
      · obtain ⟨h1, h2⟩ := hbad.resolve_left (by omega)
        refine parse_none (cont_no_end (fun h => h1 (by rw [h]; rfl)) (fun h => h2 ?_))
        rw [bAt_strOf, h]; rfl
    exact XK.retCT rfl (by kernel_rfl) rfl rfl (RdN.whole 1 rfl) rfl fun w1 st => ⟨⟨_, by rw [hpf], by rw [hpf]; exact socR_nil _ fun _ _ => SlS.nil _ _⟩, st.below (by simp)⟩
  ·
    refine XK.skip ?_
    refine XK.norm ?_
    refine XK.seq ?_
    have h8 : t.length ≤ 8000 := by omega
    have hle : t = [] ∨ ∃ X, t = X ++ [10] := by
      rcases List.eq_nil_or_concat t with h | ⟨X, b, h⟩
      · exact .inl h
      · rw [List.concat_eq_append] at h
        refine .inr ⟨X, ?_⟩
        have hb : b = 10 := by
          refine u8_10.1 (Classical.byContradiction fun hn => hbad (.inr ⟨fun h0 => ?_, ?_⟩))
          · have := strOf_nil.1 h0; rw [h] at this; simp at this
          · rw [bAt_strOf, h]; simpa using hn
        rw [h, hb]
    clear hbad
    refine XK.newChunk (p := HP.many []) (fun w => ⟨fun _ _ => False, fun i p h => by simp at h, fun _ _ h => h, fun _ _ _ _ h => h.elim⟩) ?_
    refine XK.weak [1, 0, 2] rfl (by decide) (fun _ h => h) ?_
    refine XK.push ?_
    refine XK.nilrow 55 6 ?_
    refine XK.push ?_
    refine XK.nilrow 69 3 ?_
    refine XK.push ?_
    refine XK.nilrow 71 1 ?_
    refine XK.push ?_
    refine XK.nilrow 51 6 ?_
    refine XK.push ?_
    refine XK.newChunk (p := HP.many []) (fun w => ⟨fun _ _ => False, fun i p h => by simp at h, fun _ _ h => h, fun _ _ _ _ h => h.elim⟩) ?_
    refine XK.push ?_
    refine XK.newChunk (p := HP.pic (picY [] []) (picY_mono [] [])) (fun w => ⟨fun x hx => by simp at hx, fun x hx => by simp at hx⟩) ?_
    refine XK.push ?_
    simp only [List.nil_append, List.cons_append]
    refine XK.toEx 0 (f := fun X0 : {X0 : SocY // X0.of soc0} => X0.1.hp g2) ⟨⟨[], [], [], [], none, 0, 0, none, 0, 0, none, 0, 0, none, 0, 0, [], [], [], [], []⟩, ⟨rfl, rfl, rfl, rfl, rfl, rfl, rfl, rfl, rfl, rfl, rfl, rfl, rfl⟩⟩ rfl ?_
    dsimp only [List.set]

    refine XK.region ?_
    refine xk_assign rfl (by decide) ?_
    refine XK.nilN ?_
    refine XK.seq ?_
    refine XK.seq ?_

    refine XK.region ?_
    refine xk_assign rfl (by decide) ?_
    refine XK.nilN ?_
    refine XK.envS [(6, .int .i64 0), (5, .int .i64 0), (4, .pointer (some ⟨g2, 0, none⟩)), (3, .int .i64 0), (2, .pointer (some ⟨g1, 0, none⟩)), (0, .string (strOf t))] ?_
    refine XK.block ?_
    refine XK.loop (fun m e R H => ∃ (i from_ : Nat) (s : Soc), Ln t s i from_ ∧ s.few from_ ∧ s.short ∧ m = t.length - i ∧ e = [(6, .int .i64 (i : Int)), (5, .int .i64 (from_ : Int)), (4, .pointer (some ⟨g2, 0, none⟩)), (3, .int .i64 0), (2, .pointer (some ⟨g1, 0, none⟩)), (0, .string (strOf t))] ∧ R = [all w] ∧ H = [SocH g2 s, HP.blk g1 28 [.slice none 0 0, .slice none 0 0, .slice none 0 0, .slice none 0 0]]) t.length ⟨0, 0, soc0, Ln.start t, few0, short0, rfl, rfl, rfl, rfl⟩ fun m e R H hI => ?_
    obtain ⟨i, from_, s, hln, hfew, hsh, rfl, rfl, rfl, rfl⟩ := hI
    refine XK.seq ?_
    refine XK.seq ?_

    refine XK.region ?_
    refine xk_move rfl (by decide) ?_
    refine xk_move rfl (by decide) ?_
    refine xk_lenS (by kernel_rfl) rfl (by decide) ?_
    refine xk_lss rfl rfl (by decide) ?_
    refine XK.nilN ?_
    refine XK.if_ rfl (fun hlt => ?_) (fun hlt => ?_)
    ·
      refine XK.skip ?_
      refine XK.norm ?_
      refine XK.seq ?_
      refine XK.block ?_
      refine XK.seq ?_
      refine XK.seq ?_
      have hil : i < t.length := by omega
      have hbi := bAt_strOf t i
      have hfi := hln.le

      refine XK.region ?_
      refine xk_move rfl (by decide) ?_
      refine xk_move rfl (by decide) ?_
      refine xk_byte i (by kernel_rfl) rfl rfl rfl (bAt_get (by omega)) (by decide) ?_
      refine xk_neq rfl rfl (by decide) ?_
      refine XK.nilN ?_
      refine XK.if_ rfl (fun hb => ?_) (fun hb => ?_)
      ·
        refine XK.exit ?_
        refine XK.norm ?_

        refine XK.region ?_
        refine xk_move rfl (by decide) ?_
        refine xk_add rfl rfl (wrap_in (by omega)) (by decide) ?_
        refine xk_assign rfl (by decide) ?_
        refine XK.nilN ?_
        exact XK.envS [(6, .int .i64 ((i + 1 : Nat) : Int)), (5, .int .i64 (from_ : Int)), (4, .pointer (some ⟨g2, 0, none⟩)), (3, .int .i64 0), (2, .pointer (some ⟨g1, 0, none⟩)), (0, .string (strOf t))] (XK.round _ (by omega) ⟨i + 1, from_, s, hln.step hil (by rw [← hbi]; exact fun h => hb (u8_10.2 h)), hfew, hsh, rfl, rfl, rfl, rfl⟩)
      ·
        refine XK.skip ?_
        refine XK.norm ?_
        refine XK.seq ?_
        have hb10 : t[i]?.getD 0 = 10 := by rw [← hbi]; exact u8_10.1 (Classical.not_not.1 hb)
        have hlin := hln.line hil hb10
        obtain ⟨l, hl⟩ : ∃ l, (t.drop from_).take (i - from_) = l := ⟨_, rfl⟩
        have hll : l.length ≤ 8000 := by rw [← hl, List.length_take, List.length_drop]; omega
        have hnx : ∀ s', takeF s (wordsF l) = some s' → Ln t s' (i + 1) (i + 1) := fun s' h => hln.next hil hb10 (by rw [hl]; exact h)
        rw [hl] at hlin
        have hsl := splitC_len 32 l

        refine XK.region ?_
        refine xk_move rfl (by decide) ?_
        refine xk_move rfl (by decide) ?_
        refine xk_move rfl (by decide) ?_
        refine xk_sliceStr from_ i (by kernel_rfl) rfl rfl rfl rfl rfl (by omega) (by omega) (by decide) ?_
        rw [extract_strOf, hl]
        refine xk_call [] (f := 27) (fi := []) (ca := []) (by kernel_rfl) rfl rfl (by decide) (by simp) (WordsV l) (fun w1 st => refWords_ok l (by omega) w1) ?_
        rintro _ w1 q1 hv hq1 _ hF1
        obtain ⟨ws, Aw, cw, bo, rfl, hwc, hSw, hwt, hwf⟩ := hv.u
        have hSw := hSw.le hq1
        clear hv
        refine xk_move rfl (by decide) ?_
        refine xk_extract rfl rfl (by decide) ?_
        refine xk_extract rfl rfl (by decide) ?_
        refine xk_assign rfl (by decide) ?_
        refine xk_assign rfl (by decide) ?_
        refine XK.nilN ?_
        refine XK.seq ?_
        refine XK.seq ?_

        refine XK.region ?_
        refine xk_move rfl (by decide) ?_
        refine xk_not rfl (by decide) ?_
        refine xk_move rfl (by decide) ?_
        refine xk_splitB (t := 48) rfl (fun hg48 => ?_) (fun hg48 => ?_)
        ·
          refine xk_guardF rfl rfl rfl (by decide) ?_
          refine xk_guardF rfl rfl rfl (by decide) ?_
          refine xk_guardF rfl rfl rfl (by decide) ?_
          refine xk_guardF rfl rfl rfl (by decide) ?_
          (first | refine xk_pickT rfl rfl (by decide) ?_ | refine xk_pickF rfl rfl (by decide) ?_)
          refine XK.nilN ?_
          refine XK.cond rfl (fun _ => ?_) (fun h => by cases h)
          refine XK.seq ?_

          refine XK.region ?_
          refine xk_buildS (zs := [.slice none 0 0, .slice none 0 0, .slice none 0 0, .slice none 0 0]) (L := [(0, 1), (1, 1), (2, 1), (3, 1)]) (zeroB_of (by kernel_rfl)) (by kernel_rfl) rfl (by simp [fillL, setN, Value.cells]; rfl) (by decide) ?_
          (first | (refine xk_storeN 0 rfl rfl rfl (by kernel_rfl) (by simp [Value.cells, Value.oneCell']) (by simp [Value.cells]) ?_) | (refine xk_storeN 1 rfl rfl rfl (by kernel_rfl) (by simp [Value.cells, Value.oneCell']) (by simp [Value.cells]) ?_) | (refine xk_storeN 2 rfl rfl rfl (by kernel_rfl) (by simp [Value.cells, Value.oneCell']) (by simp [Value.cells]) ?_) | (refine xk_storeN 3 rfl rfl rfl (by kernel_rfl) (by simp [Value.cells, Value.oneCell']) (by simp [Value.cells]) ?_) | (refine xk_storeN 4 rfl rfl rfl (by kernel_rfl) (by simp [Value.cells, Value.oneCell']) (by simp [Value.cells]) ?_) | (refine xk_storeN 5 rfl rfl rfl (by kernel_rfl) (by simp [Value.cells, Value.oneCell']) (by simp [Value.cells]) ?_) | (refine xk_storeN 6 rfl rfl rfl (by kernel_rfl) (by simp [Value.cells, Value.oneCell']) (by simp [Value.cells]) ?_) | (refine xk_storeN 7 rfl rfl rfl (by kernel_rfl) (by simp [Value.cells, Value.oneCell']) (by simp [Value.cells]) ?_) | (refine xk_storeN 8 rfl rfl rfl (by kernel_rfl) (by simp [Value.cells, Value.oneCell']) (by simp [Value.cells]) ?_)); simp only [putN, Value.cells, List.set, List.take, List.drop, List.nil_append, List.append_nil, List.length_cons, List.length_nil, List.cons_append, Nat.reduceAdd]
          refine xk_assign rfl (by decide) ?_
          refine XK.nilN ?_
          refine XK.ret ?_
          refine XK.norm ?_
          have hpf : parseF (strOf t) = (2, soc0) := parse_none (by rw [hlin, take_empty (hwf (by simpa using hg48))]; rfl)
          exact XK.retCT rfl (by kernel_rfl) rfl rfl (RdN.whole 1 rfl) rfl fun w1 st => ⟨⟨_, by rw [hpf], by rw [hpf]; exact socR_nil _ fun _ _ => SlS.nil _ _⟩, st.below (by simp)⟩
        ·
          refine xk_guardT rfl rfl ?_; refine xk_move rfl (by decide) ?_
          refine xk_guardT rfl rfl ?_; refine xk_move rfl (by decide) ?_
          have hbo : bo = true := by simpa using hg48
          obtain rfl := hwt hbo
          have hwl : (wordsF l).length = (splitC 32 l).length := by simp [wordsF]
          have hw1 : 1 ≤ (wordsF l).length := by
            rw [hwl]
            cases hs : splitC 32 l with
            | nil => exact absurd hs (splitC_ne _ _)
            | cons x xs => simp
          refine xk_guardT rfl rfl ?_; refine xk_callMV 0 (α := Bool × Soc) (fun a => .bool a.1) (fun a => SocH g2 a.2) (fun a => takeF s (wordsF l) = if a.1 then some a.2 else none) (f := 28) (fi := []) (ca := []) (by kernel_rfl) rfl rfl rfl (by decide) (fun w1 F st hp hF hle => (refLine_ok g2 s (wordsF l) Aw _ cw w1 F hp hF (hfew.le (by omega)) (hSw.le (hle q1 (by simp))) rfl hw1 hwc (by omega) (fun x hx => by
            obtain ⟨y, hy, rfl⟩ := List.mem_map.1 hx
            have := hsl.2 y hy
            rw [strOf_size]; omega)).mono fun y w' h => by obtain ⟨b, s', h1, h2, h3⟩ := h; exact ⟨(b, s'), h1, h2, h3⟩) ?_
          rintro ⟨b, s'⟩ htk
          dsimp only [List.set] at htk ⊢
          refine xk_guardT rfl rfl ?_; refine xk_not rfl (by decide) ?_
          (first | refine xk_pickT rfl rfl (by decide) ?_ | refine xk_pickF rfl rfl (by decide) ?_)
          refine XK.nilN ?_
          refine XK.cond rfl (fun hbb => ?_) (fun hbb => ?_)
          ·
            refine XK.seq ?_

            refine XK.region ?_
            refine xk_buildS (zs := [.slice none 0 0, .slice none 0 0, .slice none 0 0, .slice none 0 0]) (L := [(0, 1), (1, 1), (2, 1), (3, 1)]) (zeroB_of (by kernel_rfl)) (by kernel_rfl) rfl (by simp [fillL, setN, Value.cells]; rfl) (by decide) ?_
            (first | (refine xk_storeN 0 rfl rfl rfl (by kernel_rfl) (by simp [Value.cells, Value.oneCell']) (by simp [Value.cells]) ?_) | (refine xk_storeN 1 rfl rfl rfl (by kernel_rfl) (by simp [Value.cells, Value.oneCell']) (by simp [Value.cells]) ?_) | (refine xk_storeN 2 rfl rfl rfl (by kernel_rfl) (by simp [Value.cells, Value.oneCell']) (by simp [Value.cells]) ?_) | (refine xk_storeN 3 rfl rfl rfl (by kernel_rfl) (by simp [Value.cells, Value.oneCell']) (by simp [Value.cells]) ?_) | (refine xk_storeN 4 rfl rfl rfl (by kernel_rfl) (by simp [Value.cells, Value.oneCell']) (by simp [Value.cells]) ?_) | (refine xk_storeN 5 rfl rfl rfl (by kernel_rfl) (by simp [Value.cells, Value.oneCell']) (by simp [Value.cells]) ?_) | (refine xk_storeN 6 rfl rfl rfl (by kernel_rfl) (by simp [Value.cells, Value.oneCell']) (by simp [Value.cells]) ?_) | (refine xk_storeN 7 rfl rfl rfl (by kernel_rfl) (by simp [Value.cells, Value.oneCell']) (by simp [Value.cells]) ?_) | (refine xk_storeN 8 rfl rfl rfl (by kernel_rfl) (by simp [Value.cells, Value.oneCell']) (by simp [Value.cells]) ?_)); simp only [putN, Value.cells, List.set, List.take, List.drop, List.nil_append, List.append_nil, List.length_cons, List.length_nil, List.cons_append, Nat.reduceAdd]
            refine xk_assign rfl (by decide) ?_
            refine XK.nilN ?_
            refine XK.ret ?_
            refine XK.norm ?_
            have hpf : parseF (strOf t) = (2, soc0) := parse_none (by rw [hlin, htk, show b = false by simpa using hbb]; rfl)
            exact XK.retCT rfl (by kernel_rfl) rfl rfl (RdN.whole 1 rfl) rfl fun w1 st => ⟨⟨_, by rw [hpf], by rw [hpf]; exact socR_nil _ fun _ _ => SlS.nil _ _⟩, st.below (by simp)⟩
          ·
            refine XK.skip ?_
            refine XK.norm ?_

            refine XK.region ?_
            refine xk_move rfl (by decide) ?_
            refine xk_add rfl rfl (wrap_in (by omega)) (by decide) ?_
            refine xk_assign rfl (by decide) ?_
            refine XK.nilN ?_

            refine XK.region ?_
            refine xk_move rfl (by decide) ?_
            refine xk_add rfl rfl (wrap_in (by omega)) (by decide) ?_
            refine xk_assign rfl (by decide) ?_
            refine XK.nilN ?_
            have htk' : takeF s (wordsF l) = some s' := htk.trans (by rw [show b = true by simpa using hbb]; rfl)
            exact XK.weakR (R' := [all w]) (by simp) (XK.envS [(6, .int .i64 ((i + 1 : Nat) : Int)), (5, .int .i64 ((i + 1 : Nat) : Int)), (4, .pointer (some ⟨g2, 0, none⟩)), (3, .int .i64 0), (2, .pointer (some ⟨g1, 0, none⟩)), (0, .string (strOf t))] (XK.round _ (by omega) ⟨i + 1, i + 1, s', hnx s' htk', (takeF_few htk' hfew).le (by omega), takeF_short htk' (by omega) hsh, rfl, rfl, rfl, rfl⟩))
    ·
      refine XK.exit ?_
      refine XK.norm ?_
      refine XK.seq ?_
      have hend := hln.ends (by omega) hle
      have hfi := hln.le
      have hti := hln.hi
      have hsm := small_of (hfew.le (show from_ ≤ 8000 by omega)) hsh
      have hrd : readF (strOf t) = some s := by rw [readF_of h8, hend]
      refine XK.openEx 0 rfl ?_
      rintro ⟨⟨cs, dm, rs, ds, A1, n1, c1, A2, n2, c2, A3, n3, c3, A4, n4, c4, L1, L2, L3, L4, rg⟩, hx⟩
      dsimp only [List.set, SocY.hp]
      refine XK.take 0 0 rfl rfl ?_
      dsimp only [List.set]
      refine XK.still [] [1] [0, 2] (by simp) rfl (by decide) (by decide) fun q hq _ hfr => ?_
      have hfr := hfr (by simp) (by simp)
      obtain ⟨r1, r2, r3, r4⟩ := SocY.read hx (hq 1 _ (by simp) rfl)
      dsimp only at r1 r2 r3 r4
      clear hq

      refine XK.region ?_
      refine xk_move rfl (by decide) ?_
      refine xk_nilC rfl (by decide) ?_
      refine xk_ldN 4 rfl ?_
      refine xk_callR (f := 29) (fi := []) (ca := []) (by kernel_rfl) rfl rfl (by decide) (fun w1 st => refChkG_any s A1 A2 A3 A4 n1 c1 n2 c2 n3 c3 n4 c4 w1 (by
        have hl := slq_le (st.le (p := q) (by simp))
        exact ⟨r1.mono hl (fun _ _ => ClkR.mono hl), r2.mono hl (fun _ _ h => h), r3.mono hl (fun _ _ h => h), r4.mono hl (fun _ _ => DevR.mono hl), hsm⟩)) ?_
      refine xk_assign rfl (by decide) ?_
      refine XK.nilN ?_
      refine XK.seq ?_
      refine XK.seq ?_

      refine XK.region ?_
      refine xk_move rfl (by decide) ?_
      refine xk_neq rfl rfl (by decide) ?_
      refine XK.nilN ?_
      refine XK.if_ rfl (fun hck => ?_) (fun hck => ?_)
      ·
        refine XK.seq ?_

        refine XK.region ?_
        refine xk_buildS (zs := [.slice none 0 0, .slice none 0 0, .slice none 0 0, .slice none 0 0]) (L := [(0, 1), (1, 1), (2, 1), (3, 1)]) (zeroB_of (by kernel_rfl)) (by kernel_rfl) rfl (by simp [fillL, setN, Value.cells]; rfl) (by decide) ?_
        refine xk_move rfl (by decide) ?_
        (first | (refine xk_storeN 0 rfl rfl rfl (by kernel_rfl) (by simp [Value.cells, Value.oneCell']) (by simp [Value.cells]) ?_) | (refine xk_storeN 1 rfl rfl rfl (by kernel_rfl) (by simp [Value.cells, Value.oneCell']) (by simp [Value.cells]) ?_) | (refine xk_storeN 2 rfl rfl rfl (by kernel_rfl) (by simp [Value.cells, Value.oneCell']) (by simp [Value.cells]) ?_) | (refine xk_storeN 3 rfl rfl rfl (by kernel_rfl) (by simp [Value.cells, Value.oneCell']) (by simp [Value.cells]) ?_) | (refine xk_storeN 4 rfl rfl rfl (by kernel_rfl) (by simp [Value.cells, Value.oneCell']) (by simp [Value.cells]) ?_) | (refine xk_storeN 5 rfl rfl rfl (by kernel_rfl) (by simp [Value.cells, Value.oneCell']) (by simp [Value.cells]) ?_) | (refine xk_storeN 6 rfl rfl rfl (by kernel_rfl) (by simp [Value.cells, Value.oneCell']) (by simp [Value.cells]) ?_) | (refine xk_storeN 7 rfl rfl rfl (by kernel_rfl) (by simp [Value.cells, Value.oneCell']) (by simp [Value.cells]) ?_) | (refine xk_storeN 8 rfl rfl rfl (by kernel_rfl) (by simp [Value.cells, Value.oneCell']) (by simp [Value.cells]) ?_)); simp only [putN, Value.cells, List.set, List.take, List.drop, List.nil_append, List.append_nil, List.length_cons, List.length_nil, List.cons_append, Nat.reduceAdd]
        refine xk_assign rfl (by decide) ?_
        refine XK.nilN ?_
        refine XK.ret ?_
        refine XK.norm ?_
        have hpf : parseF (strOf t) = (checkS s, soc0) := by unfold parseF; rw [hrd]; exact if_neg hck
        exact XK.retCT rfl (by kernel_rfl) rfl rfl (RdN.whole 1 rfl) rfl fun w1 st => ⟨⟨_, by rw [hpf], by rw [hpf]; exact socR_nil _ fun _ _ => SlS.nil _ _⟩, st.below (by simp)⟩
      ·
        refine XK.skip ?_
        refine XK.norm ?_
        refine XK.seq ?_

        refine XK.region ?_
        refine xk_move rfl (by decide) ?_
        refine xk_nilC rfl (by decide) ?_
        refine xk_ldN 4 rfl ?_
        (first | (refine xk_storeN 0 rfl rfl rfl (by kernel_rfl) (by simp [Value.cells, Value.oneCell']) (by simp [Value.cells]) ?_) | (refine xk_storeN 1 rfl rfl rfl (by kernel_rfl) (by simp [Value.cells, Value.oneCell']) (by simp [Value.cells]) ?_) | (refine xk_storeN 2 rfl rfl rfl (by kernel_rfl) (by simp [Value.cells, Value.oneCell']) (by simp [Value.cells]) ?_) | (refine xk_storeN 3 rfl rfl rfl (by kernel_rfl) (by simp [Value.cells, Value.oneCell']) (by simp [Value.cells]) ?_) | (refine xk_storeN 4 rfl rfl rfl (by kernel_rfl) (by simp [Value.cells, Value.oneCell']) (by simp [Value.cells]) ?_) | (refine xk_storeN 5 rfl rfl rfl (by kernel_rfl) (by simp [Value.cells, Value.oneCell']) (by simp [Value.cells]) ?_) | (refine xk_storeN 6 rfl rfl rfl (by kernel_rfl) (by simp [Value.cells, Value.oneCell']) (by simp [Value.cells]) ?_) | (refine xk_storeN 7 rfl rfl rfl (by kernel_rfl) (by simp [Value.cells, Value.oneCell']) (by simp [Value.cells]) ?_) | (refine xk_storeN 8 rfl rfl rfl (by kernel_rfl) (by simp [Value.cells, Value.oneCell']) (by simp [Value.cells]) ?_)); simp only [putN, Value.cells, List.set, List.take, List.drop, List.nil_append, List.append_nil, List.length_cons, List.length_nil, List.cons_append, Nat.reduceAdd]
        refine xk_assign rfl (by decide) ?_
        refine XK.nilN ?_
        refine XK.ret ?_
        refine XK.norm ?_
        have hpf : parseF (strOf t) = (0, s) := by unfold parseF; rw [hrd]; exact if_pos (Classical.not_not.1 hck)
        exact XK.retCT rfl (by kernel_rfl) rfl rfl (RdN.whole 1 rfl) rfl fun w1 st => ⟨⟨_, by rw [hpf], by rw [hpf]; exact (by
          have hl := slq_le (st.fresh_le (p := q) (by simp) hfr)
          exact ⟨_, _, _, _, _, _, _, _, _, _, _, _, rfl, r1.mono hl (fun _ _ => ClkR.mono hl), r2.mono hl (fun _ _ h => h), r3.mono hl (fun _ _ h => h), r4.mono hl (fun _ _ => DevR.mono hl)⟩)⟩, st.below (by simp)⟩

end Go.Proofs.YtgopaoidgcgalaaGreatDoor
/- The reference's Same, of two chips that are the same. -/
namespace Go.Proofs.YtgopaoidgcgalaaGreatDoor
set_option linter.all false
open Go.RowKit

theorem refIntsS_ok (l : List Int) (A B : Option Addr) (n c c2 : Nat) (w : World) (hs : SlS (all w) 1 A n (intCells l)) (hs2 : SlS (all w) 1 B n (intCells l)) (hn : n = l.length) (hn2 : n ≤ 1000000) :
    Calls Tryz.prog 30 #[.slice A n c, .slice B n c2] w (Rt (.bool true) w) := by
  refine XK.enter (vs := [.slice A n c, .slice B n c2]) Tryz.func30 rfl Tryz.ntmps30 (by simp) ?_
  refine XK.seq ?_

  refine XK.region ?_
  refine xk_assign rfl (by decide) ?_
  refine XK.nilN ?_
  refine XK.seq ?_
  refine XK.seq ?_

  refine XK.region ?_
  refine xk_move rfl (by decide) ?_
  refine xk_len (el := 3) (by kernel_rfl) rfl (by decide) ?_
  refine xk_move rfl (by decide) ?_
  refine xk_len (el := 3) (by kernel_rfl) rfl (by decide) ?_
  refine xk_neq rfl rfl (by decide) ?_
  refine XK.nilN ?_
  refine XK.if_ rfl (fun h => absurd rfl h) (fun h => ?_)
  ·
    refine XK.skip ?_
    refine XK.norm ?_
    refine XK.seq ?_
    refine XK.seq ?_

    refine XK.region ?_
    refine xk_assign rfl (by decide) ?_
    refine XK.nilN ?_
    refine XK.envS [(5, .int .i64 0), (4, .bool false), (1, .slice B n c2), (0, .slice A n c)] ?_
    refine XK.block ?_
    refine XK.loop (fun m e R H => ∃ i : Nat, i ≤ n ∧ m = n - i ∧ e = [(5, .int .i64 i), (4, .bool false), (1, .slice B n c2), (0, .slice A n c)] ∧ R = [all w] ∧ H = []) n ⟨0, by omega, rfl, rfl, rfl, rfl⟩ fun m e R H hI => ?_
    obtain ⟨i, hi, rfl, rfl, rfl, rfl⟩ := hI
    refine XK.seq ?_
    refine XK.seq ?_

    refine XK.region ?_
    refine xk_move rfl (by decide) ?_
    refine xk_move rfl (by decide) ?_
    refine xk_len (el := 3) (by kernel_rfl) rfl (by decide) ?_
    refine xk_lss rfl rfl (by decide) ?_
    refine XK.nilN ?_
    refine XK.if_ rfl (fun hil => ?_) (fun hil => ?_)
    ·
      refine XK.skip ?_
      refine XK.norm ?_
      refine XK.seq ?_
      refine XK.block ?_
      refine XK.seq ?_
      have hil' : i < n := by have h' : (i : Int) < (n : Int) := hil; omega
      obtain ⟨y, hy⟩ : ∃ y, l[i]? = some y := ⟨_, List.getElem?_eq_getElem (by omega)⟩
      obtain ⟨bI, oI, rfl, hcI⟩ := hs.intR (by omega)
      obtain ⟨bJ, oJ, rfl, hcJ⟩ := hs2.intR (by omega)
      have hcy := hcI i y hy
      have hcz := hcJ i y hy

      refine XK.draw 8 (by kernel_rfl) (by kernel_rfl) ?_
      refine XA.dA 0 rfl rfl rfl (does_move rfl) ?_
      refine XA.dA 1 rfl rfl rfl (does_move rfl) ?_
      refine XA.dA 2 rfl rfl rfl (does_at i (oI + i) (el := 3) (sz := 1) (by kernel_rfl) (by kernel_rfl) rfl rfl (by omega) (by omega) (by omega)) ?_
      refine XA.dA 3 rfl rfl rfl (does_load (by kernel_rfl) rfl (Rd.roc (by simp) hcy)) ?_
      refine XA.dA 4 rfl rfl rfl (does_move rfl) ?_
      refine XA.dA 5 rfl rfl rfl (does_move rfl) ?_
      refine XA.dA 6 rfl rfl rfl (does_at i (oJ + i) (el := 3) (sz := 1) (by kernel_rfl) (by kernel_rfl) rfl rfl (by omega) (by omega) (by omega)) ?_
      refine XA.dA 7 rfl rfl rfl (does_load (by kernel_rfl) rfl (Rd.roc (by simp) hcz)) ?_
      refine XA.next 8 rfl (by kernel_rfl) ?_
      refine xk_neq rfl rfl (by decide) ?_
      refine XA.bt ?_
      refine XA.done (by kernel_rfl) ?_
      refine XK.norm ?_
      refine XK.if_ rfl (fun h => absurd rfl h) (fun h => ?_)
      ·
        refine XK.skip ?_
        refine XK.norm ?_

        refine XK.region ?_
        refine xk_move rfl (by decide) ?_
        refine xk_add rfl rfl (wrap_in (by omega)) (by decide) ?_
        refine xk_assign rfl (by decide) ?_
        refine XK.nilN ?_
        exact XK.envS [(5, .int .i64 ((i : Int) + 1)), (4, .bool false), (1, .slice (some ⟨bJ, oJ, none⟩) n c2), (0, .slice (some ⟨bI, oI, none⟩) n c)] (XK.round (n - (i + 1)) (by omega) ⟨i + 1, by omega, rfl, rfl, rfl, rfl⟩)
    ·
      refine XK.exit ?_
      refine XK.norm ?_
      refine XK.seq ?_

      refine XK.region ?_
      refine xk_assign rfl (by decide) ?_
      refine XK.nilN ?_
      refine XK.ret ?_
      refine XK.norm ?_
      exact XK.ret1 rfl rfl fun w1 st => ⟨rfl, st.below (by simp)⟩

theorem refAlikeS_ok (d : Dev) (Ar An Ar2 An2 : Option Addr) (kr kn kr2 kn2 : Nat) (w : World) (hsr : SlS (all w) 2 Ar d.regs.length (d.regs.flatMap Rg.cells)) (hsr2 : SlS (all w) 2 Ar2 d.regs.length (d.regs.flatMap Rg.cells)) (hsn : SlS (all w) 1 An d.needs.length (intCells d.needs)) (hsn2 : SlS (all w) 1 An2 d.needs.length (intCells d.needs)) (hrb : d.regs.length ≤ 1000000) (hnb : d.needs.length ≤ 1000000) :
    Calls Tryz.prog 31 #[.agg #[.int .i64 d.clock, .int .i64 d.domain, .int .i64 d.reset, .int .u32 d.clamp, .slice Ar d.regs.length kr, .slice An d.needs.length kn], .agg #[.int .i64 d.clock, .int .i64 d.domain, .int .i64 d.reset, .int .u32 d.clamp, .slice Ar2 d.regs.length kr2, .slice An2 d.needs.length kn2]] w (Rt (.bool true) w) := by
  refine XK.enter (vs := [.agg #[.int .i64 d.clock, .int .i64 d.domain, .int .i64 d.reset, .int .u32 d.clamp, .slice Ar d.regs.length kr, .slice An d.needs.length kn], .agg #[.int .i64 d.clock, .int .i64 d.domain, .int .i64 d.reset, .int .u32 d.clamp, .slice Ar2 d.regs.length kr2, .slice An2 d.needs.length kn2]]) Tryz.func31 rfl Tryz.ntmps31 (by simp) ?_
  refine XK.seq ?_

  refine XK.region ?_
  refine xk_box rfl (by decide) fun g1 => ?_
  refine xk_box rfl (by decide) fun g2 => ?_
  refine xk_assign rfl (by decide) ?_
  refine XK.nilN ?_
  refine XK.seq ?_
  refine XK.seq ?_

  refine XK.region ?_
  refine xk_field (off := 0) (by kernel_rfl) rfl (by decide) ?_
  refine xk_ld rfl ?_
  refine xk_field (off := 0) (by kernel_rfl) rfl (by decide) ?_
  refine xk_ld rfl ?_
  refine xk_neq rfl rfl (by decide) ?_
  refine xk_move rfl (by decide) ?_
  refine xk_isV (t := 11) false rfl (by first | (exact decide_eq_true (by omega)) | (exact decide_eq_false (by omega)) | rfl | assumption | (simp_all; done)) ?_
  refine xk_guardT rfl rfl ?_; refine xk_field (off := 1) (by kernel_rfl) rfl (by decide) ?_
  refine xk_guardT rfl rfl ?_; refine xk_ld rfl ?_
  refine xk_guardT rfl rfl ?_; refine xk_field (off := 1) (by kernel_rfl) rfl (by decide) ?_
  refine xk_guardT rfl rfl ?_; refine xk_ld rfl ?_
  refine xk_guardT rfl rfl ?_; refine xk_neq rfl rfl (by decide) ?_
  (first | refine xk_pickT rfl rfl (by decide) ?_ | refine xk_pickF rfl rfl (by decide) ?_)
  refine xk_move rfl (by decide) ?_
  refine xk_isV (t := 18) false rfl (by first | (exact decide_eq_true (by omega)) | (exact decide_eq_false (by omega)) | rfl | assumption | (simp_all; done)) ?_
  refine xk_guardT rfl rfl ?_; refine xk_field (off := 2) (by kernel_rfl) rfl (by decide) ?_
  refine xk_guardT rfl rfl ?_; refine xk_ld rfl ?_
  refine xk_guardT rfl rfl ?_; refine xk_field (off := 2) (by kernel_rfl) rfl (by decide) ?_
  refine xk_guardT rfl rfl ?_; refine xk_ld rfl ?_
  refine xk_guardT rfl rfl ?_; refine xk_neq rfl rfl (by decide) ?_
  (first | refine xk_pickT rfl rfl (by decide) ?_ | refine xk_pickF rfl rfl (by decide) ?_)
  refine xk_move rfl (by decide) ?_
  refine xk_isV (t := 25) false rfl (by first | (exact decide_eq_true (by omega)) | (exact decide_eq_false (by omega)) | rfl | assumption | (simp_all; done)) ?_
  refine xk_guardT rfl rfl ?_; refine xk_field (off := 3) (by kernel_rfl) rfl (by decide) ?_
  refine xk_guardT rfl rfl ?_; refine xk_ld rfl ?_
  refine xk_guardT rfl rfl ?_; refine xk_field (off := 3) (by kernel_rfl) rfl (by decide) ?_
  refine xk_guardT rfl rfl ?_; refine xk_ld rfl ?_
  refine xk_guardT rfl rfl ?_; refine xk_neq rfl rfl (by decide) ?_
  (first | refine xk_pickT rfl rfl (by decide) ?_ | refine xk_pickF rfl rfl (by decide) ?_)
  refine xk_move rfl (by decide) ?_
  refine xk_isV (t := 32) false rfl (by first | (exact decide_eq_true (by omega)) | (exact decide_eq_false (by omega)) | rfl | assumption | (simp_all; done)) ?_
  refine xk_guardT rfl rfl ?_; refine xk_field (off := 4) (by kernel_rfl) rfl (by decide) ?_
  refine xk_guardT rfl rfl ?_; refine xk_ld rfl ?_
  refine xk_guardT rfl rfl ?_; refine xk_len (el := 57) (by kernel_rfl) rfl (by decide) ?_
  refine xk_guardT rfl rfl ?_; refine xk_field (off := 4) (by kernel_rfl) rfl (by decide) ?_
  refine xk_guardT rfl rfl ?_; refine xk_ld rfl ?_
  refine xk_guardT rfl rfl ?_; refine xk_len (el := 57) (by kernel_rfl) rfl (by decide) ?_
  refine xk_guardT rfl rfl ?_; refine xk_neq rfl rfl (by decide) ?_
  (first | refine xk_pickT rfl rfl (by decide) ?_ | refine xk_pickF rfl rfl (by decide) ?_)
  refine xk_move rfl (by decide) ?_
  refine xk_isV (t := 41) false rfl (by first | (exact decide_eq_true (by omega)) | (exact decide_eq_false (by omega)) | rfl | assumption | (simp_all; done)) ?_
  refine xk_guardT rfl rfl ?_; refine xk_field (off := 5) (by kernel_rfl) rfl (by decide) ?_
  refine xk_guardT rfl rfl ?_; refine xk_ld rfl ?_
  refine xk_guardT rfl rfl ?_; refine xk_field (off := 5) (by kernel_rfl) rfl (by decide) ?_
  refine xk_guardT rfl rfl ?_; refine xk_ld rfl ?_
  refine xk_guardT rfl rfl ?_; refine xk_callR (f := 30) (fi := []) (ca := []) (by kernel_rfl) rfl rfl (by decide) (fun w1 st => refIntsS_ok d.needs An An2 d.needs.length kn kn2 w1 (hsn.le (all_le (st.started (by simp)))) (hsn2.le (all_le (st.started (by simp)))) rfl hnb) ?_
  refine xk_guardT rfl rfl ?_; refine xk_not rfl (by decide) ?_
  (first | refine xk_pickT rfl rfl (by decide) ?_ | refine xk_pickF rfl rfl (by decide) ?_)
  refine XK.nilN ?_
  refine xk_isV (t := 48) false rfl (by first | (exact decide_eq_true (by omega)) | (exact decide_eq_false (by omega)) | rfl | assumption | (simp_all; done)) ?_
  refine XK.cond rfl (fun h => by cases h) (fun _ => ?_)
  refine XK.skip ?_
  refine XK.norm ?_
  refine XK.seq ?_
  refine XK.seq ?_

  refine XK.region ?_
  refine xk_assign rfl (by decide) ?_
  refine XK.nilN ?_
  refine XK.envS [(5, .int .i64 0), (4, .bool false), (3, .pointer (some ⟨g2, 0, none⟩)), (2, .pointer (some ⟨g1, 0, none⟩))] ?_
  refine XK.block ?_
  refine XK.loop (fun m e R H => ∃ i : Nat, i ≤ d.regs.length ∧ m = d.regs.length - i ∧ e = [(5, .int .i64 i), (4, .bool false), (3, .pointer (some ⟨g2, 0, none⟩)), (2, .pointer (some ⟨g1, 0, none⟩))] ∧ R = [all w] ∧ H = [HP.blk g2 51 [.int .i64 d.clock, .int .i64 d.domain, .int .i64 d.reset, .int .u32 d.clamp, .slice Ar2 d.regs.length kr2, .slice An2 d.needs.length kn2], HP.blk g1 51 [.int .i64 d.clock, .int .i64 d.domain, .int .i64 d.reset, .int .u32 d.clamp, .slice Ar d.regs.length kr, .slice An d.needs.length kn]]) d.regs.length ⟨0, by omega, rfl, rfl, rfl, rfl⟩ fun m e R H hI => ?_
  obtain ⟨i, hi, rfl, rfl, rfl, rfl⟩ := hI
  refine XK.seq ?_
  refine XK.seq ?_

  refine XK.region ?_
  refine xk_move rfl (by decide) ?_
  refine xk_field (off := 4) (by kernel_rfl) rfl (by decide) ?_
  refine xk_ld rfl ?_
  refine xk_len (el := 57) (by kernel_rfl) rfl (by decide) ?_
  refine xk_lss rfl rfl (by decide) ?_
  refine XK.nilN ?_
  refine XK.if_ rfl (fun hil => ?_) (fun hil => ?_)
  ·
    refine XK.skip ?_
    refine XK.norm ?_
    refine XK.seq ?_
    refine XK.block ?_
    refine XK.seq ?_
    have hil' : i < d.regs.length := by omega
    obtain ⟨r0, hr0⟩ : ∃ r0, d.regs[i]? = some r0 := ⟨_, List.getElem?_eq_getElem (by omega)⟩
    obtain ⟨b1, o1, rfl, hro⟩ := SlS.row (show SlS (all w) 2 Ar d.regs.length (d.regs.map Rg.cells).flatten by rw [← List.flatMap_def]; exact hsr) (by intro r hr; rw [List.mem_map] at hr; obtain ⟨x, _, rfl⟩ := hr; rfl) (k := i) (r := [.int .u32 r0.reset, .bool r0.kept]) (by rw [List.getElem?_map, hr0]; rfl) (by omega)
    obtain ⟨b2, o2, rfl, hro2⟩ := SlS.row (show SlS (all w) 2 Ar2 d.regs.length (d.regs.map Rg.cells).flatten by rw [← List.flatMap_def]; exact hsr2) (by intro r hr; rw [List.mem_map] at hr; obtain ⟨x, _, rfl⟩ := hr; rfl) (k := i) (r := [.int .u32 r0.reset, .bool r0.kept]) (by rw [List.getElem?_map, hr0]; rfl) (by omega)

    refine XK.draw 26 (by kernel_rfl) (by kernel_rfl) ?_
    refine XA.dA 0 rfl rfl rfl (does_field (off := 4) (by kernel_rfl) rfl) ?_
    refine XA.dA 1 rfl rfl rfl (does_ld rfl) ?_
    refine XA.dA 2 rfl rfl rfl (does_move rfl) ?_
    refine XA.dA 3 rfl rfl rfl (does_at i (o1 + i * 2) (el := 57) (sz := 2) (by kernel_rfl) (by kernel_rfl) rfl rfl (by omega) (by omega) (by omega)) ?_
    refine XA.dA 4 rfl rfl rfl (does_field (off := 0) (by kernel_rfl) rfl) ?_
    refine XA.dA 5 rfl rfl rfl (does_load (by kernel_rfl) rfl (Rd.roc (by simp) (hro.at_ (j := 0) rfl))) ?_
    refine XA.dA 6 rfl rfl rfl (does_field (off := 4) (by kernel_rfl) rfl) ?_
    refine XA.dA 7 rfl rfl rfl (does_ld rfl) ?_
    refine XA.dA 8 rfl rfl rfl (does_move rfl) ?_
    refine XA.dA 9 rfl rfl rfl (does_at i (o2 + i * 2) (el := 57) (sz := 2) (by kernel_rfl) (by kernel_rfl) rfl rfl (by omega) (by omega) (by omega)) ?_
    refine XA.dA 10 rfl rfl rfl (does_field (off := 0) (by kernel_rfl) rfl) ?_
    refine XA.dA 11 rfl rfl rfl (does_load (by kernel_rfl) rfl (Rd.roc (by simp) (hro2.at_ (j := 0) rfl))) ?_
    refine XA.dA 12 rfl rfl rfl (does_neq rfl rfl) ?_
    refine XA.dA 13 rfl rfl rfl (does_move rfl) ?_
    refine XA.split (t := 69) rfl (fun hg => absurd rfl hg) (fun hg => ?_)

    ·
      refine XA.dT 14 rfl rfl rfl (does_field (off := 4) (by kernel_rfl) rfl) ?_
      refine XA.dT 15 rfl rfl rfl (does_ld rfl) ?_
      refine XA.dT 16 rfl rfl rfl (does_move rfl) ?_
      refine XA.dT 17 rfl rfl rfl (does_at i (o1 + i * 2) (el := 57) (sz := 2) (by kernel_rfl) (by kernel_rfl) rfl rfl (by omega) (by omega) (by omega)) ?_
      refine XA.dT 18 rfl rfl rfl (does_field (off := 1) (by kernel_rfl) rfl) ?_
      refine XA.dT 19 rfl rfl rfl (does_load (by kernel_rfl) rfl (Rd.roc (by simp) (hro.at_ (j := 1) rfl))) ?_
      refine XA.dT 20 rfl rfl rfl (does_field (off := 4) (by kernel_rfl) rfl) ?_
      refine XA.dT 21 rfl rfl rfl (does_ld rfl) ?_
      refine XA.dT 22 rfl rfl rfl (does_move rfl) ?_
      refine XA.dT 23 rfl rfl rfl (does_at i (o2 + i * 2) (el := 57) (sz := 2) (by kernel_rfl) (by kernel_rfl) rfl rfl (by omega) (by omega) (by omega)) ?_
      refine XA.dT 24 rfl rfl rfl (does_field (off := 1) (by kernel_rfl) rfl) ?_
      refine XA.dT 25 rfl rfl rfl (does_load (by kernel_rfl) rfl (Rd.roc (by simp) (hro2.at_ (j := 1) rfl))) ?_
      refine XA.next 26 rfl (by kernel_rfl) ?_
      refine xk_guardT rfl rfl ?_; refine xk_neqB (by kernel_rfl) rfl rfl (by decide) ?_
      refine XA.bt ?_
      refine XA.next 27 rfl (by kernel_rfl) ?_
      (first | refine xk_pickT rfl rfl (by decide) ?_ | refine xk_pickF rfl rfl (by decide) ?_)
      refine XA.bt ?_
      refine XA.done (by kernel_rfl) ?_
      refine XK.norm ?_
      refine XK.if_ rfl (fun h => absurd rfl h) (fun h => ?_)

      ·
        refine XK.skip ?_
        refine XK.norm ?_

        refine XK.region ?_
        refine xk_move rfl (by decide) ?_
        refine xk_add rfl rfl (wrap_in (by omega)) (by decide) ?_
        refine xk_assign rfl (by decide) ?_
        refine XK.nilN ?_
        exact XK.envS [(5, .int .i64 ((i : Int) + 1)), (4, .bool false), (3, .pointer (some ⟨g2, 0, none⟩)), (2, .pointer (some ⟨g1, 0, none⟩))] (XK.round (d.regs.length - (i + 1)) (by omega) ⟨i + 1, by omega, rfl, rfl, rfl, rfl⟩)
  ·
    refine XK.exit ?_
    refine XK.norm ?_
    refine XK.seq ?_

    refine XK.region ?_
    refine xk_assign rfl (by decide) ?_
    refine XK.nilN ?_
    refine XK.ret ?_
    refine XK.norm ?_
    exact XK.ret1 rfl rfl fun w1 st => ⟨rfl, st.below (by simp)⟩

set_option maxHeartbeats 1000000 in
theorem refSameS_ok (s : Soc) (A1 A2 A3 A4 B1 B2 B3 B4 : Option Addr) (n1 k1 j1 n2 k2 j2 n3 k3 j3 n4 k4 j4 : Nat) (w : World) (hW : SocW w s A1 n1 A2 n2 A3 n3 A4 n4) (hV : SocW w s B1 n1 B2 n2 B3 n3 B4 n4) (hreg : ∀ d ∈ s.devs, d.regs.length ≤ 1000000) :
    Calls Tryz.prog 15 #[.agg #[.slice A1 n1 k1, .slice A2 n2 k2, .slice A3 n3 k3, .slice A4 n4 k4], .agg #[.slice B1 n1 j1, .slice B2 n2 j2, .slice B3 n3 j3, .slice B4 n4 j4]] w (Rt (.bool true) w) := by
  have hn1 := hW.len1
  have hn2 := hW.len2
  have hn3 := hW.len3
  have hn4 := hW.len4
  have hsm := hW.small
  unfold Soc.small at hsm
  obtain ⟨hs1, hs2, hs3, hs4, hs5, hs6⟩ := hsm
  refine XK.enter (vs := [.agg #[.slice A1 n1 k1, .slice A2 n2 k2, .slice A3 n3 k3, .slice A4 n4 k4], .agg #[.slice B1 n1 j1, .slice B2 n2 j2, .slice B3 n3 j3, .slice B4 n4 j4]]) Tryz.func15 rfl Tryz.ntmps15 (by simp) ?_
  refine XK.seq ?_

  refine XK.region ?_
  refine xk_box rfl (by decide) fun g1 => ?_
  refine xk_box rfl (by decide) fun g2 => ?_
  refine xk_assign rfl (by decide) ?_
  refine XK.nilN ?_
  refine XK.seq ?_
  refine XK.seq ?_

  refine XK.region ?_
  refine xk_field (off := 0) (by kernel_rfl) rfl (by decide) ?_
  refine xk_ld rfl ?_
  refine xk_len (el := 55) (by kernel_rfl) rfl (by decide) ?_
  refine xk_field (off := 0) (by kernel_rfl) rfl (by decide) ?_
  refine xk_ld rfl ?_
  refine xk_len (el := 55) (by kernel_rfl) rfl (by decide) ?_
  refine xk_neq rfl rfl (by decide) ?_
  refine xk_move rfl (by decide) ?_
  refine xk_isV (t := 18) false rfl (by first | (exact decide_eq_true (by omega)) | (exact decide_eq_false (by omega)) | rfl | assumption | (simp_all; done)) ?_
  refine xk_guardT rfl rfl ?_; refine xk_field (off := 1) (by kernel_rfl) rfl (by decide) ?_
  refine xk_guardT rfl rfl ?_; refine xk_ld rfl ?_
  refine xk_guardT rfl rfl ?_; refine xk_len (el := 69) (by kernel_rfl) rfl (by decide) ?_
  refine xk_guardT rfl rfl ?_; refine xk_field (off := 1) (by kernel_rfl) rfl (by decide) ?_
  refine xk_guardT rfl rfl ?_; refine xk_ld rfl ?_
  refine xk_guardT rfl rfl ?_; refine xk_len (el := 69) (by kernel_rfl) rfl (by decide) ?_
  refine xk_guardT rfl rfl ?_; refine xk_neq rfl rfl (by decide) ?_
  (first | refine xk_pickT rfl rfl (by decide) ?_ | refine xk_pickF rfl rfl (by decide) ?_)
  refine xk_move rfl (by decide) ?_
  refine xk_isV (t := 27) false rfl (by first | (exact decide_eq_true (by omega)) | (exact decide_eq_false (by omega)) | rfl | assumption | (simp_all; done)) ?_
  refine xk_guardT rfl rfl ?_; refine xk_field (off := 2) (by kernel_rfl) rfl (by decide) ?_
  refine xk_guardT rfl rfl ?_; refine xk_ld rfl ?_
  refine xk_guardT rfl rfl ?_; refine xk_len (el := 71) (by kernel_rfl) rfl (by decide) ?_
  refine xk_guardT rfl rfl ?_; refine xk_field (off := 2) (by kernel_rfl) rfl (by decide) ?_
  refine xk_guardT rfl rfl ?_; refine xk_ld rfl ?_
  refine xk_guardT rfl rfl ?_; refine xk_len (el := 71) (by kernel_rfl) rfl (by decide) ?_
  refine xk_guardT rfl rfl ?_; refine xk_neq rfl rfl (by decide) ?_
  (first | refine xk_pickT rfl rfl (by decide) ?_ | refine xk_pickF rfl rfl (by decide) ?_)
  refine xk_move rfl (by decide) ?_
  refine xk_isV (t := 36) false rfl (by first | (exact decide_eq_true (by omega)) | (exact decide_eq_false (by omega)) | rfl | assumption | (simp_all; done)) ?_
  refine xk_guardT rfl rfl ?_; refine xk_field (off := 3) (by kernel_rfl) rfl (by decide) ?_
  refine xk_guardT rfl rfl ?_; refine xk_ld rfl ?_
  refine xk_guardT rfl rfl ?_; refine xk_len (el := 51) (by kernel_rfl) rfl (by decide) ?_
  refine xk_guardT rfl rfl ?_; refine xk_field (off := 3) (by kernel_rfl) rfl (by decide) ?_
  refine xk_guardT rfl rfl ?_; refine xk_ld rfl ?_
  refine xk_guardT rfl rfl ?_; refine xk_len (el := 51) (by kernel_rfl) rfl (by decide) ?_
  refine xk_guardT rfl rfl ?_; refine xk_neq rfl rfl (by decide) ?_
  (first | refine xk_pickT rfl rfl (by decide) ?_ | refine xk_pickF rfl rfl (by decide) ?_)
  refine XK.nilN ?_
  refine xk_isV (t := 44) false rfl (by first | (exact decide_eq_true (by omega)) | (exact decide_eq_false (by omega)) | rfl | assumption | (simp_all; done)) ?_
  refine XK.cond rfl (fun h => by cases h) (fun _ => ?_)
  refine XK.skip ?_
  refine XK.norm ?_
  refine XK.seq ?_
  refine XK.seq ?_

  refine XK.region ?_
  refine xk_assign rfl (by decide) ?_
  refine XK.nilN ?_
  refine XK.envS [(5, .int .i64 0), (4, .bool false), (3, .pointer (some ⟨g2, 0, none⟩)), (2, .pointer (some ⟨g1, 0, none⟩))] ?_
  refine XK.block ?_
  refine XK.loop (fun m e R H => ∃ i : Nat, i ≤ n1 ∧ m = n1 - i ∧ e = [(5, .int .i64 i), (4, .bool false), (3, .pointer (some ⟨g2, 0, none⟩)), (2, .pointer (some ⟨g1, 0, none⟩))] ∧ R = [all w] ∧ H = [HP.blk g2 28 [.slice B1 n1 j1, .slice B2 n2 j2, .slice B3 n3 j3, .slice B4 n4 j4], HP.blk g1 28 [.slice A1 n1 k1, .slice A2 n2 k2, .slice A3 n3 k3, .slice A4 n4 k4]]) n1 ⟨0, by omega, rfl, rfl, rfl, rfl⟩ fun m e R H hI => ?_
  obtain ⟨i, hi, rfl, rfl, rfl, rfl⟩ := hI
  refine XK.seq ?_
  refine XK.seq ?_

  refine XK.region ?_
  refine xk_move rfl (by decide) ?_
  refine xk_field (off := 0) (by kernel_rfl) rfl (by decide) ?_
  refine xk_ld rfl ?_
  refine xk_len (el := 55) (by kernel_rfl) rfl (by decide) ?_
  refine xk_lss rfl rfl (by decide) ?_
  refine XK.nilN ?_
  refine XK.if_ rfl (fun hil => ?_) (fun hil => ?_)
  ·
    refine XK.skip ?_
    refine XK.norm ?_
    refine XK.seq ?_
    refine XK.block ?_
    refine XK.seq ?_
    have hil' : i < n1 := by omega
    obtain ⟨x, hx⟩ : ∃ x, s.clocks[i]? = some x := ⟨_, List.getElem?_eq_getElem (by omega)⟩
    obtain ⟨b1, o1, r1, rfl, _, hR1, hro1⟩ := hW.clk.row hx
    obtain ⟨b2, o2, r2, rfl, _, hR2, hro2⟩ := hV.clk.row hx
    obtain ⟨Af, nf, kf, rfl, hnf, hsf⟩ := hR1
    obtain ⟨Bf, mf, lf, rfl, hmf, htf⟩ := hR2
    have hsb := hs5 x (List.mem_of_getElem? hx)
    obtain rfl : mf = nf := by omega

    refine XK.region ?_
    refine xk_field (off := 0) (by kernel_rfl) rfl (by decide) ?_
    refine xk_ld rfl ?_
    refine xk_move rfl (by decide) ?_
    refine xk_at i (o1 + i * 6) (el := 55) (sz := 6) (by kernel_rfl) (by kernel_rfl) rfl rfl (by omega) (by omega) (by omega) (by decide) ?_
    refine xk_loadN 6 (by kernel_rfl) rfl (RdN.of (vs := [.int .u8 x.kind, .slice Af mf kf, .int .u64 x.rate, .int .i64 x.mul, .int .i64 x.div, .int .i64 x.lock]) fun j v hj => Rd.roc (by simp) (hro1.at_ (j := j) hj)) rfl (by decide) ?_
    refine xk_alloc (cs := [.int .u8 0, .slice none 0 0, .int .u64 0, .int .i64 0, .int .i64 0, .int .i64 0]) (zeroB_of (by kernel_rfl)) (by decide) fun g3 => ?_
    (first | (refine xk_storeN 0 rfl rfl rfl (by kernel_rfl) (by simp [Value.cells, Value.oneCell']) (by simp [Value.cells]) ?_) | (refine xk_storeN 1 rfl rfl rfl (by kernel_rfl) (by simp [Value.cells, Value.oneCell']) (by simp [Value.cells]) ?_) | (refine xk_storeN 2 rfl rfl rfl (by kernel_rfl) (by simp [Value.cells, Value.oneCell']) (by simp [Value.cells]) ?_) | (refine xk_storeN 3 rfl rfl rfl (by kernel_rfl) (by simp [Value.cells, Value.oneCell']) (by simp [Value.cells]) ?_) | (refine xk_storeN 4 rfl rfl rfl (by kernel_rfl) (by simp [Value.cells, Value.oneCell']) (by simp [Value.cells]) ?_) | (refine xk_storeN 5 rfl rfl rfl (by kernel_rfl) (by simp [Value.cells, Value.oneCell']) (by simp [Value.cells]) ?_) | (refine xk_storeN 6 rfl rfl rfl (by kernel_rfl) (by simp [Value.cells, Value.oneCell']) (by simp [Value.cells]) ?_) | (refine xk_storeN 7 rfl rfl rfl (by kernel_rfl) (by simp [Value.cells, Value.oneCell']) (by simp [Value.cells]) ?_) | (refine xk_storeN 8 rfl rfl rfl (by kernel_rfl) (by simp [Value.cells, Value.oneCell']) (by simp [Value.cells]) ?_)); simp only [putN, Value.cells, List.set, List.take, List.drop, List.nil_append, List.append_nil, List.length_cons, List.length_nil, List.cons_append, Nat.reduceAdd]
    refine XK.nilN ?_
    refine XK.seq ?_

    refine XK.region ?_
    refine xk_field (off := 0) (by kernel_rfl) rfl (by decide) ?_
    refine xk_ld rfl ?_
    refine xk_move rfl (by decide) ?_
    refine xk_at i (o2 + i * 6) (el := 55) (sz := 6) (by kernel_rfl) (by kernel_rfl) rfl rfl (by omega) (by omega) (by omega) (by decide) ?_
    refine xk_loadN 6 (by kernel_rfl) rfl (RdN.of (vs := [.int .u8 x.kind, .slice Bf mf lf, .int .u64 x.rate, .int .i64 x.mul, .int .i64 x.div, .int .i64 x.lock]) fun j v hj => Rd.roc (by simp) (hro2.at_ (j := j) hj)) rfl (by decide) ?_
    refine xk_alloc (cs := [.int .u8 0, .slice none 0 0, .int .u64 0, .int .i64 0, .int .i64 0, .int .i64 0]) (zeroB_of (by kernel_rfl)) (by decide) fun g4 => ?_
    (first | (refine xk_storeN 0 rfl rfl rfl (by kernel_rfl) (by simp [Value.cells, Value.oneCell']) (by simp [Value.cells]) ?_) | (refine xk_storeN 1 rfl rfl rfl (by kernel_rfl) (by simp [Value.cells, Value.oneCell']) (by simp [Value.cells]) ?_) | (refine xk_storeN 2 rfl rfl rfl (by kernel_rfl) (by simp [Value.cells, Value.oneCell']) (by simp [Value.cells]) ?_) | (refine xk_storeN 3 rfl rfl rfl (by kernel_rfl) (by simp [Value.cells, Value.oneCell']) (by simp [Value.cells]) ?_) | (refine xk_storeN 4 rfl rfl rfl (by kernel_rfl) (by simp [Value.cells, Value.oneCell']) (by simp [Value.cells]) ?_) | (refine xk_storeN 5 rfl rfl rfl (by kernel_rfl) (by simp [Value.cells, Value.oneCell']) (by simp [Value.cells]) ?_) | (refine xk_storeN 6 rfl rfl rfl (by kernel_rfl) (by simp [Value.cells, Value.oneCell']) (by simp [Value.cells]) ?_) | (refine xk_storeN 7 rfl rfl rfl (by kernel_rfl) (by simp [Value.cells, Value.oneCell']) (by simp [Value.cells]) ?_) | (refine xk_storeN 8 rfl rfl rfl (by kernel_rfl) (by simp [Value.cells, Value.oneCell']) (by simp [Value.cells]) ?_)); simp only [putN, Value.cells, List.set, List.take, List.drop, List.nil_append, List.append_nil, List.length_cons, List.length_nil, List.cons_append, Nat.reduceAdd]
    refine XK.nilN ?_
    refine XK.seq ?_

    refine XK.region ?_
    refine xk_field (off := 0) (by kernel_rfl) rfl (by decide) ?_
    refine xk_ld rfl ?_
    refine xk_field (off := 0) (by kernel_rfl) rfl (by decide) ?_
    refine xk_ld rfl ?_
    refine xk_neq rfl rfl (by decide) ?_
    refine xk_move rfl (by decide) ?_
    refine xk_isV (t := 67) false rfl (by first | (exact decide_eq_true (by omega)) | (exact decide_eq_false (by omega)) | rfl | assumption | (simp_all; done)) ?_
    refine xk_guardT rfl rfl ?_; refine xk_field (off := 2) (by kernel_rfl) rfl (by decide) ?_
    refine xk_guardT rfl rfl ?_; refine xk_ld rfl ?_
    refine xk_guardT rfl rfl ?_; refine xk_field (off := 2) (by kernel_rfl) rfl (by decide) ?_
    refine xk_guardT rfl rfl ?_; refine xk_ld rfl ?_
    refine xk_guardT rfl rfl ?_; refine xk_neq rfl rfl (by decide) ?_
    (first | refine xk_pickT rfl rfl (by decide) ?_ | refine xk_pickF rfl rfl (by decide) ?_)
    refine xk_move rfl (by decide) ?_
    refine xk_isV (t := 74) false rfl (by first | (exact decide_eq_true (by omega)) | (exact decide_eq_false (by omega)) | rfl | assumption | (simp_all; done)) ?_
    refine xk_guardT rfl rfl ?_; refine xk_field (off := 3) (by kernel_rfl) rfl (by decide) ?_
    refine xk_guardT rfl rfl ?_; refine xk_ld rfl ?_
    refine xk_guardT rfl rfl ?_; refine xk_field (off := 3) (by kernel_rfl) rfl (by decide) ?_
    refine xk_guardT rfl rfl ?_; refine xk_ld rfl ?_
    refine xk_guardT rfl rfl ?_; refine xk_neq rfl rfl (by decide) ?_
    (first | refine xk_pickT rfl rfl (by decide) ?_ | refine xk_pickF rfl rfl (by decide) ?_)
    refine xk_move rfl (by decide) ?_
    refine xk_isV (t := 81) false rfl (by first | (exact decide_eq_true (by omega)) | (exact decide_eq_false (by omega)) | rfl | assumption | (simp_all; done)) ?_
    refine xk_guardT rfl rfl ?_; refine xk_field (off := 4) (by kernel_rfl) rfl (by decide) ?_
    refine xk_guardT rfl rfl ?_; refine xk_ld rfl ?_
    refine xk_guardT rfl rfl ?_; refine xk_field (off := 4) (by kernel_rfl) rfl (by decide) ?_
    refine xk_guardT rfl rfl ?_; refine xk_ld rfl ?_
    refine xk_guardT rfl rfl ?_; refine xk_neq rfl rfl (by decide) ?_
    (first | refine xk_pickT rfl rfl (by decide) ?_ | refine xk_pickF rfl rfl (by decide) ?_)
    refine xk_move rfl (by decide) ?_
    refine xk_isV (t := 88) false rfl (by first | (exact decide_eq_true (by omega)) | (exact decide_eq_false (by omega)) | rfl | assumption | (simp_all; done)) ?_
    refine xk_guardT rfl rfl ?_; refine xk_field (off := 5) (by kernel_rfl) rfl (by decide) ?_
    refine xk_guardT rfl rfl ?_; refine xk_ld rfl ?_
    refine xk_guardT rfl rfl ?_; refine xk_field (off := 5) (by kernel_rfl) rfl (by decide) ?_
    refine xk_guardT rfl rfl ?_; refine xk_ld rfl ?_
    refine xk_guardT rfl rfl ?_; refine xk_neq rfl rfl (by decide) ?_
    (first | refine xk_pickT rfl rfl (by decide) ?_ | refine xk_pickF rfl rfl (by decide) ?_)
    refine xk_move rfl (by decide) ?_
    refine xk_isV (t := 95) false rfl (by first | (exact decide_eq_true (by omega)) | (exact decide_eq_false (by omega)) | rfl | assumption | (simp_all; done)) ?_
    refine xk_guardT rfl rfl ?_; refine xk_field (off := 1) (by kernel_rfl) rfl (by decide) ?_
    refine xk_guardT rfl rfl ?_; refine xk_ld rfl ?_
    refine xk_guardT rfl rfl ?_; refine xk_field (off := 1) (by kernel_rfl) rfl (by decide) ?_
    refine xk_guardT rfl rfl ?_; refine xk_ld rfl ?_
    refine xk_guardT rfl rfl ?_; refine xk_callR (f := 30) (fi := []) (ca := []) (by kernel_rfl) rfl rfl (by decide) (fun w1 st => refIntsS_ok x.src Af Bf mf kf lf w1 (SlS.le hsf (all_le (st.started (by simp)))) (SlS.le htf (all_le (st.started (by simp)))) hmf (by omega)) ?_
    refine xk_guardT rfl rfl ?_; refine xk_not rfl (by decide) ?_
    (first | refine xk_pickT rfl rfl (by decide) ?_ | refine xk_pickF rfl rfl (by decide) ?_)
    refine XK.nilN ?_
    refine xk_isV (t := 102) false rfl (by first | (exact decide_eq_true (by omega)) | (exact decide_eq_false (by omega)) | rfl | assumption | (simp_all; done)) ?_
    refine XK.cond rfl (fun h => by cases h) (fun _ => ?_)
    refine XK.skip ?_
    refine XK.norm ?_

    refine XK.region ?_
    refine xk_move rfl (by decide) ?_
    refine xk_add rfl rfl (wrap_in (by omega)) (by decide) ?_
    refine xk_assign rfl (by decide) ?_
    refine XK.nilN ?_
    exact XK.weak [2, 3] rfl (by decide) (fun _ h => h) (XK.envS [(5, .int .i64 ((i : Int) + 1)), (4, .bool false), (3, .pointer (some ⟨g2, 0, none⟩)), (2, .pointer (some ⟨g1, 0, none⟩))] (XK.round (n1 - (i + 1)) (by omega) ⟨i + 1, by omega, rfl, rfl, rfl, rfl⟩))
  ·
    refine XK.exit ?_
    refine XK.norm ?_
    refine XK.seq ?_
    refine XK.seq ?_

    refine XK.region ?_
    refine xk_assign rfl (by decide) ?_
    refine XK.nilN ?_
    refine XK.envS [(8, .int .i64 0), (4, .bool false), (3, .pointer (some ⟨g2, 0, none⟩)), (2, .pointer (some ⟨g1, 0, none⟩))] ?_
    refine XK.block ?_
    refine XK.loop (fun m e R H => ∃ i : Nat, i ≤ n2 ∧ m = n2 - i ∧ e = [(8, .int .i64 i), (4, .bool false), (3, .pointer (some ⟨g2, 0, none⟩)), (2, .pointer (some ⟨g1, 0, none⟩))] ∧ R = [all w] ∧ H = [HP.blk g2 28 [.slice B1 n1 j1, .slice B2 n2 j2, .slice B3 n3 j3, .slice B4 n4 j4], HP.blk g1 28 [.slice A1 n1 k1, .slice A2 n2 k2, .slice A3 n3 k3, .slice A4 n4 k4]]) n2 ⟨0, by omega, rfl, rfl, rfl, rfl⟩ fun m e R H hI => ?_
    obtain ⟨i, hi, rfl, rfl, rfl, rfl⟩ := hI
    refine XK.seq ?_
    refine XK.seq ?_

    refine XK.region ?_
    refine xk_move rfl (by decide) ?_
    refine xk_field (off := 1) (by kernel_rfl) rfl (by decide) ?_
    refine xk_ld rfl ?_
    refine xk_len (el := 69) (by kernel_rfl) rfl (by decide) ?_
    refine xk_lss rfl rfl (by decide) ?_
    refine XK.nilN ?_
    refine XK.if_ rfl (fun hil => ?_) (fun hil => ?_)
    ·
      refine XK.skip ?_
      refine XK.norm ?_
      refine XK.seq ?_
      refine XK.block ?_
      refine XK.seq ?_
      have hil' : i < n2 := by omega
      obtain ⟨x, hx⟩ : ∃ x, s.domains[i]? = some x := ⟨_, List.getElem?_eq_getElem (by omega)⟩
      obtain ⟨b1, o1, r1, rfl, _, hR1, hro1⟩ := hW.dom.row hx
      obtain ⟨b2, o2, r2, rfl, _, hR2, hro2⟩ := hV.dom.row hx
      obtain rfl := hR1
      obtain rfl := hR2

      refine XK.draw 41 (by kernel_rfl) (by kernel_rfl) ?_
      refine XA.dA 0 rfl rfl rfl (does_field (off := 1) (by kernel_rfl) rfl) ?_
      refine XA.dA 1 rfl rfl rfl (does_ld rfl) ?_
      refine XA.dA 2 rfl rfl rfl (does_move rfl) ?_
      refine XA.dA 3 rfl rfl rfl (does_at i (o1 + i * 3) (el := 69) (sz := 3) (by kernel_rfl) (by kernel_rfl) rfl rfl (by omega) (by omega) (by omega)) ?_
      refine XA.dA 4 rfl rfl rfl (does_field (off := 0) (by kernel_rfl) rfl) ?_
      refine XA.dA 5 rfl rfl rfl (does_load (by kernel_rfl) rfl (Rd.roc (by simp) (hro1.at_ (j := 0) rfl))) ?_
      refine XA.dA 6 rfl rfl rfl (does_field (off := 1) (by kernel_rfl) rfl) ?_
      refine XA.dA 7 rfl rfl rfl (does_ld rfl) ?_
      refine XA.dA 8 rfl rfl rfl (does_move rfl) ?_
      refine XA.dA 9 rfl rfl rfl (does_at i (o2 + i * 3) (el := 69) (sz := 3) (by kernel_rfl) (by kernel_rfl) rfl rfl (by omega) (by omega) (by omega)) ?_
      refine XA.dA 10 rfl rfl rfl (does_field (off := 0) (by kernel_rfl) rfl) ?_
      refine XA.dA 11 rfl rfl rfl (does_load (by kernel_rfl) rfl (Rd.roc (by simp) (hro2.at_ (j := 0) rfl))) ?_
      refine XA.dA 12 rfl rfl rfl (does_neq rfl rfl) ?_
      refine XA.dA 13 rfl rfl rfl (does_move rfl) ?_
      refine XA.split (t := 123) rfl (fun hg => absurd rfl hg) (fun hg => ?_)

      ·
        refine XA.dT 14 rfl rfl rfl (does_field (off := 1) (by kernel_rfl) rfl) ?_
        refine XA.dT 15 rfl rfl rfl (does_ld rfl) ?_
        refine XA.dT 16 rfl rfl rfl (does_move rfl) ?_
        refine XA.dT 17 rfl rfl rfl (does_at i (o1 + i * 3) (el := 69) (sz := 3) (by kernel_rfl) (by kernel_rfl) rfl rfl (by omega) (by omega) (by omega)) ?_
        refine XA.dT 18 rfl rfl rfl (does_field (off := 1) (by kernel_rfl) rfl) ?_
        refine XA.dT 19 rfl rfl rfl (does_load (by kernel_rfl) rfl (Rd.roc (by simp) (hro1.at_ (j := 1) rfl))) ?_
        refine XA.dT 20 rfl rfl rfl (does_field (off := 1) (by kernel_rfl) rfl) ?_
        refine XA.dT 21 rfl rfl rfl (does_ld rfl) ?_
        refine XA.dT 22 rfl rfl rfl (does_move rfl) ?_
        refine XA.dT 23 rfl rfl rfl (does_at i (o2 + i * 3) (el := 69) (sz := 3) (by kernel_rfl) (by kernel_rfl) rfl rfl (by omega) (by omega) (by omega)) ?_
        refine XA.dT 24 rfl rfl rfl (does_field (off := 1) (by kernel_rfl) rfl) ?_
        refine XA.dT 25 rfl rfl rfl (does_load (by kernel_rfl) rfl (Rd.roc (by simp) (hro2.at_ (j := 1) rfl))) ?_
        refine XA.dT 26 rfl rfl rfl (does_neq rfl rfl) ?_
        refine XA.dA 27 rfl rfl rfl (by first | exact does_pickT rfl rfl | exact does_pickF rfl rfl) ?_
        refine XA.dA 28 rfl rfl rfl (does_move rfl) ?_
        refine XA.split (t := 138) rfl (fun hg => absurd rfl hg) (fun hg => ?_)

        ·
          refine XA.dT 29 rfl rfl rfl (does_field (off := 1) (by kernel_rfl) rfl) ?_
          refine XA.dT 30 rfl rfl rfl (does_ld rfl) ?_
          refine XA.dT 31 rfl rfl rfl (does_move rfl) ?_
          refine XA.dT 32 rfl rfl rfl (does_at i (o1 + i * 3) (el := 69) (sz := 3) (by kernel_rfl) (by kernel_rfl) rfl rfl (by omega) (by omega) (by omega)) ?_
          refine XA.dT 33 rfl rfl rfl (does_field (off := 2) (by kernel_rfl) rfl) ?_
          refine XA.dT 34 rfl rfl rfl (does_load (by kernel_rfl) rfl (Rd.roc (by simp) (hro1.at_ (j := 2) rfl))) ?_
          refine XA.dT 35 rfl rfl rfl (does_field (off := 1) (by kernel_rfl) rfl) ?_
          refine XA.dT 36 rfl rfl rfl (does_ld rfl) ?_
          refine XA.dT 37 rfl rfl rfl (does_move rfl) ?_
          refine XA.dT 38 rfl rfl rfl (does_at i (o2 + i * 3) (el := 69) (sz := 3) (by kernel_rfl) (by kernel_rfl) rfl rfl (by omega) (by omega) (by omega)) ?_
          refine XA.dT 39 rfl rfl rfl (does_field (off := 2) (by kernel_rfl) rfl) ?_
          refine XA.dT 40 rfl rfl rfl (does_load (by kernel_rfl) rfl (Rd.roc (by simp) (hro2.at_ (j := 2) rfl))) ?_
          refine XA.next 41 rfl (by kernel_rfl) ?_
          refine xk_guardT rfl rfl ?_; refine xk_neqB (by kernel_rfl) rfl rfl (by decide) ?_
          refine XA.bt ?_
          refine XA.next 42 rfl (by kernel_rfl) ?_
          (first | refine xk_pickT rfl rfl (by decide) ?_ | refine xk_pickF rfl rfl (by decide) ?_)
          refine XA.bt ?_
          refine XA.done (by kernel_rfl) ?_
          refine XK.norm ?_
          refine xk_isV (t := 152) false rfl (by first | (exact decide_eq_true (by omega)) | (exact decide_eq_false (by omega)) | rfl | assumption | (simp_all; done)) ?_
          refine XK.cond rfl (fun h => by cases h) (fun _ => ?_)
          refine XK.skip ?_
          refine XK.norm ?_

          refine XK.region ?_
          refine xk_move rfl (by decide) ?_
          refine xk_add rfl rfl (wrap_in (by omega)) (by decide) ?_
          refine xk_assign rfl (by decide) ?_
          refine XK.nilN ?_
          exact XK.envS [(8, .int .i64 ((i : Int) + 1)), (4, .bool false), (3, .pointer (some ⟨g2, 0, none⟩)), (2, .pointer (some ⟨g1, 0, none⟩))] (XK.round (n2 - (i + 1)) (by omega) ⟨i + 1, by omega, rfl, rfl, rfl, rfl⟩)
    ·
      refine XK.exit ?_
      refine XK.norm ?_
      refine XK.seq ?_
      refine XK.seq ?_

      refine XK.region ?_
      refine xk_assign rfl (by decide) ?_
      refine XK.nilN ?_
      refine XK.envS [(9, .int .i64 0), (4, .bool false), (3, .pointer (some ⟨g2, 0, none⟩)), (2, .pointer (some ⟨g1, 0, none⟩))] ?_
      refine XK.block ?_
      refine XK.loop (fun m e R H => ∃ i : Nat, i ≤ n3 ∧ m = n3 - i ∧ e = [(9, .int .i64 i), (4, .bool false), (3, .pointer (some ⟨g2, 0, none⟩)), (2, .pointer (some ⟨g1, 0, none⟩))] ∧ R = [all w] ∧ H = [HP.blk g2 28 [.slice B1 n1 j1, .slice B2 n2 j2, .slice B3 n3 j3, .slice B4 n4 j4], HP.blk g1 28 [.slice A1 n1 k1, .slice A2 n2 k2, .slice A3 n3 k3, .slice A4 n4 k4]]) n3 ⟨0, by omega, rfl, rfl, rfl, rfl⟩ fun m e R H hI => ?_
      obtain ⟨i, hi, rfl, rfl, rfl, rfl⟩ := hI
      refine XK.seq ?_
      refine XK.seq ?_

      refine XK.region ?_
      refine xk_move rfl (by decide) ?_
      refine xk_field (off := 2) (by kernel_rfl) rfl (by decide) ?_
      refine xk_ld rfl ?_
      refine xk_len (el := 71) (by kernel_rfl) rfl (by decide) ?_
      refine xk_lss rfl rfl (by decide) ?_
      refine XK.nilN ?_
      refine XK.if_ rfl (fun hil => ?_) (fun hil => ?_)
      ·
        refine XK.skip ?_
        refine XK.norm ?_
        refine XK.seq ?_
        refine XK.block ?_
        refine XK.seq ?_
        have hil' : i < n3 := by omega
        obtain ⟨x, hx⟩ : ∃ x, s.resets[i]? = some x := ⟨_, List.getElem?_eq_getElem (by omega)⟩
        obtain ⟨b1, o1, r1, rfl, _, hR1, hro1⟩ := hW.rst.row hx
        obtain ⟨b2, o2, r2, rfl, _, hR2, hro2⟩ := hV.rst.row hx
        obtain rfl := hR1
        obtain rfl := hR2

        refine XK.draw 12 (by kernel_rfl) (by kernel_rfl) ?_
        refine XA.dA 0 rfl rfl rfl (does_field (off := 2) (by kernel_rfl) rfl) ?_
        refine XA.dA 1 rfl rfl rfl (does_ld rfl) ?_
        refine XA.dA 2 rfl rfl rfl (does_move rfl) ?_
        refine XA.dA 3 rfl rfl rfl (does_at i (o1 + i * 1) (el := 71) (sz := 1) (by kernel_rfl) (by kernel_rfl) rfl rfl (by omega) (by omega) (by omega)) ?_
        refine XA.dA 4 rfl rfl rfl (does_field (off := 0) (by kernel_rfl) rfl) ?_
        refine XA.dA 5 rfl rfl rfl (does_load (by kernel_rfl) rfl (Rd.roc (by simp) (hro1.at_ (j := 0) rfl))) ?_
        refine XA.dA 6 rfl rfl rfl (does_field (off := 2) (by kernel_rfl) rfl) ?_
        refine XA.dA 7 rfl rfl rfl (does_ld rfl) ?_
        refine XA.dA 8 rfl rfl rfl (does_move rfl) ?_
        refine XA.dA 9 rfl rfl rfl (does_at i (o2 + i * 1) (el := 71) (sz := 1) (by kernel_rfl) (by kernel_rfl) rfl rfl (by omega) (by omega) (by omega)) ?_
        refine XA.dA 10 rfl rfl rfl (does_field (off := 0) (by kernel_rfl) rfl) ?_
        refine XA.dA 11 rfl rfl rfl (does_load (by kernel_rfl) rfl (Rd.roc (by simp) (hro2.at_ (j := 0) rfl))) ?_
        refine XA.next 12 rfl (by kernel_rfl) ?_
        refine xk_neq rfl rfl (by decide) ?_
        refine XA.bt ?_
        refine XA.done (by kernel_rfl) ?_
        refine XK.norm ?_
        refine XK.if_ rfl (fun h => absurd rfl h) (fun h => ?_)

        ·
          refine XK.skip ?_
          refine XK.norm ?_

          refine XK.region ?_
          refine xk_move rfl (by decide) ?_
          refine xk_add rfl rfl (wrap_in (by omega)) (by decide) ?_
          refine xk_assign rfl (by decide) ?_
          refine XK.nilN ?_
          exact XK.envS [(9, .int .i64 ((i : Int) + 1)), (4, .bool false), (3, .pointer (some ⟨g2, 0, none⟩)), (2, .pointer (some ⟨g1, 0, none⟩))] (XK.round (n3 - (i + 1)) (by omega) ⟨i + 1, by omega, rfl, rfl, rfl, rfl⟩)
      ·
        refine XK.exit ?_
        refine XK.norm ?_
        refine XK.seq ?_
        refine XK.seq ?_

        refine XK.region ?_
        refine xk_assign rfl (by decide) ?_
        refine XK.nilN ?_
        refine XK.envS [(10, .int .i64 0), (4, .bool false), (3, .pointer (some ⟨g2, 0, none⟩)), (2, .pointer (some ⟨g1, 0, none⟩))] ?_
        refine XK.block ?_
        refine XK.loop (fun m e R H => ∃ i : Nat, i ≤ n4 ∧ m = n4 - i ∧ e = [(10, .int .i64 i), (4, .bool false), (3, .pointer (some ⟨g2, 0, none⟩)), (2, .pointer (some ⟨g1, 0, none⟩))] ∧ R = [all w] ∧ H = [HP.blk g2 28 [.slice B1 n1 j1, .slice B2 n2 j2, .slice B3 n3 j3, .slice B4 n4 j4], HP.blk g1 28 [.slice A1 n1 k1, .slice A2 n2 k2, .slice A3 n3 k3, .slice A4 n4 k4]]) n4 ⟨0, by omega, rfl, rfl, rfl, rfl⟩ fun m e R H hI => ?_
        obtain ⟨i, hi, rfl, rfl, rfl, rfl⟩ := hI
        refine XK.seq ?_
        refine XK.seq ?_

        refine XK.region ?_
        refine xk_move rfl (by decide) ?_
        refine xk_field (off := 3) (by kernel_rfl) rfl (by decide) ?_
        refine xk_ld rfl ?_
        refine xk_len (el := 51) (by kernel_rfl) rfl (by decide) ?_
        refine xk_lss rfl rfl (by decide) ?_
        refine XK.nilN ?_
        refine XK.if_ rfl (fun hil => ?_) (fun hil => ?_)
        ·
          refine XK.skip ?_
          refine XK.norm ?_
          refine XK.seq ?_
          refine XK.block ?_
          refine XK.seq ?_
          have hil' : i < n4 := by omega
          obtain ⟨x, hx⟩ : ∃ x, s.devs[i]? = some x := ⟨_, List.getElem?_eq_getElem (by omega)⟩
          obtain ⟨b1, o1, r1, rfl, _, hR1, hro1⟩ := hW.dev.row hx
          obtain ⟨b2, o2, r2, rfl, _, hR2, hro2⟩ := hV.dev.row hx
          obtain ⟨Ar, nr, kr, An, nn, kn, rfl, hnr, hnn, hsr, hsn⟩ := hR1
          obtain ⟨Br, mr, lr, Bn, mn, ln, rfl, hmr, hmn, htr, htn⟩ := hR2
          have hsb := hs6 x (List.mem_of_getElem? hx)
          have hrb := hreg x (List.mem_of_getElem? hx)
          subst hnr hnn hmr hmn

          refine XK.draw 10 (by kernel_rfl) (by kernel_rfl) ?_
          refine XA.dA 0 rfl rfl rfl (does_field (off := 3) (by kernel_rfl) rfl) ?_
          refine XA.dA 1 rfl rfl rfl (does_ld rfl) ?_
          refine XA.dA 2 rfl rfl rfl (does_move rfl) ?_
          refine XA.dA 3 rfl rfl rfl (does_at i (o1 + i * 6) (el := 51) (sz := 6) (by kernel_rfl) (by kernel_rfl) rfl rfl (by omega) (by omega) (by omega)) ?_
          refine XA.dA 4 rfl rfl rfl (does_loadN 6 (by kernel_rfl) rfl (RdN.of (vs := [.int .i64 x.clock, .int .i64 x.domain, .int .i64 x.reset, .int .u32 x.clamp, .slice Ar x.regs.length kr, .slice An x.needs.length kn]) fun j v hj => Rd.roc (by simp) (hro1.at_ (j := j) hj)) rfl) ?_
          refine XA.dA 5 rfl rfl rfl (does_field (off := 3) (by kernel_rfl) rfl) ?_
          refine XA.dA 6 rfl rfl rfl (does_ld rfl) ?_
          refine XA.dA 7 rfl rfl rfl (does_move rfl) ?_
          refine XA.dA 8 rfl rfl rfl (does_at i (o2 + i * 6) (el := 51) (sz := 6) (by kernel_rfl) (by kernel_rfl) rfl rfl (by omega) (by omega) (by omega)) ?_
          refine XA.dA 9 rfl rfl rfl (does_loadN 6 (by kernel_rfl) rfl (RdN.of (vs := [.int .i64 x.clock, .int .i64 x.domain, .int .i64 x.reset, .int .u32 x.clamp, .slice Br x.regs.length lr, .slice Bn x.needs.length ln]) fun j v hj => Rd.roc (by simp) (hro2.at_ (j := j) hj)) rfl) ?_
          refine XA.next 10 rfl (by kernel_rfl) ?_
          refine xk_callR (f := 31) (fi := []) (ca := []) (by kernel_rfl) rfl rfl (by decide) (fun w1 st => refAlikeS_ok x Ar An Br Bn kr kn lr ln w1 (SlS.le hsr (all_le (st.started (by simp)))) (SlS.le htr (all_le (st.started (by simp)))) (SlS.le hsn (all_le (st.started (by simp)))) (SlS.le htn (all_le (st.started (by simp)))) hrb hsb) ?_
          refine XA.bt ?_
          refine XA.next 11 rfl (by kernel_rfl) ?_
          refine xk_not rfl (by decide) ?_
          refine XA.bt ?_
          refine XA.done (by kernel_rfl) ?_
          refine XK.norm ?_
          refine XK.cond rfl (fun h => by cases h) (fun h => ?_)

          ·
            refine XK.skip ?_
            refine XK.norm ?_

            refine XK.region ?_
            refine xk_move rfl (by decide) ?_
            refine xk_add rfl rfl (wrap_in (by omega)) (by decide) ?_
            refine xk_assign rfl (by decide) ?_
            refine XK.nilN ?_
            exact XK.envS [(10, .int .i64 ((i : Int) + 1)), (4, .bool false), (3, .pointer (some ⟨g2, 0, none⟩)), (2, .pointer (some ⟨g1, 0, none⟩))] (XK.round (n4 - (i + 1)) (by omega) ⟨i + 1, by omega, rfl, rfl, rfl, rfl⟩)
        ·
          refine XK.exit ?_
          refine XK.norm ?_
          refine XK.seq ?_

          refine XK.region ?_
          refine xk_assign rfl (by decide) ?_
          refine XK.nilN ?_
          refine XK.ret ?_
          refine XK.norm ?_
          exact XK.ret1 rfl rfl fun w1 st => ⟨rfl, st.below (by simp)⟩

end Go.Proofs.YtgopaoidgcgalaaGreatDoor
/- The law LinesParse. -/
namespace Go.Proofs.YtgopaoidgcgalaaGreatDoor
set_option linter.all false
open Go.RowKit
theorem parse_small (t : ByteArray) : (parseF t).2.okB := by
  obtain ⟨e, s, h0⟩ : ∃ e s, parseF t = (e, s) := ⟨_, _, rfl⟩
  rw [h0]
  rcases parse_back h0 with ⟨_, _, h, _⟩ | ⟨_, h⟩
  · exact check_ok h
  · subst h; exact ⟨by simp [soc0], by simp [soc0], by simp [soc0], by simp [soc0], by simp [soc0], by simp [soc0]⟩

theorem refParseR_ok (t : ByteArray) (e : Int) (s : Soc) (h : parseF t = (e, s)) (ht : t.size ≤ 1000000) (w : World) :
    Calls Tryz.prog 12 #[.string t] w fun y w' => (∃ v, y = .returned v ∧ ParseR e s v w w') ∧ Below w.heap.size w w' := by
  have h1 := refParse_ok t.data.toList (by simpa using ht) w
  rw [strOf_data] at h1
  refine h1.mono fun y w' hy => ?_
  obtain ⟨⟨cs, h1, h2⟩, h3⟩ := hy
  rw [h] at h1 h2
  exact ⟨⟨_, h1, cs, rfl, h2⟩, h3⟩

set_option maxHeartbeats 1000000 in
theorem lparse_any (t : ByteArray) (mm : Int) (w : World) (hM : ROc w 0 0 (.int .i64 mm)) :
    Calls Tryz.prog 3 #[.string t] w (Rt (.bool true) w) := by
  refine XK.enter (vs := [.string t]) Tryz.func3 rfl Tryz.ntmps3 (by simp) ?_
  refine XK.seq ?_

  refine XK.region ?_
  refine xk_assign rfl (by decide) ?_
  refine XK.nilN ?_
  refine XK.seq ?_

  refine XK.region ?_
  refine xk_callR (f := 10) (fi := []) (ca := []) (by kernel_rfl) rfl rfl (by decide) (fun w1 st => shown5_ok mm w1 ⟨Nat.lt_of_lt_of_le hM.1 (st.below (by simp)).size, hM.go (st.below (by simp))⟩) ?_
  refine xk_assign rfl (by decide) ?_
  refine XK.nilN ?_
  refine XK.seq ?_
  refine XK.seq ?_

  refine XK.region ?_
  refine xk_move rfl (by decide) ?_
  (first | refine xk_notD rfl (by decide) ?_ | refine xk_not rfl (by decide) ?_)
  refine xk_move rfl (by decide) ?_
  refine xk_isV (t := 15) false rfl (by first | (exact decide_eq_true (by omega)) | (exact decide_eq_false (by omega)) | rfl | assumption | (simp_all; done)) ?_
  refine xk_guardT rfl rfl ?_; refine xk_move rfl (by decide) ?_
  refine xk_guardT rfl rfl ?_; refine xk_lenS (by kernel_rfl) rfl (by decide) ?_
  refine xk_guardT rfl rfl ?_; refine xk_gtr rfl rfl (by decide) ?_
  (first | refine xk_pickT rfl rfl (by decide) ?_ | refine xk_pickF rfl rfl (by decide) ?_)
  refine XK.nilN ?_
  refine XK.if_ rfl (fun hbig => ?_) (fun hbig => ?_)
  ·
    refine XK.seq ?_

    refine XK.region ?_
    refine xk_move rfl (by decide) ?_
    refine xk_assign rfl (by decide) ?_
    refine XK.nilN ?_
    refine XK.ret ?_
    refine XK.norm ?_
    exact XK.ret1 rfl rfl fun w1 st => ⟨rfl, st.below (by simp)⟩
  ·
    refine XK.skip ?_
    refine XK.norm ?_
    refine XK.seq ?_
    obtain ⟨eE, sS, hpf⟩ : ∃ e s, parseF t = (e, s) := ⟨_, _, rfl⟩
    have hok := parse_small t
    rw [hpf] at hok
    have hsm := ok_small hok

    refine XK.region ?_
    refine xk_move rfl (by decide) ?_
    refine xk_call [] (f := 11) (fi := []) (ca := []) (by kernel_rfl) rfl rfl (by decide) (by simp) (ParseR eE sS) (fun w1 st => parseR_ok _ _ _ hpf mm w1 ⟨Nat.lt_of_lt_of_le hM.1 (st.below (by simp)).size, hM.go (st.below (by simp))⟩) ?_
    rintro _ w1 q1 ⟨csx, rfl, hSx⟩ hfx _ _
    obtain ⟨A1x, n1x, k1x, A2x, n2x, k2x, A3x, n3x, k3x, A4x, n4x, k4x, rfl, hSQx⟩ := (hSx.mono (slq_le hfx)).Q
    clear hfx hSx
    refine xk_move rfl (by decide) ?_
    refine xk_extract rfl rfl (by decide) ?_
    refine xk_extract rfl rfl (by decide) ?_
    refine xk_alloc (cs := [.slice none 0 0, .slice none 0 0, .slice none 0 0, .slice none 0 0]) (zeroB_of (by kernel_rfl)) (by decide) fun g1 => ?_
    (first | (refine xk_storeN 0 rfl rfl rfl (by kernel_rfl) (by simp [Value.cells, Value.oneCell']) (by simp [Value.cells]) ?_) | (refine xk_storeN 1 rfl rfl rfl (by kernel_rfl) (by simp [Value.cells, Value.oneCell']) (by simp [Value.cells]) ?_) | (refine xk_storeN 2 rfl rfl rfl (by kernel_rfl) (by simp [Value.cells, Value.oneCell']) (by simp [Value.cells]) ?_) | (refine xk_storeN 3 rfl rfl rfl (by kernel_rfl) (by simp [Value.cells, Value.oneCell']) (by simp [Value.cells]) ?_) | (refine xk_storeN 4 rfl rfl rfl (by kernel_rfl) (by simp [Value.cells, Value.oneCell']) (by simp [Value.cells]) ?_) | (refine xk_storeN 5 rfl rfl rfl (by kernel_rfl) (by simp [Value.cells, Value.oneCell']) (by simp [Value.cells]) ?_) | (refine xk_storeN 6 rfl rfl rfl (by kernel_rfl) (by simp [Value.cells, Value.oneCell']) (by simp [Value.cells]) ?_) | (refine xk_storeN 7 rfl rfl rfl (by kernel_rfl) (by simp [Value.cells, Value.oneCell']) (by simp [Value.cells]) ?_) | (refine xk_storeN 8 rfl rfl rfl (by kernel_rfl) (by simp [Value.cells, Value.oneCell']) (by simp [Value.cells]) ?_)); simp only [putN, Value.cells, List.set, List.take, List.drop, List.nil_append, List.append_nil, List.length_cons, List.length_nil, List.cons_append, Nat.reduceAdd]
    refine xk_assign rfl (by decide) ?_
    refine XK.nilN ?_
    refine XK.seq ?_

    refine XK.region ?_
    refine xk_move rfl (by decide) ?_
    refine xk_call [] (f := 12) (fi := []) (ca := []) (by kernel_rfl) rfl rfl (by decide) (by simp) (ParseR eE sS) (fun w1 st => refParseR_ok _ _ _ hpf (by omega) w1) ?_
    rintro _ w1 q2 ⟨csy, rfl, hSy⟩ hfy _ _
    obtain ⟨A1y, n1y, k1y, A2y, n2y, k2y, A3y, n3y, k3y, A4y, n4y, k4y, rfl, hSQy⟩ := (hSy.mono (slq_le hfy)).Q
    clear hfy hSy
    obtain ⟨rfl, rfl, rfl, rfl⟩ := hSQx.len
    obtain ⟨rfl, rfl, rfl, rfl⟩ := hSQy.len
    refine xk_move rfl (by decide) ?_
    refine xk_extract rfl rfl (by decide) ?_
    refine xk_extract rfl rfl (by decide) ?_
    refine xk_alloc (cs := [.slice none 0 0, .slice none 0 0, .slice none 0 0, .slice none 0 0]) (zeroB_of (by kernel_rfl)) (by decide) fun g2 => ?_
    (first | (refine xk_storeN 0 rfl rfl rfl (by kernel_rfl) (by simp [Value.cells, Value.oneCell']) (by simp [Value.cells]) ?_) | (refine xk_storeN 1 rfl rfl rfl (by kernel_rfl) (by simp [Value.cells, Value.oneCell']) (by simp [Value.cells]) ?_) | (refine xk_storeN 2 rfl rfl rfl (by kernel_rfl) (by simp [Value.cells, Value.oneCell']) (by simp [Value.cells]) ?_) | (refine xk_storeN 3 rfl rfl rfl (by kernel_rfl) (by simp [Value.cells, Value.oneCell']) (by simp [Value.cells]) ?_) | (refine xk_storeN 4 rfl rfl rfl (by kernel_rfl) (by simp [Value.cells, Value.oneCell']) (by simp [Value.cells]) ?_) | (refine xk_storeN 5 rfl rfl rfl (by kernel_rfl) (by simp [Value.cells, Value.oneCell']) (by simp [Value.cells]) ?_) | (refine xk_storeN 6 rfl rfl rfl (by kernel_rfl) (by simp [Value.cells, Value.oneCell']) (by simp [Value.cells]) ?_) | (refine xk_storeN 7 rfl rfl rfl (by kernel_rfl) (by simp [Value.cells, Value.oneCell']) (by simp [Value.cells]) ?_) | (refine xk_storeN 8 rfl rfl rfl (by kernel_rfl) (by simp [Value.cells, Value.oneCell']) (by simp [Value.cells]) ?_)); simp only [putN, Value.cells, List.set, List.take, List.drop, List.nil_append, List.append_nil, List.length_cons, List.length_nil, List.cons_append, Nat.reduceAdd]
    refine xk_assign rfl (by decide) ?_
    refine XK.nilN ?_
    refine XK.seq ?_

    refine XK.region ?_
    refine xk_move rfl (by decide) ?_
    refine xk_callR (f := 13) (fi := []) (ca := []) (by kernel_rfl) rfl rfl (by decide) (fun w1 st => number_ok t (by omega) w1) ?_
    dsimp only [numV]
    refine xk_move rfl (by decide) ?_
    refine xk_extract rfl rfl (by decide) ?_
    refine xk_extract rfl rfl (by decide) ?_
    refine xk_assign rfl (by decide) ?_
    refine xk_assign rfl (by decide) ?_
    refine XK.nilN ?_
    refine XK.seq ?_

    refine XK.region ?_
    refine xk_move rfl (by decide) ?_
    refine xk_callR (f := 14) (fi := []) (ca := []) (by kernel_rfl) rfl rfl (by decide) (fun w1 st => refNum_ok t (by omega) w1) ?_
    dsimp only [numV]
    refine xk_move rfl (by decide) ?_
    refine xk_extract rfl rfl (by decide) ?_
    refine xk_extract rfl rfl (by decide) ?_
    refine xk_assign rfl (by decide) ?_
    refine xk_assign rfl (by decide) ?_
    refine XK.nilN ?_
    refine XK.seq ?_

    refine XK.region ?_
    refine xk_move rfl (by decide) ?_
    refine xk_move rfl (by decide) ?_
    refine xk_eql rfl rfl (by decide) ?_
    refine xk_move rfl (by decide) ?_
    refine xk_isV (t := 44) true rfl (by first | (exact decide_eq_true (by omega)) | (exact decide_eq_false (by omega)) | rfl | assumption | (simp_all; done)) ?_
    refine xk_guardT rfl rfl ?_; refine xk_ldN 4 rfl ?_
    refine xk_guardT rfl rfl ?_; refine xk_ldN 4 rfl ?_
    refine xk_guardT rfl rfl ?_; refine xk_callR (f := 15) (fi := []) (ca := []) (by kernel_rfl) rfl rfl (by decide) (fun w1 st => refSameS_ok sS A1x A2x A3x A4x A1y A2y A3y A4y _ k1x k1y _ k2x k2y _ k3x k3y _ k4x k4y w1 (hSQx.W (st.le (by simp)) hsm) (hSQy.W (st.le (by simp)) hsm) (fun d hd => by have := (hok.devs d hd).1; omega)) ?_
    (first | refine xk_pickT rfl rfl (by decide) ?_ | refine xk_pickF rfl rfl (by decide) ?_)
    refine xk_move rfl (by decide) ?_
    refine xk_isV (t := 49) true rfl (by first | (exact decide_eq_true (by omega)) | (exact decide_eq_false (by omega)) | rfl | assumption | (simp_all; done)) ?_
    refine xk_guardT rfl rfl ?_; refine xk_move rfl (by decide) ?_
    refine xk_guardT rfl rfl ?_; refine xk_move rfl (by decide) ?_
    refine xk_guardT rfl rfl ?_; refine xk_eql rfl rfl (by decide) ?_
    (first | refine xk_pickT rfl rfl (by decide) ?_ | refine xk_pickF rfl rfl (by decide) ?_)
    refine xk_move rfl (by decide) ?_
    refine xk_isV (t := 54) true rfl (by first | (exact decide_eq_true (by omega)) | (exact decide_eq_false (by omega)) | rfl | assumption | (simp_all; done)) ?_
    refine xk_guardT rfl rfl ?_; refine xk_move rfl (by decide) ?_
    refine xk_guardT rfl rfl ?_; refine xk_move rfl (by decide) ?_
    refine xk_guardT rfl rfl ?_; refine xk_eqlB (by kernel_rfl) rfl rfl (by decide) ?_
    (first | refine xk_pickT rfl rfl (by decide) ?_ | refine xk_pickF rfl rfl (by decide) ?_)
    refine xk_assign rfl (by decide) ?_
    refine XK.nilN ?_
    refine XK.ret ?_
    refine XK.norm ?_
    exact XK.ret1 rfl rfl fun w1 st => ⟨by simp, st.below (by simp)⟩

end Go.Proofs.YtgopaoidgcgalaaGreatDoor
