/- Events that came in, opened. -/
import Derived.Test.YtbgibbbggajgaaaEv
import Derived.ChangeArms
namespace Go.Proofs.Ytbgibbbggajgaaa
set_option linter.all false
open Go.RowKit
section
variable {H : Type} {enc : TypeId × Value → H} {w : World} {fuel : Nat} {cs : List Value} {x : DataW H × List MemPlace}
theorem pick1 {α : Type} {l : List α} {n i : Nat} (h : l.length = n) (hi : i < n) : ∃ y, l[i]? = some y := ⟨l[i]'(by omega), List.getElem?_eq_getElem _⟩
theorem four {l : List Value} (h : l.length = 4) : ∃ a b c d, l = [a, b, c, d] := by
  match l, h with
  | [a, b, c, d], _ => exact ⟨a, b, c, d, rfl⟩
theorem two {l : List Value} (h : l.length = 2) : ∃ a b, l = [a, b] := by
  match l, h with
  | [a, b], _ => exact ⟨a, b, rfl⟩
theorem fourteen {l : List Value} (h : l.length = 14) : ∃ a b c d e f g i j k m n o p, l = [a, b, c, d, e, f, g, i, j, k, m, n, o, p] := by
  match l, h with
  | [a, b, c, d, e, f, g, i, j, k, m, n, o, p], _ => exact ⟨a, b, c, d, e, f, g, i, j, k, m, n, o, p, rfl⟩
theorem cellsCall : Try.prog.cellsOf 32 = 4 := by kernel_rfl
theorem cellsResult : Try.prog.cellsOf 35 = 2 := by kernel_rfl
theorem cellsAnswer : Try.prog.cellsOf 37 = 4 := by kernel_rfl
theorem cellsEvent : Try.prog.cellsOf 40 = 14 := by kernel_rfl
theorem cellsU8 : Try.prog.cellsOf 5 = 1 := by kernel_rfl
theorem cellsU32 : Try.prog.cellsOf 30 = 1 := by kernel_rfl
theorem cellsInt : Try.prog.cellsOf 3 = 1 := by kernel_rfl
theorem cellsBool : Try.prog.cellsOf 4 = 1 := by kernel_rfl
theorem cellsErrno : Try.prog.cellsOf 33 = 1 := by kernel_rfl
theorem cellsWords : Try.prog.cellsOf 38 = 1 := by kernel_rfl

theorem call_of_trod (h : DataW.trod enc Try.prog w 0 (fun _ => true) true fuel 32 cs = some x) :
    ∃ k d r v : Int, cs = [.int .u8 k, .int .i64 d, .int .i64 r, .int .u32 v] := by
  obtain ⟨xs, n, rfl, _, hl, hxl, hf⟩ := DataW.trod_struct Try.underlying32 h
  rw [cellsCall] at hl
  obtain ⟨a, b, c, d, rfl⟩ := four hl
  have h0 := hf 0 _ rfl
  have h1 := hf 1 _ rfl
  have h2 := hf 2 _ rfl
  have h3 := hf 3 _ rfl
  simp only [List.getElem_toArray, List.getElem_cons_zero, List.getElem_cons_succ, List.drop_succ_cons, List.drop_zero, cellsU8, cellsInt, cellsU32, List.take_succ_cons, List.take_zero] at h0 h1 h2 h3
  obtain ⟨y0, e0⟩ := pick1 hxl (i := 0) (by simp)
  obtain ⟨y1, e1⟩ := pick1 hxl (i := 1) (by simp)
  obtain ⟨y2, e2⟩ := pick1 hxl (i := 2) (by simp)
  obtain ⟨y3, e3⟩ := pick1 hxl (i := 3) (by simp)
  rw [e0] at h0
  rw [e1] at h1
  rw [e2] at h2
  rw [e3] at h3
  obtain ⟨z0, g0, _, _⟩ := DataW.trod_int Try.underlying5 h0
  obtain ⟨z1, g1, _, _⟩ := DataW.trod_int Try.underlying3 h1
  obtain ⟨z2, g2, _, _⟩ := DataW.trod_int Try.underlying3 h2
  obtain ⟨z3, g3, _, _⟩ := DataW.trod_int Try.underlying30 h3
  simp at g0 g1 g2 g3
  subst g0; subst g1; subst g2; subst g3
  exact ⟨_, _, _, _, rfl⟩
theorem result_of_trod (h : DataW.trod enc Try.prog w 0 (fun _ => true) true fuel 35 cs = some x) :
    ∃ e v : Int, cs = [.int .i64 e, .int .u32 v] := by
  obtain ⟨xs, n, rfl, _, hl, hxl, hf⟩ := DataW.trod_struct Try.underlying35 h
  rw [cellsResult] at hl
  obtain ⟨a, b, rfl⟩ := two hl
  have h0 := hf 0 _ rfl
  have h1 := hf 1 _ rfl
  simp only [List.getElem_toArray, List.getElem_cons_zero, List.getElem_cons_succ, List.drop_succ_cons, List.drop_zero, cellsU8, cellsInt, cellsU32, cellsBool, cellsErrno, cellsWords, cellsCall, cellsResult, cellsAnswer, List.take_succ_cons, List.take_zero] at h0 h1
  obtain ⟨y0, e0⟩ := pick1 hxl (i := 0) (by simp)
  rw [e0] at h0
  obtain ⟨y1, e1⟩ := pick1 hxl (i := 1) (by simp)
  rw [e1] at h1
  obtain ⟨z0, g0, _, _⟩ := DataW.trod_int Try.underlying33 h0
  obtain ⟨z1, g1, _, _⟩ := DataW.trod_int Try.underlying30 h1
  simp at g0 g1
  subst g0; subst g1
  exact ⟨_, _, rfl⟩
theorem answer_of_trod (h : DataW.trod enc Try.prog w 0 (fun _ => true) true fuel 37 cs = some x) :
    ∃ (i d : Int) (b : Bool) (v : Int), cs = [.int .i64 i, .int .i64 d, .bool b, .int .u32 v] := by
  obtain ⟨xs, n, rfl, _, hl, hxl, hf⟩ := DataW.trod_struct Try.underlying37 h
  rw [cellsAnswer] at hl
  obtain ⟨a, b, c, d, rfl⟩ := four hl
  have h0 := hf 0 _ rfl
  have h1 := hf 1 _ rfl
  have h2 := hf 2 _ rfl
  have h3 := hf 3 _ rfl
  simp only [List.getElem_toArray, List.getElem_cons_zero, List.getElem_cons_succ, List.drop_succ_cons, List.drop_zero, cellsU8, cellsInt, cellsU32, cellsBool, cellsErrno, cellsWords, cellsCall, cellsResult, cellsAnswer, List.take_succ_cons, List.take_zero] at h0 h1 h2 h3
  obtain ⟨y0, e0⟩ := pick1 hxl (i := 0) (by simp)
  rw [e0] at h0
  obtain ⟨y1, e1⟩ := pick1 hxl (i := 1) (by simp)
  rw [e1] at h1
  obtain ⟨y2, e2⟩ := pick1 hxl (i := 2) (by simp)
  rw [e2] at h2
  obtain ⟨y3, e3⟩ := pick1 hxl (i := 3) (by simp)
  rw [e3] at h3
  obtain ⟨z0, g0, _, _⟩ := DataW.trod_int Try.underlying3 h0
  obtain ⟨z1, g1, _, _⟩ := DataW.trod_int Try.underlying3 h1
  obtain ⟨z2, g2, _⟩ := DataW.trod_bool Try.underlying4 h2
  obtain ⟨z3, g3, _, _⟩ := DataW.trod_int Try.underlying30 h3
  simp at g0 g1 g2 g3
  subst g0; subst g1; subst g2; subst g3
  exact ⟨_, _, _, _, rfl⟩
theorem ev_of_trod (h : DataW.trod enc Try.prog w 0 (fun _ => true) true fuel 40 cs = some x) :
    ∃ v : Ev, cs = v.cells ∧ EvWs w w.heap.size v := by
  obtain ⟨xs, n, rfl, _, hl, hxl, hf⟩ := DataW.trod_struct Try.underlying40 h
  rw [cellsEvent] at hl
  obtain ⟨a, b, c, d, e, f, g, i, j, k, m, n', o, p, rfl⟩ := fourteen hl
  have h0 := hf 0 _ rfl
  have h1 := hf 1 _ rfl
  have h2 := hf 2 _ rfl
  have h3 := hf 3 _ rfl
  have h4 := hf 4 _ rfl
  have h5 := hf 5 _ rfl
  have h6 := hf 6 _ rfl
  simp only [List.getElem_toArray, List.getElem_cons_zero, List.getElem_cons_succ, List.drop_succ_cons, List.drop_zero, cellsU8, cellsInt, cellsU32, cellsBool, cellsErrno, cellsWords, cellsCall, cellsResult, cellsAnswer, List.take_succ_cons, List.take_zero] at h0 h1 h2 h3 h4 h5 h6
  obtain ⟨y0, e0⟩ := pick1 hxl (i := 0) (by simp)
  rw [e0] at h0
  obtain ⟨y1, e1⟩ := pick1 hxl (i := 1) (by simp)
  rw [e1] at h1
  obtain ⟨y2, e2⟩ := pick1 hxl (i := 2) (by simp)
  rw [e2] at h2
  obtain ⟨y3, e3⟩ := pick1 hxl (i := 3) (by simp)
  rw [e3] at h3
  obtain ⟨y4, e4⟩ := pick1 hxl (i := 4) (by simp)
  rw [e4] at h4
  obtain ⟨y5, e5⟩ := pick1 hxl (i := 5) (by simp)
  rw [e5] at h5
  obtain ⟨y6, e6⟩ := pick1 hxl (i := 6) (by simp)
  rw [e6] at h6
  obtain ⟨z0, g0, _, _⟩ := DataW.trod_int Try.underlying5 h0
  obtain ⟨z1, g1, _, _⟩ := DataW.trod_int Try.underlying3 h1
  obtain ⟨k2, d2, r2, v2, g2⟩ := call_of_trod h2
  obtain ⟨e3', v3, g3⟩ := result_of_trod h3
  obtain ⟨i4, d4, b4, v4, g4⟩ := answer_of_trod h4
  obtain ⟨z5, g5, _⟩ := DataW.trod_bool Try.underlying4 h5
  obtain ⟨A, nn, cc, zs, g6, hsl, hn, _, _⟩ := ints_sl Try.underlying38 Try.underlying30 cellsU32 h6
  simp at g0 g1 g2 g3 g4 g5 g6
  obtain ⟨rfl, rfl, rfl, rfl⟩ := g2
  obtain ⟨rfl, rfl⟩ := g3
  obtain ⟨rfl, rfl, rfl, rfl⟩ := g4
  subst g0; subst g1; subst g5; subst g6; subst hn
  exact ⟨⟨_, _, _, _, _, _, _, _, _, _, _, _, _, A, cc, zs⟩, rfl, hsl⟩

open Go.ChangeShapes Go.WideShapes Go.ChangeAt in
set_option maxRecDepth 100000 in
theorem open_events {v : Value} {d : DataW H} {ps : List MemPlace} {base : Nat} (hval : Value.okWide Try.prog w .any base 22 v) (h : DataW.Trod enc Try.prog w 0 (fun _ => true) true 22 v d ps) :
    ∃ (A : Option Addr) (n c : Nat) (evs : List Ev), v = .slice A n c ∧ Evs w w.heap.size A evs ∧ n = evs.length ∧ n ≤ 9223372036854775807 := by
  obtain ⟨a0, len, cap, rfl⟩ := okWide_slice Try.underlying22 hval
  obtain ⟨fuel, hf⟩ := h
  obtain ⟨A, n, c, ys, hcs, hsl, hn, hm, hR⟩ := slice_sl Ev.cells (EvWs w w.heap.size) Try.underlying22 cellsEvent (by omega) Ev.cells_len (fun _ _ _ h => ev_of_trod h) hf
  simp [Value.cells] at hcs
  obtain ⟨rfl, rfl, rfl⟩ := hcs
  subst hn
  exact ⟨_, _, _, ys, rfl, ⟨hsl, hR⟩, rfl, hm⟩
end
end Go.Proofs.Ytbgibbbggajgaaa
