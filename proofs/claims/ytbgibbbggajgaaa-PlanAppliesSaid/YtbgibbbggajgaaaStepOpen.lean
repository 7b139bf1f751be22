/- A step that came in, opened. -/
import Derived.Test.YtbgibbbggajgaaaApply
import Derived.ChangeArms
namespace Go.Proofs.Ytbgibbbggajgaaa
set_option linter.all false
open Go.RowKit
section
variable {H : Type} {enc : TypeId × Value → H} {w : World}
theorem step_cells : Try.prog.cellsOf 59 = 4 := by kernel_rfl
theorem step_cI : Try.prog.cellsOf 3 = 1 := by kernel_rfl
theorem step_cU : Try.prog.cellsOf 30 = 1 := by kernel_rfl
open Go.ChangeShapes Go.WideShapes Go.ChangeAt in
set_option maxRecDepth 100000 in
theorem open_step {v : Value} {d : DataW H} {ps : List MemPlace} {base : Nat} (hval : Value.okWide Try.prog w .any base 59 v) (h : DataW.Trod enc Try.prog w 0 (fun _ => true) true 59 v d ps) :
    ∃ p : Stp, v = .agg #[.int .i64 p.pr, .int .i64 p.msg, .int .u32 p.id, .int .u32 p.v] ∧ p.ok := by
  obtain ⟨cs, rfl, _⟩ := okWide_struct Try.underlying59 hval
  obtain ⟨fuel, hf⟩ := h
  obtain ⟨xs, n, _, _, hl, hxl, hf⟩ := DataW.trod_struct Try.underlying59 hf
  rw [step_cells] at hl
  simp only [Value.cells] at hl hf
  obtain ⟨l, rfl⟩ : ∃ l : List Value, cs = l.toArray := ⟨cs.toList, by simp⟩
  obtain ⟨a, b, c, d, rfl⟩ : ∃ a b c d, l = [a, b, c, d] := by
    match l, hl with
    | [a, b, c, d], _ => exact ⟨a, b, c, d, rfl⟩
  have h0 := hf 0 _ rfl
  have h1 := hf 1 _ rfl
  have h2 := hf 2 _ rfl
  have h3 := hf 3 _ rfl
  simp only [List.getElem_toArray, List.getElem_cons_zero, List.getElem_cons_succ, List.drop_succ_cons, List.drop_zero, step_cI, step_cU, List.take_succ_cons, List.take_zero] at h0 h1 h2 h3
  have pk : ∀ i, i < 4 → ∃ y, xs[i]? = some y := fun i hi => ⟨xs[i]'(by rw [hxl]; exact hi), List.getElem?_eq_getElem _⟩
  obtain ⟨y0, e0⟩ := pk 0 (by omega)
  obtain ⟨y1, e1⟩ := pk 1 (by omega)
  obtain ⟨y2, e2⟩ := pk 2 (by omega)
  obtain ⟨y3, e3⟩ := pk 3 (by omega)
  rw [e0] at h0
  rw [e1] at h1
  rw [e2] at h2
  rw [e3] at h3
  obtain ⟨z0, g0, _, w0⟩ := DataW.trod_int Try.underlying3 h0
  obtain ⟨z1, g1, _, w1⟩ := DataW.trod_int Try.underlying3 h1
  obtain ⟨z2, g2, _, w2⟩ := DataW.trod_int Try.underlying30 h2
  obtain ⟨z3, g3, _, w3⟩ := DataW.trod_int Try.underlying30 h3
  simp at g0 g1 g2 g3
  subst g0; subst g1; subst g2; subst g3
  refine ⟨⟨z0, z1, z2, z3⟩, rfl, ⟨bounds64 w0, bounds64 w1, ?_, ?_⟩⟩
  · have := bounds_u32 w2; exact ⟨this.1, by show z2 < 4294967296; omega⟩
  · have := bounds_u32 w3; exact ⟨this.1, by show z3 < 4294967296; omega⟩
end
end Go.Proofs.Ytbgibbbggajgaaa
