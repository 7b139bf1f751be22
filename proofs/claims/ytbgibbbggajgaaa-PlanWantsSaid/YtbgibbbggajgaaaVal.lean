/- The small logic: parts of structs and arrays that are values. -/
import Derived.Test.YtbgibbbggajgaaaDrawG
namespace Go.Proofs.Ytbgibbbggajgaaa
set_option linter.all false
open Go.RowKit
/-- a part that is itself many cells: where, and how many -/
def aggP (P : Program) (t : TypeId) : Option Nat := match P.underlying t with
  | some (.struct _) => (P.info? t).map (·.size)
  | some (.array _ _) => (P.info? t).map (·.size)
  | _ => none
def aggF (P : Program) (t : TypeId) (i : Nat) : Option (Nat × Nat) := match P.underlying t with
  | some (.struct fs) => match fs[i]? with
    | some f => (aggP P f.type).map fun n => (f.offset, n)
    | none => none
  | _ => none
def oneF (P : Program) (t : TypeId) (i : Nat) : Option Nat := match P.underlying t with
  | some (.struct fs) => match fs[i]? with
    | some f => if oneB P f.type then some f.offset else none
    | none => none
  | _ => none
def arrI (P : Program) (t : TypeId) : Option (Nat × Nat) := match P.underlying t with
  | some (.array len el) => (aggP P el).map fun n => (len, n)
  | _ => none
section
variable {P : Program} {N : Nat} {w0 w : World} {e : Env} {R : List Piece} {H : List HP} {Q : Exit → Act → World → Prop} {ops : Array Oper} {rest : List Oper}
variable {d : Nat} {ty : TypeId} {pos : String} {aft : Array Edge}
theorem run_partA {t : TypeId} {n off : Nat} {cs : Array Value} (h : aggP P t = some n) : (part t cs off).run P w = .ok (.agg (cs.extract off (off + n))) w := by
  unfold aggP at h
  split at h
  · rename_i hu
    obtain ⟨i, hi, rfl⟩ := Option.map_eq_some_iff.1 h
    simp [part, isAgg, run_underlying hu, sizeOf, typeInfo, hi]
  · rename_i hu
    obtain ⟨i, hi, rfl⟩ := Option.map_eq_some_iff.1 h
    simp [part, isAgg, run_underlying hu, sizeOf, typeInfo, hi]
  · cases h
theorem run_part1 {t : TypeId} {off : Nat} {cs : Array Value} {v : Value} (h : oneB P t = true) (hv : cs[off]? = some v) : (part t cs off).run P w = .ok v w := by
  unfold oneB at h
  split at h
  · cases h
  · cases h
  · rename_i u h1 h2 hu
    have hagg : (isAgg t).run P w = .ok false w := by
      unfold isAgg
      rw [Sem.run_bind, run_underlying hu]
      cases u <;> first | rfl | exact (h1 _ rfl).elim | exact (h2 _ _ rfl).elim
    simp [part, Sem.run_bind, hagg, hv]
  · cases h
theorem run_fieldA {t : TypeId} {i off n : Nat} {cs : Array Value} (h : aggF P t i = some (off, n)) : (Instr.field t (.agg cs) i).run P w = .ok (.agg (cs.extract off (off + n))) w := by
  unfold aggF at h
  split at h
  · rename_i fs hu
    split at h
    · rename_i f hf
      obtain ⟨m, hm, he⟩ := Option.map_eq_some_iff.1 h
      simp only [Prod.mk.injEq] at he
      obtain ⟨rfl, rfl⟩ := he
      simp [Instr.field, run_underlying hu, hf, asAgg, run_partA hm]
    · cases h
  · cases h
theorem run_field1 {t : TypeId} {i off : Nat} {cs : Array Value} {v : Value} (h : oneF P t i = some off) (hv : cs[off]? = some v) : (Instr.field t (.agg cs) i).run P w = .ok v w := by
  unfold oneF at h
  split at h
  · rename_i fs hu
    split at h
    · rename_i f hf
      split at h
      · rename_i ho
        cases h
        simp [Instr.field, run_underlying hu, hf, asAgg, run_part1 ho hv]
      · cases h
    · cases h
  · cases h
theorem run_indexA {t : TypeId} {len n k : Nat} {kd : IntKind} {j : Int} {cs : Array Value} (h : arrI P t = some (len, n)) (hj : j = (k : Int)) (hk : k < len) : (Instr.index t (.agg cs) (.int kd j)).run P w = .ok (.agg (cs.extract (k * n) (k * n + n))) w := by
  subst hj
  unfold arrI at h
  split at h
  · rename_i l el hu
    obtain ⟨m, hm, he⟩ := Option.map_eq_some_iff.1 h
    simp only [Prod.mk.injEq] at he
    obtain ⟨rfl, rfl⟩ := he
    have hsz : (sizeOf el).run P w = .ok m w := by
      unfold aggP at hm
      split at hm
      · obtain ⟨i, hi, rfl⟩ := Option.map_eq_some_iff.1 hm; simp [sizeOf, typeInfo, hi]
      · obtain ⟨i, hi, rfl⟩ := Option.map_eq_some_iff.1 hm; simp [sizeOf, typeInfo, hi]
      · cases hm
    simp [Instr.index, asIntOf, run_underlying hu, hk, hsz, run_partA hm]
  · cases h
theorem does_fieldA {x : Operand} {t : TypeId} {i off n : Nat} {cs vs : List Value} (h : aggF P t i = some (off, n)) (hx : e.ev x = some (.agg cs.toArray)) (hv : (cs.drop off).take n = vs) : Does P N w0 e R H ⟨some d, .field t x i, ty, pos, aft, none⟩ (.agg vs.toArray) := does_of (fun a w hr => by
  simp only [execOp, hr.ev hx, Sem.run_bind, run_fieldA h, Result.andThen_ok, Sem.run_pure]
  simp [← hv, List.extract_toArray, List.extract_eq_take_drop])
theorem xk_fieldA {x : Operand} {t : TypeId} {i off n : Nat} {cs vs : List Value} (h : aggF P t i = some (off, n)) (hx : e.ev x = some (.agg cs.toArray)) (hv : (cs.drop off).take n = vs) (hd : d < N) (k : XK N w0 (wpList P ops Q rest) ((d, .agg vs.toArray) :: e) R H) :
    XK N w0 (wpList P ops Q (⟨some d, .field t x i, ty, pos, aft, none⟩ :: rest)) e R H := xk_pure hd (fun a w hr => by
  simp only [execOp, hr.ev hx, Sem.run_bind, run_fieldA h, Result.andThen_ok, Sem.run_pure]
  simp [← hv, List.extract_toArray, List.extract_eq_take_drop]) k
theorem does_field1 {x : Operand} {t : TypeId} {i off : Nat} {cs : List Value} {v : Value} (h : oneF P t i = some off) (hx : e.ev x = some (.agg cs.toArray)) (hv : cs[off]? = some v) : Does P N w0 e R H ⟨some d, .field t x i, ty, pos, aft, none⟩ v := does_of (fun a w hr => by
  simp only [execOp, hr.ev hx, Sem.run_bind, run_field1 (cs := cs.toArray) h (by simpa using hv), Result.andThen_ok, Sem.run_pure])
theorem xk_field1 {x : Operand} {t : TypeId} {i off : Nat} {cs : List Value} {v : Value} (h : oneF P t i = some off) (hx : e.ev x = some (.agg cs.toArray)) (hv : cs[off]? = some v) (hd : d < N) (k : XK N w0 (wpList P ops Q rest) ((d, v) :: e) R H) :
    XK N w0 (wpList P ops Q (⟨some d, .field t x i, ty, pos, aft, none⟩ :: rest)) e R H := xk_pure hd (fun a w hr => by
  simp only [execOp, hr.ev hx, Sem.run_bind, run_field1 (cs := cs.toArray) h (by simpa using hv), Result.andThen_ok, Sem.run_pure]) k
theorem does_indexA (k : Nat) {x ix : Operand} {t : TypeId} {len n : Nat} {kd : IntKind} {j : Int} {cs vs : List Value} (h : arrI P t = some (len, n)) (hx : e.ev x = some (.agg cs.toArray)) (hi : e.ev ix = some (.int kd j)) (hj : j = (k : Int)) (hk : k < len) (hv : (cs.drop (k * n)).take n = vs) : Does P N w0 e R H ⟨some d, .index t x ix, ty, pos, aft, none⟩ (.agg vs.toArray) := does_of (fun a w hr => by
  simp only [execOp, hr.ev hx, hr.ev hi, Sem.run_bind, run_indexA h hj hk, Result.andThen_ok, Sem.run_pure]
  simp [← hv, List.extract_toArray, List.extract_eq_take_drop])
theorem xk_indexA (k : Nat) {x ix : Operand} {t : TypeId} {len n : Nat} {kd : IntKind} {j : Int} {cs vs : List Value} (h : arrI P t = some (len, n)) (hx : e.ev x = some (.agg cs.toArray)) (hi : e.ev ix = some (.int kd j)) (hj : j = (k : Int)) (hk : k < len) (hv : (cs.drop (k * n)).take n = vs) (hd : d < N) (kk : XK N w0 (wpList P ops Q rest) ((d, .agg vs.toArray) :: e) R H) :
    XK N w0 (wpList P ops Q (⟨some d, .index t x ix, ty, pos, aft, none⟩ :: rest)) e R H := xk_pure hd (fun a w hr => by
  simp only [execOp, hr.ev hx, hr.ev hi, Sem.run_bind, run_indexA h hj hk, Result.andThen_ok, Sem.run_pure]
  simp [← hv, List.extract_toArray, List.extract_eq_take_drop]) kk
end
end Go.Proofs.Ytbgibbbggajgaaa
