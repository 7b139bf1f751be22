/- A call that writes a chunk, and reads the pieces; cuts and draws in rounds; two results in variables. -/
import Derived.Deep.Quiet
import Derived.Laws.Pointers
import Derived.Laws.StructEq
import Derived.Test.YticjkhagldkejaaGreatDoorFirmWakesK2
namespace Go.Proofs.YticjkhagldkejaaGreatDoor
set_option linter.all false
open Go.RowKit
section
section
variable {P : Program} {w : World} {t kt et : TypeId} {r : Nat} {l : List (Int × Value)}
variable {P : Program} {N : Frm} {w0 w : World} {e : Env} {R : List Piece} {H : List HP} {Q : Exit → Act → World → Prop} {ops : Array Oper} {rest : List Oper}
variable {d : Nat} {ty : TypeId} {pos : String} {aft : Array Edge}
theorem xk_callE (i : Nat) {dst : Option Nat} {e' : Env} {f : FuncId} {x : Operand} {args : List Operand} {fi ca vs : List Value} {tys : Array TypeId} {p : HP} {v : Value} (q : HP) (hf : callB P f = true) (hx : e.ev x = some (.func (.func f) fi.toArray ca.toArray)) (ha : e.evs args = some vs) (hi : H[i]? = some p)
  (hd : match dst with | some d => d < N.n ∧ e' = (d, v) :: e | none => e' = e)
  (hc : ∀ w F, St w0 R H w → p.sat F w → (∀ b, F b → b < w.heap.size) → (∀ q ∈ R, q.Le ⟨w, fun b => b < w.heap.size ∧ ¬ F b⟩) → Calls P f (fi ++ vs ++ ca).toArray w fun y w' => y = .returned v ∧ ∃ F', q.sat F' w' ∧ Turns w w' F F')
  (k : XK N w0 (wpList P ops Q rest) e' R (H.set i q)) : XK N w0 (wpList P ops Q (⟨dst, .call { callee := .value x, args := args.toArray, argTypes := tys }, ty, pos, aft, none⟩ :: rest)) e R H := fun a w hr st => wpList_plain rfl fun K hK => by
 unfold callB at hf
 cases hq : P.funcs[f]? with
 | none => simp [hq] at hf
 | some fn =>
  simp [hq] at hf
  obtain ⟨hf1, hf2⟩ := hf
  have hrun : (execOp a.eval (⟨dst, .call { callee := .value x, args := args.toArray, argTypes := tys }, ty, pos, aft, none⟩ : Oper)).run P w = .ok (.enter f (fi ++ vs ++ ca).toArray) w := by
   cases hb : fn.body with
   | none => simp [hb] at hf2
   | some c => simp [execOp, resolve, hr.ev hx, Deferred.ofValue, invoke, callFunc, hq, hf1, hb, hr.evs ha]
  obtain ⟨Z, F, hz, hrr, hs, hff, hdd⟩ := st.ex
  unfold Oper.wp
  rw [hrun]
  refine (hc w (F i) st (hs i p hi) (fun b hb => (hff i b hb).2) (fun q hqR b hb => ⟨⟨hz b (hrr q hqR b hb).1, fun hfb => (hff i b hfb).1 (hrr q hqR b hb).1⟩, (hrr q hqR b hb).2⟩)).mono fun y w' ⟨hy, F', hq', ht⟩ => ?_
  subst hy
  have st' : St w0 R (H.set i q) w' := by
   have hlt : i < H.length := by
    rcases Nat.lt_or_ge i H.length with h | h
    ·exact h
    ·rw [List.getElem?_eq_none h] at hi; cases hi
   refine ⟨ht.os.trans st.os, ht.tape.trans st.tape, ht.output.trans st.output, Nat.le_trans st.size ht.size, Z, fun j => if j = i then F' else F j, fun b h => Nat.lt_of_lt_of_le (hz b h) ht.size, fun p hp b h => ?_, fun j r hj => ?_, fun j b h => ?_, fun j k b hjk h => ?_⟩
   ·exact ⟨(hrr p hp b h).1, (ht.old b (hz b (hrr p hp b h).1) (fun hfb => (hff i b hfb).1 (hrr p hp b h).1)).trans (hrr p hp b h).2⟩
   ·rw [List.getElem?_set] at hj
    split at hj
    ·rename_i e; subst e
     first | (rw [if_pos hlt] at hj; cases hj) | cases hj
     simpa using hq'
    ·rename_i e
     simp only [if_neg (Ne.symm e)]
     exact r.loc _ _ _ (hs j r hj) (fun b hb => ht.old b (hff j b hb).2 (hdd j i b (Ne.symm e) hb))
   ·dsimp only at h
    split at h
    ·refine ⟨fun hzb => ?_, (ht.new b h).2⟩
     rcases (ht.new b h).1 with h | h
     ·exact (hff i b h).1 hzb
     ·have := hz b hzb; omega
    ·exact ⟨(hff j b h).1, Nat.lt_of_lt_of_le (hff j b h).2 ht.size⟩
   ·dsimp only at h ⊢
    split at h <;> split
    ·rename_i h1 h2; omega
    ·rename_i e1 e2
     intro hk
     rcases (ht.new b h).1 with h | h
     ·exact hdd i k b (by omega) h hk
     ·have := (hff k b hk).2; omega
    ·rename_i e1 e2
     intro hk
     rcases (ht.new b hk).1 with hk | hk
     ·exact hdd j i b (by omega) h hk
     ·have := (hff j b h).2; omega
    ·exact hdd j k b hjk h
  cases dst with
  | none => dsimp only at hd; subst hd; exact hK _ _ (k _ _ hr st')
  | some d => dsimp only at hd; obtain ⟨hd, rfl⟩ := hd; exact hK _ _ (k _ _ (hr.put hd v) st')
end
def HP.pure (p : Prop) : HP := ⟨fun _ _ => p, fun _ _ _ h _ => h⟩
section
variable {P : Program} {nn : Nat} {w0 : World} {e e0 : Env} {R R0 : List Piece} {H H0 : List HP} {Q : Exit → Act → World → Prop} {r : Option Nat} {L : List Nat} {K : Act → World → Prop}
theorem XC.cutB {x y : Code} (u : Nat) (p : Prop) [Decidable p] (h : XK ⟨nn, []⟩ w0 (KC r L P x (Exit.then (fun a' w' => ∃ b, a' = mk L b ∧ Rep ⟨nn, []⟩ ((u, .bool (decide p)) :: e) b ∧ St w0 R H w') Q)) e R H)
  (hy : XK ⟨nn, []⟩ w0 (KC r L P y Q) ((u, .bool (decide p)) :: e) R H) : XK ⟨nn, []⟩ w0 (KC r L P (Code.seq x y) Q) e R H := fun a w hr st => by
 refine wpIn_seq (wpIn_mono (h a w hr st) fun x a' w' hq => ?_)
 cases x with
 | normal =>
  obtain ⟨b, rfl, h1, h2⟩ := hq
  exact hy b w' h1 h2
 | _ => exact hq
theorem XC.meetB {u : Nat} {p : Prop} [Decidable p] (hs : e0.Sub e) (hu : e.get u = some (.bool (decide p))) : XK ⟨nn, []⟩ w0 (KQ L (Exit.then (fun a' w' => ∃ b, a' = mk L b ∧ Rep ⟨nn, []⟩ ((u, .bool (decide p)) :: e0) b ∧ St w0 R H w') Q) .normal) e R H := fun a _ hr st => ⟨a, rfl, hr.sub_cons hs hu, st⟩
end
end
section
def aggP (P : Program) (t : TypeId) : Option Nat := match P.underlying t with
 | some (.struct _) => (P.info? t).map (·.size)
 | some (.array _ _) => (P.info? t).map (·.size)
 | _ => none
def oneF (P : Program) (t : TypeId) (i : Nat) : Option Nat := match P.underlying t with
 | some (.struct fs) => match fs[i]? with
  | some f => if oneB P f.type then some f.offset else none
  | none => none
 | _ => none
def arrI (P : Program) (t : TypeId) : Option (Nat × Nat) := match P.underlying t with
 | some (.array len el) => (aggP P el).map fun n => (len, n)
 | _ => none
section
variable {P : Program} {N : Frm} {w0 w : World} {e : Env} {R : List Piece} {H : List HP} {Q : Exit → Act → World → Prop} {ops : Array Oper} {rest : List Oper}
variable {d : Nat} {ty : TypeId} {pos : String} {aft : Array Edge}
theorem run_partA {t : TypeId} {n off : Nat} {cs : Array Value} (h : aggP P t = some n) : (part t cs off).run P w = .ok (.agg (cs.extract off (off + n))) w := by
 unfold aggP at h
 split at h
 ·rename_i hu
  obtain ⟨i, hi, rfl⟩ := Option.map_eq_some_iff.1 h
  simp [part, isAgg, run_underlying hu, sizeOf, typeInfo, hi]
 ·rename_i hu
  obtain ⟨i, hi, rfl⟩ := Option.map_eq_some_iff.1 h
  simp [part, isAgg, run_underlying hu, sizeOf, typeInfo, hi]
 ·cases h
theorem run_part1 {t : TypeId} {off : Nat} {cs : Array Value} {v : Value} (h : oneB P t = true) (hv : cs[off]? = some v) : (part t cs off).run P w = .ok v w := by
 unfold oneB at h
 split at h
 ·cases h
 ·cases h
 ·rename_i u h1 h2 hu
  have hagg : (isAgg t).run P w = .ok false w := by
   unfold isAgg
   rw [Sem.run_bind, run_underlying hu]
   cases u <;> first | rfl | exact (h1 _ rfl).elim | exact (h2 _ _ rfl).elim
  simp [part, Sem.run_bind, hagg, hv]
 ·cases h
theorem run_field1 {t : TypeId} {i off : Nat} {cs : Array Value} {v : Value} (h : oneF P t i = some off) (hv : cs[off]? = some v) : (Instr.field t (.agg cs) i).run P w = .ok v w := by
 unfold oneF at h
 split at h
 ·rename_i fs hu
  split at h
  ·rename_i f hf
   split at h
   ·rename_i ho
    cases h
    simp [Instr.field, run_underlying hu, hf, asAgg, run_part1 ho hv]
   ·cases h
  ·cases h
 ·cases h
theorem run_indexA {t : TypeId} {len n k : Nat} {kd : IntKind} {j : Int} {cs : Array Value} (h : arrI P t = some (len, n)) (hj : j = (k : Int)) (hk : k < len) : (Instr.index t (.agg cs) (.int kd j)).run P w = .ok (.agg (cs.extract (k * n) (k * n + n))) w := by
 subst hj
 unfold arrI at h
 split at h
 ·rename_i l el hu
  obtain ⟨m, hm, he⟩ := Option.map_eq_some_iff.1 h
  simp only [Prod.mk.injEq] at he
  obtain ⟨rfl, rfl⟩ := he
  have hsz : (sizeOf el).run P w = .ok m w := by
   unfold aggP at hm
   split at hm
   ·obtain ⟨i, hi, rfl⟩ := Option.map_eq_some_iff.1 hm; simp [sizeOf, typeInfo, hi]
   ·obtain ⟨i, hi, rfl⟩ := Option.map_eq_some_iff.1 hm; simp [sizeOf, typeInfo, hi]
   ·cases hm
  simp [Instr.index, asIntOf, run_underlying hu, hk, hsz, run_partA hm]
 ·cases h
theorem does_field1 {x : Operand} {t : TypeId} {i off : Nat} {cs : List Value} {v : Value} (h : oneF P t i = some off) (hx : e.ev x = some (.agg cs.toArray)) (hv : cs[off]? = some v) : Does P N w0 e R H ⟨some d, .field t x i, ty, pos, aft, none⟩ v := does_of (fun a w hr => by
 simp only [execOp, hr.ev hx, Sem.run_bind, run_field1 (cs := cs.toArray) h (by simpa using hv), Result.andThen_ok, Sem.run_pure])
theorem xk_indexA (k : Nat) {x ix : Operand} {t : TypeId} {len n : Nat} {kd : IntKind} {j : Int} {cs vs : List Value} (h : arrI P t = some (len, n)) (hx : e.ev x = some (.agg cs.toArray)) (hi : e.ev ix = some (.int kd j)) (hj : j = (k : Int)) (hk : k < len) (hv : (cs.drop (k * n)).take n = vs) (hd : d < N.n) (kk : XK N w0 (wpList P ops Q rest) ((d, .agg vs.toArray) :: e) R H) :
  XK N w0 (wpList P ops Q (⟨some d, .index t x ix, ty, pos, aft, none⟩ :: rest)) e R H := xk_pure hd (fun a w hr => by
 simp only [execOp, hr.ev hx, hr.ev hi, Sem.run_bind, run_indexA h hj hk, Result.andThen_ok, Sem.run_pure]
 simp [← hv, List.extract_toArray, List.extract_eq_take_drop]) kk
end
end
section
class Off (s : TypeId) (f : Nat) (off : outParam Nat) : Prop where
 h : fieldOff Tryz.prog s f = some off
class SlT (t : TypeId) (el : outParam TypeId) (sz : outParam Nat) : Prop where
 h : Tryz.prog.underlying t = some (.slice el)
 s : (Tryz.prog.info? el).map (·.size) = some sz
class ArT (t : TypeId) (n : outParam Nat) (el : outParam TypeId) (sz : outParam Nat) : Prop where
 h : Tryz.prog.underlying t = some (.array n el)
 s : (Tryz.prog.info? el).map (·.size) = some sz
class OneT (t : TypeId) : Prop where
 h : oneB Tryz.prog t = true
class RwT (t : TypeId) (n : outParam Nat) : Prop where
 h : rowB Tryz.prog t n = true
class FdT (t : TypeId) (i : Nat) (off : outParam Nat) : Prop where
 h : oneF Tryz.prog t i = some off
section
variable {N : Frm} {w0 : World} {e e' : Env} {R R' R0 : List Piece} {H H' H0 : List HP} {m fuel : Nat} {listed : Array Bool} {Q : Exit → Act → World → Prop} {ops : Array Oper} {rest : List Oper} {K K' : Act → World → Prop}
variable {d : Nat} {ty : TypeId} {pos : String} {aft : Array Edge} {op : Op} {j t : Nat} {want : Bool} {o : Oper} {v : Value}
theorem does_ld1 {x : Operand} {t : TypeId} {b o : Nat} {v : Value} [hT : OneT t] (hx : e.ev x = some (.pointer (some ⟨b, o, none⟩))) (hr : Rd w0 R H b o v := by
  first | assumption | exact Rd.blk 0 rfl rfl | exact Rd.blk 1 rfl rfl | exact Rd.blk 2 rfl rfl | exact Rd.blk 3 rfl rfl | exact Rd.blk 4 rfl rfl | exact Rd.blk 5 rfl rfl | exact Rd.blk 6 rfl rfl | exact Rd.blk 7 rfl rfl | exact Rd.blk 8 rfl rfl | exact Rd.roc (by simp) (by assumption) | (apply Rd.rocN (by simp); assumption; rfl)) :
  Does Tryz.prog N w0 e R H ⟨some d, .load t x, ty, pos, aft, none⟩ v := does_load hT.h hx hr
theorem does_fd {x : Operand} {s : TypeId} {f off b o : Nat} [hO : Off s f off] (hx : e.ev x = some (.pointer (some ⟨b, o, none⟩))) : Does Tryz.prog N w0 e R H ⟨some d, .fieldAddr s x f, ty, pos, aft, none⟩ (.pointer (some ⟨b, o + off, none⟩)) := does_field hO.h hx
theorem does_ln {x : Operand} {t el : TypeId} {A : Option Addr} {n c sz : Nat} [hT : SlT t el sz] (hx : e.ev x = some (.slice A n c)) : Does Tryz.prog N w0 e R H ⟨some d, .call { callee := .builtin .len, args := #[x], argTypes := #[t] }, ty, pos, aft, none⟩ (.int .i64 n) := does_len hT.h hx
theorem does_ldA {x : Operand} {t : TypeId} {b o n : Nat} {vs : List Value} [hT : RwT t n] (hx : e.ev x = some (.pointer (some ⟨b, o, none⟩))) (hr : RdN w0 R H b o vs := by
  first | assumption | exact RdN.whole 0 rfl | exact RdN.whole 1 rfl | exact RdN.whole 2 rfl | exact RdN.whole 3 rfl | exact RdN.whole 4 rfl | exact RdN.whole 5 rfl | exact RdN.whole 6 rfl | exact RdN.whole 7 rfl | exact RdN.whole 8 rfl | exact RdN.roc (by simp) (by assumption)) (hn : vs.length = n := by rfl) :
  Does Tryz.prog N w0 e R H ⟨some d, .load t x, ty, pos, aft, none⟩ (.agg vs.toArray) := does_loadN n hT.h hx hr hn
theorem does_f1 {x : Operand} {t : TypeId} {i off : Nat} {cs : List Value} {v : Value} [hF : FdT t i off] (hx : e.ev x = some (.agg cs.toArray)) (hv : cs[off]? = some v) : Does Tryz.prog N w0 e R H ⟨some d, .field t x i, ty, pos, aft, none⟩ v := does_field1 hF.h hx hv
theorem dat (i o : Nat) {x ix : Operand} {t el : TypeId} {b off n c sz : Nat} {kd : IntKind} {j : Int} [hT : SlT t el sz] (hx : e.ev x = some (.slice (some ⟨b, off, none⟩) n c) := by rfl) (hi : e.ev ix = some (.int kd j) := by rfl) (hj : j = (i : Int) := by first | rfl | omega) (hlt : i < n := by omega) (ho : off + i * sz = o := by omega) : Does Tryz.prog N w0 e R H ⟨some d, .indexAddr t x ix, ty, pos, aft, none⟩ (.pointer (some ⟨b, o, none⟩)) := does_at i o hT.h hT.s hx hi hj hlt ho
theorem datA (i o : Nat) {x ix : Operand} {t el : TypeId} {b off n sz : Nat} {kd : IntKind} {j : Int} [hT : ArT t n el sz] (hx : e.ev x = some (.pointer (some ⟨b, off, none⟩)) := by rfl) (hi : e.ev ix = some (.int kd j) := by rfl) (hj : j = (i : Int) := by first | rfl | omega) (hlt : i < n := by omega) (ho : off + i * sz = o := by omega) : Does Tryz.prog N w0 e R H ⟨some d, .indexAddr t x ix, ty, pos, aft, none⟩ (.pointer (some ⟨b, o, none⟩)) := does_atA i o hT.h hT.s hx hi hj hlt ho
def Sub (cs : List Value) (o : Nat) (r : List Value) : Prop := ∀ k, k < r.length → cs[o + k]? = r[k]?
theorem Rd.sub (i k : Nat) {g o o' : Nat} {t : TypeId} {cs r : List Value} {v : Value} (hi : H[i]? = some (HP.blk g t cs)) (hs : Sub cs o r) (ho : o' = o + k) (hv : r[k]? = some v) : Rd w0 R H g o' v := Rd.blk i hi (by
 rw [ho, hs k (List.getElem?_eq_some_iff.1 hv).1, hv])
theorem does_ldS {x : Operand} {t : TypeId} {b o : Nat} {v : Value} [hT : OneT t] (hx : e.ev x = some (.pointer (some ⟨b, o, none⟩))) (hr : Rd w0 R H b o v := by
  first | exact Rd.sub 0 0 rfl (by assumption) rfl rfl | exact Rd.sub 0 1 rfl (by assumption) rfl rfl | exact Rd.sub 0 2 rfl (by assumption) rfl rfl | exact Rd.sub 0 3 rfl (by assumption) rfl rfl | exact Rd.sub 0 4 rfl (by assumption) rfl rfl | exact Rd.sub 0 5 rfl (by assumption) rfl rfl | exact Rd.sub 0 6 rfl (by assumption) rfl rfl | exact Rd.sub 0 7 rfl (by assumption) rfl rfl | exact Rd.sub 0 8 rfl (by assumption) rfl rfl | exact Rd.sub 0 9 rfl (by assumption) rfl rfl | exact Rd.sub 0 10 rfl (by assumption) rfl rfl | exact Rd.sub 0 11 rfl (by assumption) rfl rfl) :
  Does Tryz.prog N w0 e R H ⟨some d, .load t x, ty, pos, aft, none⟩ v := does_load hT.h hx hr
theorem does_pn {x : Operand} {t u : TypeId} {p : Option Addr} (hx : e.ev x = some (.pointer p)) (ht : Tryz.prog.underlying t = some (.pointer (Tryz.prog.pointee t)) := by kernel_rfl) : Does Tryz.prog N w0 e R H ⟨some d, .binOp .eql t x (.const (.pointer none)) u, ty, pos, aft, none⟩ (.bool p.isNone) := does_of fun a w hr => by
 have h2 := hr.ev (show e.ev (.const (.pointer none)) = some (.pointer none) from rfl)
 simp [execOp, hr.ev hx, h2, eqGuard, run_eql_pointer_nil w t p ht]
theorem does_pN {x : Operand} {t u : TypeId} {p : Addr} (hx : e.ev x = some (.pointer (some p))) (ht : Tryz.prog.underlying t = some (.pointer (Tryz.prog.pointee t)) := by kernel_rfl) : Does Tryz.prog N w0 e R H ⟨some d, .binOp .eql t x (.const (.pointer none)) u, ty, pos, aft, none⟩ (.bool false) := does_pn hx ht
theorem does_pS {x : Operand} {t u : TypeId} {p : Addr} (hx : e.ev x = some (.pointer (some p))) (ht : Tryz.prog.underlying t = some (.pointer (Tryz.prog.pointee t)) := by kernel_rfl) : Does Tryz.prog N w0 e R H ⟨some d, .binOp .neq t x (.const (.pointer none)) u, ty, pos, aft, none⟩ (.bool true) := does_of fun a w hr => by
 have h2 := hr.ev (show e.ev (.const (.pointer none)) = some (.pointer none) from rfl)
 simp [execOp, hr.ev hx, h2, eqGuard, run_neq_pointer_nil w t (some p) ht]
theorem sh_move {x : Operand} (h : Does Tryz.prog N w0 e R H ⟨some d, .move x, ty, pos, aft, none⟩ v) : Does Tryz.prog N w0 e R H ⟨some d, .move x, ty, pos, aft, none⟩ v := h
theorem sh_assign {x : Operand} (h : Does Tryz.prog N w0 e R H ⟨some d, .assign x, ty, pos, aft, none⟩ v) : Does Tryz.prog N w0 e R H ⟨some d, .assign x, ty, pos, aft, none⟩ v := h
theorem sh_load {x : Operand} {t : TypeId} (h : Does Tryz.prog N w0 e R H ⟨some d, .load t x, ty, pos, aft, none⟩ v) : Does Tryz.prog N w0 e R H ⟨some d, .load t x, ty, pos, aft, none⟩ v := h
theorem sh_fieldAddr {x : Operand} {t : TypeId} {i : Nat} (h : Does Tryz.prog N w0 e R H ⟨some d, .fieldAddr t x i, ty, pos, aft, none⟩ v) : Does Tryz.prog N w0 e R H ⟨some d, .fieldAddr t x i, ty, pos, aft, none⟩ v := h
theorem sh_nilCheck {x : Operand} (h : Does Tryz.prog N w0 e R H ⟨some d, .nilCheck x, ty, pos, aft, none⟩ v) : Does Tryz.prog N w0 e R H ⟨some d, .nilCheck x, ty, pos, aft, none⟩ v := h
theorem sh_pick {x : Operand} {y : Operand} {z : Operand} (h : Does Tryz.prog N w0 e R H ⟨some d, .pick x y z, ty, pos, aft, none⟩ v) : Does Tryz.prog N w0 e R H ⟨some d, .pick x y z, ty, pos, aft, none⟩ v := h
theorem sh_binOp {x : Operand} {y : Operand} {t : TypeId} {u : TypeId} {b : BinOp} (h : Does Tryz.prog N w0 e R H ⟨some d, .binOp b t x y u, ty, pos, aft, none⟩ v) : Does Tryz.prog N w0 e R H ⟨some d, .binOp b t x y u, ty, pos, aft, none⟩ v := h
theorem sh_unOp {x : Operand} {t : TypeId} {c : UnOp} (h : Does Tryz.prog N w0 e R H ⟨some d, .unOp c t x, ty, pos, aft, none⟩ v) : Does Tryz.prog N w0 e R H ⟨some d, .unOp c t x, ty, pos, aft, none⟩ v := h
theorem sh_len {x : Operand} {t : TypeId} (h : Does Tryz.prog N w0 e R H ⟨some d, .call { callee := .builtin .len, args := #[x], argTypes := #[t] }, ty, pos, aft, none⟩ v) : Does Tryz.prog N w0 e R H ⟨some d, .call { callee := .builtin .len, args := #[x], argTypes := #[t] }, ty, pos, aft, none⟩ v := h
theorem sh_extract {x : Operand} {i : Nat} (h : Does Tryz.prog N w0 e R H ⟨some d, .extract x i, ty, pos, aft, none⟩ v) : Does Tryz.prog N w0 e R H ⟨some d, .extract x i, ty, pos, aft, none⟩ v := h
theorem sh_field {x : Operand} {t : TypeId} {i : Nat} (h : Does Tryz.prog N w0 e R H ⟨some d, .field t x i, ty, pos, aft, none⟩ v) : Does Tryz.prog N w0 e R H ⟨some d, .field t x i, ty, pos, aft, none⟩ v := h
theorem kdo (k : XK N w0 (wpList Tryz.prog ops Q rest) ((d, v) :: e) R H) (h : Does Tryz.prog N w0 e R H ⟨some d, op, ty, pos, aft, none⟩ v := by
  first
  | ((with_reducible apply sh_move); exact does_move rfl)
  | ((with_reducible apply sh_assign); exact does_assign rfl)
  | ((with_reducible apply sh_load); (first | exact does_ld1 rfl | exact does_ldA rfl | exact does_ldS rfl))
  | ((with_reducible apply sh_fieldAddr); exact does_fd rfl)
  | ((with_reducible apply sh_nilCheck); exact does_nilC rfl)
  | ((with_reducible apply sh_pick); (first | exact does_pickT rfl rfl | exact does_pickF rfl rfl))
  | ((with_reducible apply sh_binOp); (first | exact does_lss rfl rfl | exact does_leq rfl rfl | exact does_gtr rfl rfl | exact does_geq rfl rfl | exact does_eql rfl rfl | exact does_neq rfl rfl | exact does_add rfl rfl (wrap_in (by omega)) | exact does_sub rfl rfl (wrap_in (by omega)) | exact does_pN rfl | exact does_pS rfl | exact does_pn rfl))
  | ((with_reducible apply sh_unOp); (first | exact does_notD rfl | exact does_not rfl))
  | ((with_reducible apply sh_len); exact does_ln rfl)
  | ((with_reducible apply sh_extract); exact does_extract rfl rfl)
  | ((with_reducible apply sh_field); exact does_f1 rfl rfl)) (hd : d < N.n := by decide) : XK N w0 (wpList Tryz.prog ops Q (⟨some d, op, ty, pos, aft, none⟩ :: rest)) e R H :=
 xk_run rfl fun a w hr st => ⟨v, w, h a w hr st, k _ _ (hr.put hd v) st⟩
theorem kd (h : Does Tryz.prog N w0 e R H ⟨some d, op, ty, pos, aft, none⟩ v) (k : XK N w0 (wpList Tryz.prog ops Q rest) ((d, v) :: e) R H) (hd : d < N.n := by decide) : XK N w0 (wpList Tryz.prog ops Q (⟨some d, op, ty, pos, aft, none⟩ :: rest)) e R H :=
 xk_run rfl fun a w hr st => ⟨v, w, h a w hr st, k _ _ (hr.put hd v) st⟩
theorem kst {x y : Operand} {s : TypeId} {g o : Nat} {v : Value} [hT : OneT s] (hx : e.ev x = some (.pointer (some ⟨g, o, none⟩))) (hy : e.ev y = some v) (k : XK N w0 (wpList Tryz.prog ops Q rest) e R H') (hs : StoreAt Tryz.prog H s g o v H' := by
  first | (refine StoreAt.mk 0 rfl OneT.h rfl ?_; first | (simp; done) | omega | (simp; omega)) | (refine StoreAt.mk 1 rfl OneT.h rfl ?_; first | (simp; done) | omega | (simp; omega)) | (refine StoreAt.mk 2 rfl OneT.h rfl ?_; first | (simp; done) | omega | (simp; omega)) | (refine StoreAt.mk 3 rfl OneT.h rfl ?_; first | (simp; done) | omega | (simp; omega)) | (refine StoreAt.mk 4 rfl OneT.h rfl ?_; first | (simp; done) | omega | (simp; omega)) | (refine StoreAt.mk 5 rfl OneT.h rfl ?_; first | (simp; done) | omega | (simp; omega)) | (refine StoreAt.mk 6 rfl OneT.h rfl ?_; first | (simp; done) | omega | (simp; omega)) | (refine StoreAt.mk 7 rfl OneT.h rfl ?_; first | (simp; done) | omega | (simp; omega)) | (refine StoreAt.mk 8 rfl OneT.h rfl ?_; first | (simp; done) | omega | (simp; omega))) : XK N w0 (wpList Tryz.prog ops Q (⟨none, .store s x y, ty, pos, aft, none⟩ :: rest)) e R H := xk_st hx hy k hs
theorem kstW (i : Nat) {x y : Operand} {s t : TypeId} {g n : Nat} {cs vs : List Value} [hT : RwT s n] (hi : H[i]? = some (HP.blk g t cs)) (k : XK N w0 (wpList Tryz.prog ops Q rest) e R (H.set i (HP.blk g t vs))) (hx : e.ev x = some (.pointer (some ⟨g, 0, none⟩)) := by rfl) (hy : e.ev y = some (.agg vs.toArray) := by rfl) (hs : (Tryz.prog.info? s).any (·.size == vs.length) = true := by kernel_rfl) (h1 : vs.all Value.oneCell' = true := by rfl) (hl : vs.length = cs.length := by rfl) :
  XK N w0 (wpList Tryz.prog ops Q (⟨none, .store s x y, ty, pos, aft, none⟩ :: rest)) e R H := by
 refine xk_storeN i hi hx hy hs (fun u hu => List.all_eq_true.1 h1 u (by simpa [Value.cells] using hu)) (by simp [Value.cells]; omega) ?_
 have : putN cs 0 (Value.agg vs.toArray).cells.toList = vs := putN_all (by simpa [Value.cells] using hl)
 rw [this]
 exact k
theorem kopS {x y : Operand} {s : TypeId} (k : XK N w0 (wpList Tryz.prog ops Q (⟨none, .store s x y, ty, pos, aft, none⟩ :: rest)) e R H) : XK N w0 (wpList Tryz.prog ops Q (⟨none, .store s x y, ty, pos, aft, none⟩ :: rest)) e R H := k
theorem kop (k : XK N w0 (wpList Tryz.prog ops Q (o :: rest)) e R H) : XK N w0 (wpList Tryz.prog ops Q (o :: rest)) e R H := k
theorem kcond {c : Operand} {x y : Code} (k : XK N w0 ((Code.cond c x y).wp Tryz.prog Q) e R H) : XK N w0 ((Code.cond c x y).wp Tryz.prog Q) e R H := k
theorem XK.go (k : XK N w0 K' e' R' H') (hk : XK N w0 K' e' R' H' → XK N w0 K e R H := by
    intro h
    repeat' (first
      | ((with_reducible refine kop ?_)
         first
         | refine kdo ?_
         | refine xk_guardT rfl rfl ?_
         | refine xk_guardF rfl rfl rfl (by decide) ?_
         | refine xk_guardU rfl rfl (by decide) ?_
         | ((with_reducible refine kopS ?_); first | (refine kst rfl rfl ?_; dsimp only [List.set]) | (refine kstW 0 rfl ?_; dsimp only [List.set]) | (refine kstW 1 rfl ?_; dsimp only [List.set]) | (refine kstW 2 rfl ?_; dsimp only [List.set]) | (refine kstW 3 rfl ?_; dsimp only [List.set])))
      | with_reducible refine XK.nil ?_
      | with_reducible refine XK.thenN ?_
      | with_reducible refine XK.thenE ?_
      | with_reducible refine XK.thenR ?_
      | with_reducible refine XK.inN ?_
      | with_reducible refine XK.inE ?_
      | with_reducible refine XK.inR ?_
      | ((with_reducible refine XK.inF ?_ ?_); rfl)
      | with_reducible refine XK.seq ?_
      | with_reducible refine XK.region ?_
      | with_reducible refine XK.skip ?_
      | with_reducible refine XK.exit ?_
      | with_reducible refine XK.ret ?_
      | with_reducible refine XK.block ?_
      | ((with_reducible refine kcond ?_)
         first
         | (refine XK.cond (b := true) rfl (fun _ => ?_) (fun h => by cases h))
         | (refine XK.cond (b := false) rfl (fun h => by cases h) (fun _ => ?_))))
    exact h) : XK N w0 K e R H := hk k
def XQ (N : Frm) (w0 : World) (ops : Array Oper) (Q : Exit → Act → World → Prop) (rest : List Oper) (e : Env) (R : List Piece) (H : List HP) : Prop :=
 ∀ a, Rep N e a → wpQuiet Tryz.prog ops (St w0 R H) (fun a' => ∀ w', St w0 R H w' → Q .normal a' w') rest a
theorem XK.drawQ {id : Nat} {l : List Oper} (h : XQ N w0 l.toArray Q l e R H) (hB : Region.lexB .any l.toArray = true := by kernel_rfl) (hm : Tryz.prog.follows .mixedOrders = true := by kernel_rfl) : XK N w0 ((Code.region id l.toArray true).wp Tryz.prog Q) e R H := fun a w hr st =>
 wp_region_quiet hm hB (C := St w0 R H) st.drew (h a hr)
theorem XQ.nil (k : XK N w0 (Q .normal) e R H) : XQ N w0 ops Q [] e R H := fun a hr => wpQuiet_nil fun w' st => k a w' hr st
theorem XQ.run (k : XQ N w0 ops Q rest ((d, v) :: e) R H) (hd : d < N.n) (h : ∀ a w, Rep N e a → St w0 R H w → (⟨some d, op, ty, pos, aft, none⟩ : Oper).quietAt Tryz.prog a (St w0 R H) w v) : XQ N w0 ops Q (⟨some d, op, ty, pos, aft, none⟩ :: rest) e R H := fun a hr =>
 wpQuiet_step fun K hK => by
  rw [if_pos (by simp [Region.wanted])]
  exact ⟨v, fun w hw => h a w hr hw, hK _ (k _ (hr.put hd v))⟩
theorem XQ.do_ (k : XQ N w0 ops Q rest ((d, v) :: e) R H) (h : Does Tryz.prog N w0 e R H ⟨some d, op, ty, pos, aft, none⟩ v := by
  first
  | ((with_reducible apply sh_move); exact does_move rfl)
  | ((with_reducible apply sh_assign); exact does_assign rfl)
  | ((with_reducible apply sh_load); (first | exact does_ld1 rfl | exact does_ldA rfl | exact does_ldS rfl))
  | ((with_reducible apply sh_fieldAddr); exact does_fd rfl)
  | ((with_reducible apply sh_nilCheck); exact does_nilC rfl)
  | ((with_reducible apply sh_pick); (first | exact does_pickT rfl rfl | exact does_pickF rfl rfl))
  | ((with_reducible apply sh_binOp); (first | exact does_lss rfl rfl | exact does_leq rfl rfl | exact does_gtr rfl rfl | exact does_geq rfl rfl | exact does_eql rfl rfl | exact does_neq rfl rfl | exact does_add rfl rfl (wrap_in (by omega)) | exact does_sub rfl rfl (wrap_in (by omega)) | exact does_pN rfl | exact does_pS rfl | exact does_pn rfl))
  | ((with_reducible apply sh_unOp); (first | exact does_notD rfl | exact does_not rfl))
  | ((with_reducible apply sh_len); exact does_ln rfl)
  | ((with_reducible apply sh_extract); exact does_extract rfl rfl)
  | ((with_reducible apply sh_field); exact does_f1 rfl rfl)) (hd : d < N.n := by decide) : XQ N w0 ops Q (⟨some d, op, ty, pos, aft, none⟩ :: rest) e R H := XQ.run k hd fun a w hr st => by
 unfold Oper.quietAt
 rw [h a w hr st]
 exact ⟨rfl, rfl⟩
theorem XQ.kd (h : Does Tryz.prog N w0 e R H ⟨some d, op, ty, pos, aft, none⟩ v) (k : XQ N w0 ops Q rest ((d, v) :: e) R H) (hd : d < N.n := by decide) : XQ N w0 ops Q (⟨some d, op, ty, pos, aft, none⟩ :: rest) e R H := XQ.do_ k h hd
theorem XQ.gT (k : XQ N w0 ops Q (⟨some d, op, ty, pos, aft, none⟩ :: rest) e R H) (hj : (ops[j]?).bind (·.dst) = some t := by rfl) (ht : e.get t = some (.bool want) := by rfl) : XQ N w0 ops Q (⟨some d, op, ty, pos, aft, some (j, want)⟩ :: rest) e R H := fun a hr => by
 have h := k a hr
 have hw : Region.wanted (⟨some d, op, ty, pos, aft, some (j, want)⟩ : Oper) (yielded ops a.tmps) = true := by
  simp only [Region.wanted, yielded, hj, Option.bind_some, hr.get t _ ht]
  simp
 unfold wpQuiet at h ⊢
 rw [if_pos hw]
 rw [if_pos (by simp [Region.wanted])] at h
 exact h
theorem XQ.gF {b : Bool} (k : XQ N w0 ops Q rest ((d, undef) :: e) R H) (hj : (ops[j]?).bind (·.dst) = some t := by rfl) (ht : e.get t = some (.bool b) := by rfl) (hb : b = !want := by rfl) (hd : d < N.n := by decide) : XQ N w0 ops Q (⟨some d, op, ty, pos, aft, some (j, want)⟩ :: rest) e R H := fun a hr => by
 have hw : Region.wanted (⟨some d, op, ty, pos, aft, some (j, want)⟩ : Oper) (yielded ops a.tmps) = false := by
  simp only [Region.wanted, yielded, hj, Option.bind_some, hr.get t _ ht, hb]
  simp
 unfold wpQuiet
 rw [if_neg (by rw [hw]; simp)]
 exact k _ (hr.put hd undef)
theorem XQ.gU (k : XQ N w0 ops Q rest ((d, undef) :: e) R H) (hj : (ops[j]?).bind (·.dst) = some t := by rfl) (ht : e.get t = some undef := by rfl) (hd : d < N.n := by decide) : XQ N w0 ops Q (⟨some d, op, ty, pos, aft, some (j, want)⟩ :: rest) e R H := fun a hr => by
 have hw : Region.wanted (⟨some d, op, ty, pos, aft, some (j, want)⟩ : Oper) (yielded ops a.tmps) = false := by
  simp only [Region.wanted, yielded, hj, Option.bind_some, hr.get t _ ht]
  simp [undef]
 unfold wpQuiet
 rw [if_neg (by rw [hw]; simp)]
 exact k _ (hr.put hd undef)
theorem Rep.as {a : Act} {u : Value} (h : Rep N e a) (ht : e.get t = some u) : Rep N ((t, u) :: e) a := ⟨h.size, h.defers, fun s v hs => by
 unfold Env.get at hs
 split at hs
 ·rename_i hk
  have := Nat.eq_of_beq_eq_true hk
  subst this
  cases hs
  exact h.get _ _ ht
 ·exact h.get _ _ hs⟩
theorem XQ.split {p : Prop} [Decidable p] (t : Nat) (ht : e.get t = some (.bool (decide p))) (h1 : p → XQ N w0 ops Q rest ((t, .bool true) :: e) R H) (h2 : ¬ p → XQ N w0 ops Q rest ((t, .bool false) :: e) R H) : XQ N w0 ops Q rest e R H := by
 by_cases hp : p
 ·rw [decide_eq_true hp] at ht
  exact fun a hr => h1 hp a (hr.as ht)
 ·rw [decide_eq_false hp] at ht
  exact fun a hr => h2 hp a (hr.as ht)
theorem XQ.splitB {b : Bool} (t : Nat) (ht : e.get t = some (.bool b)) (h1 : b = true → XQ N w0 ops Q rest ((t, .bool true) :: e) R H) (h2 : b = false → XQ N w0 ops Q rest ((t, .bool false) :: e) R H) : XQ N w0 ops Q rest e R H := by
 cases b
 ·exact fun a hr => h2 rfl a (hr.as ht)
 ·exact fun a hr => h1 rfl a (hr.as ht)
theorem XQ.callC {f : FuncId} {x : Operand} {args : List Operand} {fi ca vs : List Value} {tys : Array TypeId} (hc : ∀ w, St w0 R H w → Calls Tryz.prog f (fi ++ vs ++ ca).toArray w (Rt v w)) (k : XQ N w0 ops Q rest ((d, v) :: e) R H) (hx : e.ev x = some (.func (.func f) fi.toArray ca.toArray) := by rfl) (ha : e.evs args = some vs := by rfl) (hf : callB Tryz.prog f = true := by kernel_rfl) (hd : d < N.n := by decide) :
  XQ N w0 ops Q (⟨some d, .call { callee := .value x, args := args.toArray, argTypes := tys }, ty, pos, aft, none⟩ :: rest) e R H := XQ.run k hd fun a w hr st => by
 unfold callB at hf
 cases hq : Tryz.prog.funcs[f]? with
 | none => simp [hq] at hf
 | some fn =>
  simp [hq] at hf
  obtain ⟨hf1, hf2⟩ := hf
  have hrun : (execOp a.eval (⟨some d, .call { callee := .value x, args := args.toArray, argTypes := tys }, ty, pos, aft, none⟩ : Oper)).run Tryz.prog w = .ok (.enter f (fi ++ vs ++ ca).toArray) w := by
   cases hb : fn.body with
   | none => simp [hb] at hf2
   | some c => simp [execOp, resolve, hr.ev hx, Deferred.ofValue, invoke, callFunc, hq, hf1, hb, hr.evs ha]
  unfold Oper.quietAt
  rw [hrun]
  exact ⟨rfl, (hc w st).mono fun y w' ⟨hy, hb⟩ => ⟨hy, st.call hb⟩⟩
theorem XQ.call {f : FuncId} {x : Operand} {args : List Operand} {vs : List Value} {tys : Array TypeId} (hc : ∀ w, St w0 R H w → Calls Tryz.prog f vs.toArray w (Rt v w)) (k : XQ N w0 ops Q rest ((d, v) :: e) R H) (hx : e.ev x = some (.func (.func f) #[] #[]) := by rfl) (ha : e.evs args = some vs := by rfl) (hf : callB Tryz.prog f = true := by kernel_rfl) (hd : d < N.n := by decide) :
  XQ N w0 ops Q (⟨some d, .call { callee := .value x, args := args.toArray, argTypes := tys }, ty, pos, aft, none⟩ :: rest) e R H := XQ.callC (fi := []) (ca := []) (fun w st => by simpa using hc w st) k hx ha hf hd
theorem XQ.at_ (k : XQ N w0 ops Q (o :: rest) e R H) : XQ N w0 ops Q (o :: rest) e R H := k
theorem XQ.go {rest' : List Oper} (k : XQ N w0 ops Q rest' e' R H) (hk : XQ N w0 ops Q rest' e' R H → XQ N w0 ops Q rest e R H := by
  intro h
  repeat' ((with_reducible refine XQ.at_ ?_); first | refine XQ.do_ ?_ | refine XQ.gT ?_ | refine XQ.gF ?_ | refine XQ.gU ?_)
  exact h) : XQ N w0 ops Q rest e R H := hk k
theorem XQ.end_ (k : XK N w0 K' e' R H) (hk : XK N w0 K' e' R H → XQ N w0 ops Q rest e R H := by
  intro h
  repeat' ((with_reducible refine XQ.at_ ?_); first | refine XQ.do_ ?_ | refine XQ.gT ?_ | refine XQ.gF ?_ | refine XQ.gU ?_)
  refine XQ.nil ?_
  exact h) : XQ N w0 ops Q rest e R H := hk k
theorem kcallC {f : FuncId} {x : Operand} {args : List Operand} {fi ca vs : List Value} {tys : Array TypeId} (hc : ∀ w, St w0 R H w → Calls Tryz.prog f (fi ++ vs ++ ca).toArray w (Rt v w)) (k : XK N w0 (wpList Tryz.prog ops Q rest) ((d, v) :: e) R H) (hx : e.ev x = some (.func (.func f) fi.toArray ca.toArray) := by rfl) (ha : e.evs args = some vs := by rfl) (hf : callB Tryz.prog f = true := by kernel_rfl) (hd : d < N.n := by decide) :
  XK N w0 (wpList Tryz.prog ops Q (⟨some d, .call { callee := .value x, args := args.toArray, argTypes := tys }, ty, pos, aft, none⟩ :: rest)) e R H := xk_callR hf hx ha hd hc k
theorem kcall {f : FuncId} {x : Operand} {args : List Operand} {vs : List Value} {tys : Array TypeId} (hc : ∀ w, St w0 R H w → Calls Tryz.prog f vs.toArray w (Rt v w)) (k : XK N w0 (wpList Tryz.prog ops Q rest) ((d, v) :: e) R H) (hx : e.ev x = some (.func (.func f) #[] #[]) := by rfl) (ha : e.evs args = some vs := by rfl) (hf : callB Tryz.prog f = true := by kernel_rfl) (hd : d < N.n := by decide) :
  XK N w0 (wpList Tryz.prog ops Q (⟨some d, .call { callee := .value x, args := args.toArray, argTypes := tys }, ty, pos, aft, none⟩ :: rest)) e R H := kcallC (fi := []) (ca := []) (fun w st => by simpa using hc w st) k hx ha hf hd
theorem XA.q (i : Nat) (k : XA Tryz.prog N w0 ops Q R0 H0 m fuel (listed.setIfInBounds i true) ((d, v) :: e) R H) (hi : ops[i]? = some ⟨some d, op, ty, pos, aft, none⟩ := by rfl) (hdo : Does Tryz.prog N w0 e R0 H0 ⟨some d, op, ty, pos, aft, none⟩ v := by
  first
  | ((with_reducible apply sh_move); exact does_move rfl)
  | ((with_reducible apply sh_assign); exact does_assign rfl)
  | ((with_reducible apply sh_load); (first | exact does_ld1 rfl | exact does_ldA rfl | exact does_ldS rfl))
  | ((with_reducible apply sh_fieldAddr); exact does_fd rfl)
  | ((with_reducible apply sh_nilCheck); exact does_nilC rfl)
  | ((with_reducible apply sh_pick); (first | exact does_pickT rfl rfl | exact does_pickF rfl rfl))
  | ((with_reducible apply sh_binOp); (first | exact does_lss rfl rfl | exact does_leq rfl rfl | exact does_gtr rfl rfl | exact does_geq rfl rfl | exact does_eql rfl rfl | exact does_neq rfl rfl | exact does_add rfl rfl (wrap_in (by omega)) | exact does_sub rfl rfl (wrap_in (by omega)) | exact does_pN rfl | exact does_pS rfl | exact does_pn rfl))
  | ((with_reducible apply sh_unOp); (first | exact does_notD rfl | exact does_not rfl))
  | ((with_reducible apply sh_len); exact does_ln rfl)
  | ((with_reducible apply sh_extract); exact does_extract rfl rfl)
  | ((with_reducible apply sh_field); exact does_f1 rfl rfl)) (hd : d < N.n := by decide)
  (hc : (Region.free .any ops listed i && (Region.ready .any ops listed).contains i && decide (i < m)) = true := by kernel_rfl) (hQ : ∀ c a w, Q (.panic c) (a.put (some d) v) w → Q (.panic c) a w := by exact fun _ _ _ h => h)
  (hsub : ∀ w, St w0 R H w → St w0 R0 H0 w := by first | exact fun _ h => h | exact fun _ h => h.tail | exact fun _ h => h.tailR | exact fun _ h => h.tail.tail | exact fun _ h => h.tailR.tail | exact fun _ h => h.tailR.tailR) : XA Tryz.prog N w0 ops Q R0 H0 m (fuel + 1) listed e R H := XA.do_ i hi rfl rfl hd hdo hc hQ hsub k
theorem XK.fn {nn : Nat} {f : FuncId} {fn : Func} {c : Code} {vs : List Value} {w : World} {Post : Ending → World → Prop} (h : XK ⟨nn, []⟩ w (c.wp Tryz.prog (bodyPost Tryz.prog fn Post)) (argEnv 0 vs) [all w] []) (hf : Tryz.prog.funcs[f]? = some fn) (hb : fn.body = some c := by rfl) (hN : fn.ntmps = nn := by rfl) (hl : vs.length ≤ nn := by simp) : Calls Tryz.prog f vs.toArray w Post := XK.enter hf hb hN hl h
theorem XK.retE {nn : Nat} {fn : Func} {t : Nat} {v v' : Value} {w : World} (hR : all w ∈ R) (hv : v = v') (hr : fn.results = #[.tmp t] := by rfl) (ht : e.get t = some v := by rfl) : XK ⟨nn, []⟩ w (bodyPost Tryz.prog fn (Rt v' w) .ret) e R H := XK.ret1 hr ht fun w1 st => ⟨by rw [hv], st.below hR⟩
end
end
section
instance : OneT 3 := ⟨by kernel_rfl⟩
instance : OneT 4 := ⟨by kernel_rfl⟩
instance : OneT 5 := ⟨by kernel_rfl⟩
instance : OneT 22 := ⟨by kernel_rfl⟩
instance : SlT 22 3 1 := ⟨by kernel_rfl, by kernel_rfl⟩
instance : OneT 24 := ⟨by kernel_rfl⟩
instance : SlT 24 118 6 := ⟨by kernel_rfl, by kernel_rfl⟩
instance : OneT 25 := ⟨by kernel_rfl⟩
instance : SlT 25 75 3 := ⟨by kernel_rfl, by kernel_rfl⟩
instance : OneT 26 := ⟨by kernel_rfl⟩
instance : SlT 26 120 1 := ⟨by kernel_rfl, by kernel_rfl⟩
instance : OneT 27 := ⟨by kernel_rfl⟩
instance : SlT 27 78 6 := ⟨by kernel_rfl, by kernel_rfl⟩
instance : Off 29 0 0 := ⟨by kernel_rfl⟩
instance : FdT 29 0 0 := ⟨by kernel_rfl⟩
instance : Off 29 1 1 := ⟨by kernel_rfl⟩
instance : Off 29 2 2 := ⟨by kernel_rfl⟩
instance : Off 29 3 3 := ⟨by kernel_rfl⟩
instance : RwT 29 4 := ⟨by kernel_rfl⟩
instance : OneT 31 := ⟨by kernel_rfl⟩
instance : OneT 39 := ⟨by kernel_rfl⟩
instance : SlT 39 44 1 := ⟨by kernel_rfl, by kernel_rfl⟩
instance : Off 43 0 0 := ⟨by kernel_rfl⟩
instance : Off 43 1 1 := ⟨by kernel_rfl⟩
instance : Off 43 2 2 := ⟨by kernel_rfl⟩
instance : Off 43 3 3 := ⟨by kernel_rfl⟩
instance : RwT 43 4 := ⟨by kernel_rfl⟩
instance : OneT 44 := ⟨by kernel_rfl⟩
instance : SlT 52 159 4 := ⟨by kernel_rfl, by kernel_rfl⟩
instance : OneT 55 := ⟨by kernel_rfl⟩
instance : OneT 57 := ⟨by kernel_rfl⟩
instance : OneT 61 := ⟨by kernel_rfl⟩
instance : Off 63 0 0 := ⟨by kernel_rfl⟩
instance : Off 63 1 1 := ⟨by kernel_rfl⟩
instance : RwT 63 2 := ⟨by kernel_rfl⟩
instance : OneT 66 := ⟨by kernel_rfl⟩
instance : SlT 66 4 1 := ⟨by kernel_rfl, by kernel_rfl⟩
instance : Off 68 0 0 := ⟨by kernel_rfl⟩
instance : Off 68 1 1 := ⟨by kernel_rfl⟩
instance : Off 68 2 2 := ⟨by kernel_rfl⟩
instance : RwT 68 3 := ⟨by kernel_rfl⟩
instance : ArT 69 2 68 3 := ⟨by kernel_rfl, by kernel_rfl⟩
instance : RwT 69 6 := ⟨by kernel_rfl⟩
instance : Off 71 0 0 := ⟨by kernel_rfl⟩
instance : RwT 71 6 := ⟨by kernel_rfl⟩
instance : Off 75 0 0 := ⟨by kernel_rfl⟩
instance : Off 75 1 1 := ⟨by kernel_rfl⟩
instance : Off 75 2 2 := ⟨by kernel_rfl⟩
instance : RwT 75 3 := ⟨by kernel_rfl⟩
instance : OneT 76 := ⟨by kernel_rfl⟩
instance : SlT 76 92 2 := ⟨by kernel_rfl, by kernel_rfl⟩
instance : Off 78 0 0 := ⟨by kernel_rfl⟩
instance : Off 78 1 1 := ⟨by kernel_rfl⟩
instance : Off 78 2 2 := ⟨by kernel_rfl⟩
instance : Off 78 3 3 := ⟨by kernel_rfl⟩
instance : Off 78 4 4 := ⟨by kernel_rfl⟩
instance : Off 78 5 5 := ⟨by kernel_rfl⟩
instance : RwT 78 6 := ⟨by kernel_rfl⟩
instance : Off 92 0 0 := ⟨by kernel_rfl⟩
instance : Off 92 1 1 := ⟨by kernel_rfl⟩
instance : RwT 92 2 := ⟨by kernel_rfl⟩
instance : OneT 113 := ⟨by kernel_rfl⟩
instance : Off 118 0 0 := ⟨by kernel_rfl⟩
instance : Off 118 1 1 := ⟨by kernel_rfl⟩
instance : Off 118 2 2 := ⟨by kernel_rfl⟩
instance : Off 118 3 3 := ⟨by kernel_rfl⟩
instance : Off 118 4 4 := ⟨by kernel_rfl⟩
instance : Off 118 5 5 := ⟨by kernel_rfl⟩
instance : RwT 118 6 := ⟨by kernel_rfl⟩
instance : Off 120 0 0 := ⟨by kernel_rfl⟩
instance : RwT 120 1 := ⟨by kernel_rfl⟩
instance : OneT 122 := ⟨by kernel_rfl⟩
instance : OneT 125 := ⟨by kernel_rfl⟩
instance : OneT 128 := ⟨by kernel_rfl⟩
instance : OneT 131 := ⟨by kernel_rfl⟩
instance : OneT 132 := ⟨by kernel_rfl⟩
instance : SlT 132 141 6 := ⟨by kernel_rfl, by kernel_rfl⟩
instance : Off 134 0 0 := ⟨by kernel_rfl⟩
instance : Off 134 1 1 := ⟨by kernel_rfl⟩
instance : Off 134 2 2 := ⟨by kernel_rfl⟩
instance : Off 134 3 3 := ⟨by kernel_rfl⟩
instance : Off 134 4 4 := ⟨by kernel_rfl⟩
instance : OneT 135 := ⟨by kernel_rfl⟩
instance : OneT 138 := ⟨by kernel_rfl⟩
instance : Off 141 0 0 := ⟨by kernel_rfl⟩
instance : Off 141 1 1 := ⟨by kernel_rfl⟩
instance : Off 141 2 2 := ⟨by kernel_rfl⟩
instance : Off 141 3 3 := ⟨by kernel_rfl⟩
instance : Off 141 4 4 := ⟨by kernel_rfl⟩
instance : Off 141 5 5 := ⟨by kernel_rfl⟩
instance : RwT 141 6 := ⟨by kernel_rfl⟩
instance : Off 147 0 0 := ⟨by kernel_rfl⟩
instance : Off 147 1 1 := ⟨by kernel_rfl⟩
instance : RwT 147 2 := ⟨by kernel_rfl⟩
instance : ArT 148 2 147 2 := ⟨by kernel_rfl, by kernel_rfl⟩
instance : Off 150 0 0 := ⟨by kernel_rfl⟩
instance : Off 150 1 1 := ⟨by kernel_rfl⟩
instance : Off 150 2 5 := ⟨by kernel_rfl⟩
instance : Off 150 3 11 := ⟨by kernel_rfl⟩
instance : Off 150 4 15 := ⟨by kernel_rfl⟩
instance : Off 150 5 16 := ⟨by kernel_rfl⟩
instance : Off 150 6 17 := ⟨by kernel_rfl⟩
instance : RwT 159 4 := ⟨by kernel_rfl⟩
instance : SlT 163 166 2 := ⟨by kernel_rfl, by kernel_rfl⟩
instance : Off 166 0 0 := ⟨by kernel_rfl⟩
instance : Off 166 1 1 := ⟨by kernel_rfl⟩
instance : RwT 166 2 := ⟨by kernel_rfl⟩
instance : SlT 203 22 1 := ⟨by kernel_rfl, by kernel_rfl⟩
instance : OneT 223 := ⟨by kernel_rfl⟩
instance : SlT 223 227 11 := ⟨by kernel_rfl, by kernel_rfl⟩
instance : Off 225 0 0 := ⟨by kernel_rfl⟩
instance : Off 227 0 0 := ⟨by kernel_rfl⟩
instance : Off 227 1 6 := ⟨by kernel_rfl⟩
instance : Off 227 2 7 := ⟨by kernel_rfl⟩
instance : Off 227 3 8 := ⟨by kernel_rfl⟩
instance : Off 227 4 9 := ⟨by kernel_rfl⟩
instance : Off 227 5 10 := ⟨by kernel_rfl⟩
instance : RwT 227 11 := ⟨by kernel_rfl⟩
instance : OneT 228 := ⟨by kernel_rfl⟩
instance : SlT 228 232 7 := ⟨by kernel_rfl, by kernel_rfl⟩
instance : Off 230 0 0 := ⟨by kernel_rfl⟩
instance : Off 232 0 0 := ⟨by kernel_rfl⟩
instance : Off 232 1 3 := ⟨by kernel_rfl⟩
instance : Off 232 2 4 := ⟨by kernel_rfl⟩
instance : Off 232 3 5 := ⟨by kernel_rfl⟩
instance : Off 232 4 6 := ⟨by kernel_rfl⟩
instance : OneT 233 := ⟨by kernel_rfl⟩
instance : Off 235 0 0 := ⟨by kernel_rfl⟩
instance : Off 237 1 1 := ⟨by kernel_rfl⟩
instance : Off 237 2 2 := ⟨by kernel_rfl⟩
instance : Off 237 3 3 := ⟨by kernel_rfl⟩
instance : RwT 237 4 := ⟨by kernel_rfl⟩
instance : Off 240 0 0 := ⟨by kernel_rfl⟩
instance : Off 240 1 1 := ⟨by kernel_rfl⟩
instance : Off 240 2 2 := ⟨by kernel_rfl⟩
instance : Off 240 3 3 := ⟨by kernel_rfl⟩
instance : Off 242 0 0 := ⟨by kernel_rfl⟩
instance : Off 242 1 1 := ⟨by kernel_rfl⟩
instance : OneT 243 := ⟨by kernel_rfl⟩
instance : SlT 243 265 1 := ⟨by kernel_rfl, by kernel_rfl⟩
instance : Off 245 0 0 := ⟨by kernel_rfl⟩
instance : Off 245 1 1 := ⟨by kernel_rfl⟩
instance : Off 260 0 0 := ⟨by kernel_rfl⟩
instance : Off 260 1 1 := ⟨by kernel_rfl⟩
instance : Off 260 2 2 := ⟨by kernel_rfl⟩
instance : Off 260 3 3 := ⟨by kernel_rfl⟩
instance : RwT 260 4 := ⟨by kernel_rfl⟩
instance : OneT 265 := ⟨by kernel_rfl⟩
instance : SlT 265 260 4 := ⟨by kernel_rfl, by kernel_rfl⟩
instance : ArT 270 4 5 1 := ⟨by kernel_rfl, by kernel_rfl⟩
instance : ArT 273 3 5 1 := ⟨by kernel_rfl, by kernel_rfl⟩
instance : Off 275 0 0 := ⟨by kernel_rfl⟩
instance : Off 275 1 1 := ⟨by kernel_rfl⟩
instance : Off 275 2 2 := ⟨by kernel_rfl⟩
instance : RwT 275 5 := ⟨by kernel_rfl⟩
instance : SlT 345 113 1 := ⟨by kernel_rfl, by kernel_rfl⟩
instance : OneT 350 := ⟨by kernel_rfl⟩
end
section
section
variable {P : Program} {N : Frm} {w0 : World} {K : Act → World → Prop} {e : Env} {R : List Piece} {H H' : List HP} {Q : Exit → Act → World → Prop} {ops : Array Oper} {rest : List Oper}
variable {d : Nat} {ty : TypeId} {pos : String} {aft : Array Edge}
def dfd (f : FuncId) (fi ca : List Value) : Deferred := { target := .fn (.func f) ca.toArray, args := fi.toArray }
theorem xk_defer {x : Operand} {tys : Array TypeId} {f : FuncId} {fi ca : List Value} (hx : e.ev x = some (.func (.func f) fi.toArray ca.toArray)) (k : XK ⟨N.n, dfd f fi ca :: N.D⟩ w0 (wpList P ops Q rest) e R H) :
  XK N w0 (wpList P ops Q (⟨none, .defer { callee := .value x, args := #[], argTypes := tys }, ty, pos, aft, none⟩ :: rest)) e R H := fun a w hr st => wpList_plain rfl fun K hK => by
 have hrun : (execOp a.eval (⟨none, .defer { callee := .value x, args := #[], argTypes := tys }, ty, pos, aft, none⟩ : Oper)).run P w = .ok (.defer (dfd f fi ca)) w := by
  simp [execOp, resolve, hr.ev hx, Deferred.ofValue, dfd]
 unfold Oper.wp
 rw [hrun]
 exact hK _ _ (k { a with defers := dfd f fi ca :: a.defers } w ⟨hr.size, by show _ :: _ = _ :: _; rw [hr.defers], hr.get⟩ st)
theorem invoke_dfd {f : FuncId} {fi ca : List Value} (hf : callB P f = true) (w : World) : (invoke (.fn (.func f) ca.toArray) fi.toArray).run P w = .ok (.enter f (fi ++ ca).toArray) w := by
 unfold callB at hf
 cases hq : P.funcs[f]? with
 | none => simp [hq] at hf
 | some fn =>
  simp [hq] at hf
  obtain ⟨hf1, hf2⟩ := hf
  cases hb : fn.body with
  | none => simp [hb] at hf2
  | some c => simp [invoke, callFunc, hq, hf1, hb]
theorem XK.leaveR {nn : Nat} {f : FuncId} {fi ca : List Value} {fn : Func} {Post : Ending → World → Prop} (hf : callB P f = true)
  (hcl : ∀ w, St w0 R H w → CallsD P f (fi ++ ca).toArray .returning w fun y u' w' => (∃ v, y = .returned v) ∧ u' = .returning ∧ St w0 R H' w')
  (hres : ∀ a w, Rep ⟨nn, [dfd f fi ca]⟩ e a → St w0 R H' w → ∃ v, (results fn a.tmps).run P w = .ok v w ∧ Post (.returned v) w) :
  XK ⟨nn, [dfd f fi ca]⟩ w0 (bodyPostD P fn Post .ret) e R H := fun a w hr st => by
 show Leaves P fn a.tmps Post a.defers .returning w
 rw [hr.defers]
 refine leaves_cons (by simp) (invoke_dfd hf w) ((hcl w st).mono ?_)
 rintro y u' w' ⟨⟨v, rfl⟩, rfl, st'⟩
 obtain ⟨v', h1, h2⟩ := hres a w' hr st'
 exact ⟨v', h1, h2⟩
end
end
section
set_option maxHeartbeats 4000000
set_option maxRecDepth 20000
def and32 (a b : Int) : Int := IntKind.u32.wrap (BitVec.ofInt 32 a &&& BitVec.ofInt 32 b).toNat
def andN32 (a b : Int) : Int := IntKind.u32.wrap (BitVec.ofInt 32 a &&& ~~~ BitVec.ofInt 32 b).toNat
def or32 (a b : Int) : Int := IntKind.u32.wrap (BitVec.ofInt 32 a ||| BitVec.ofInt 32 b).toNat
theorem u32_bd (a : Int) : 0 ≤ IntKind.u32.wrap a ∧ IntKind.u32.wrap a < 4294967296 := by
 unfold IntKind.wrap
 simp only [IntKind.signed, IntKind.bits, Bool.false_and, Bool.false_eq_true, if_false]
 exact ⟨Int.emod_nonneg _ (by decide), Int.emod_lt_of_pos _ (by decide)⟩
def maskZ (many at' : Int) : Int := IntKind.u32.wrap (IntKind.u64.wrap (IntKind.u64.wrap (IntKind.u64.wrap (1 * 2 ^ min many.toNat 64) - 1) * 2 ^ min at'.toNat 64))
def getZ (w low many : Int) : Int := and32 (w.fdiv (2 ^ min low.toNat 32)) (maskZ many 0)
def putZ (w low many v : Int) : Int × Int := if andN32 v (maskZ many 0) ≠ 0 then (0, 1) else (or32 (andN32 w (maskZ many low)) (IntKind.u32.wrap (v * 2 ^ min low.toNat 32)), 0)
def putW (w low many v : Int) : Int × Int := if v < 0 ∨ IntKind.i64.wrap (1 * 2 ^ min many.toNat 64) ≤ v then (0, 1) else if (putZ w low many (IntKind.u32.wrap v)).2 ≠ 0 then (0, 1) else ((putZ w low many (IntKind.u32.wrap v)).1, 0)
def okF (low many : Int) : Prop := 1 ≤ many ∧ many ≤ 32 ∧ 0 ≤ low ∧ low ≤ 32 - many
def FieldOk (many : Int) (v : Value) (w w' : World) : Prop := ∃ g, v = .tuple #[.func (.func 258) #[] #[.pointer (some ⟨g, 0, none⟩)], .bool true] ∧ RP (fresh w w') g 0 (.int .i64 many)
theorem field1_any (a many : Int) (g : Nat) (w : World) (h : ROc w g 0 (.int .i64 many)) (ha : 0 ≤ a) (hm : 0 ≤ many) :
  Calls Tryz.prog 258 #[.int .i64 a, .pointer (some ⟨g, 0, none⟩)] w (Rt (.int .u32 (maskZ many a)) w) := by
 refine XK.enter (vs := [.int .i64 a, .pointer (some ⟨g, 0, none⟩)]) Tryz.func258 rfl Tryz.ntmps258 (by simp) ?_
 refine XK.seq ?_
 refine XK.region ?_
 refine xk_assign rfl (by decide) ?_
 refine XK.nilN ?_
 refine XK.seq ?_
 refine XK.region ?_
 refine xk_load (by kernel_rfl) rfl (Rd.roc (by simp) h) (by decide) ?_
 refine xk_shl rfl rfl (by omega) rfl (by decide) ?_
 refine xk_sub rfl rfl rfl (by decide) ?_
 refine xk_move rfl (by decide) ?_
 refine xk_shl rfl rfl (by omega) rfl (by decide) ?_
 refine xk_conv (kd := .u32) (ds := .int .u64) (by kernel_rfl) (by kernel_rfl) rfl rfl (by decide) ?_
 refine xk_assign rfl (by decide) ?_
 refine XK.nilN ?_
 refine XK.ret ?_
 refine XK.norm ?_
 exact XK.ret1 rfl rfl fun w1 st => ⟨rfl, st.below (by simp)⟩
theorem field_any (low many : Int) (w : World) (hok : okF low many) : Calls Tryz.prog 244 #[.int .i64 low, .int .i64 many] w (fun y w' => (∃ x, y = .returned x ∧ FieldOk many x w w') ∧ Below w.heap.size w w') := by
 refine XK.enter (vs := [.int .i64 low, .int .i64 many]) Tryz.func244 rfl Tryz.ntmps244 (by simp) ?_
 refine XK.seq ?_
 refine XK.region ?_
 refine xk_box rfl (by decide) fun g1 => ?_
 refine xk_assign rfl (by decide) ?_
 refine xk_assign rfl (by decide) ?_
 refine XK.nilN ?_
 refine XK.seq ?_
 refine XK.seq ?_
 refine XK.region ?_
 refine xk_ld rfl ?_
 refine xk_lss rfl rfl (by decide) ?_
 refine xk_move rfl (by decide) ?_
 (first | refine xk_split (t := 8) rfl (fun hg => ?_) (fun hg => ?_) | refine xk_splitB (t := 8) rfl (fun hg => ?_) (fun hg => ?_))
 ·
  refine xk_guardF rfl rfl rfl (by decide) ?_
  refine xk_guardF rfl rfl rfl (by decide) ?_
  (first | refine xk_pickT rfl rfl (by decide) ?_ | refine xk_pickF rfl rfl (by decide) ?_)
  refine xk_move rfl (by decide) ?_
  refine xk_guardF rfl rfl rfl (by decide) ?_
  refine xk_guardF rfl rfl rfl (by decide) ?_
  (first | refine xk_pickT rfl rfl (by decide) ?_ | refine xk_pickF rfl rfl (by decide) ?_)
  refine xk_move rfl (by decide) ?_
  refine xk_guardF rfl rfl rfl (by decide) ?_
  refine xk_guardF rfl rfl rfl (by decide) ?_
  refine xk_guardF rfl rfl rfl (by decide) ?_
  refine xk_guardF rfl rfl rfl (by decide) ?_
  (first | refine xk_pickT rfl rfl (by decide) ?_ | refine xk_pickF rfl rfl (by decide) ?_)
  refine XK.nilN ?_
  refine XK.cond rfl (fun _ => ?_) (fun h => by cases h)
  refine XK.seq ?_
  refine XK.region ?_
  refine xk_assign rfl (by decide) ?_
  refine xk_assign rfl (by decide) ?_
  refine XK.nilN ?_
  refine XK.ret ?_
  refine XK.norm ?_
  exact absurd hok (by unfold okF; omega)
 ·
  refine xk_guardT rfl rfl ?_; refine xk_ld rfl ?_
  refine xk_guardT rfl rfl ?_; refine xk_gtr rfl rfl (by decide) ?_
  (first | refine xk_pickT rfl rfl (by decide) ?_ | refine xk_pickF rfl rfl (by decide) ?_)
  refine xk_move rfl (by decide) ?_
  (first | refine xk_split (t := 12) rfl (fun hg => ?_) (fun hg => ?_) | refine xk_splitB (t := 12) rfl (fun hg => ?_) (fun hg => ?_))
  ·
   refine xk_guardF rfl rfl rfl (by decide) ?_
   refine xk_guardF rfl rfl rfl (by decide) ?_
   (first | refine xk_pickT rfl rfl (by decide) ?_ | refine xk_pickF rfl rfl (by decide) ?_)
   refine xk_move rfl (by decide) ?_
   refine xk_guardF rfl rfl rfl (by decide) ?_
   refine xk_guardF rfl rfl rfl (by decide) ?_
   refine xk_guardF rfl rfl rfl (by decide) ?_
   refine xk_guardF rfl rfl rfl (by decide) ?_
   (first | refine xk_pickT rfl rfl (by decide) ?_ | refine xk_pickF rfl rfl (by decide) ?_)
   refine XK.nilN ?_
   refine XK.cond rfl (fun _ => ?_) (fun h => by cases h)
   refine XK.seq ?_
   refine XK.region ?_
   refine xk_assign rfl (by decide) ?_
   refine xk_assign rfl (by decide) ?_
   refine XK.nilN ?_
   refine XK.ret ?_
   refine XK.norm ?_
   exact absurd hok (by unfold okF; omega)
  ·
   refine xk_guardT rfl rfl ?_; refine xk_move rfl (by decide) ?_
   refine xk_guardT rfl rfl ?_; refine xk_lss rfl rfl (by decide) ?_
   (first | refine xk_pickT rfl rfl (by decide) ?_ | refine xk_pickF rfl rfl (by decide) ?_)
   refine xk_move rfl (by decide) ?_
   (first | refine xk_split (t := 16) rfl (fun hg => ?_) (fun hg => ?_) | refine xk_splitB (t := 16) rfl (fun hg => ?_) (fun hg => ?_))
   ·
    refine xk_guardF rfl rfl rfl (by decide) ?_
    refine xk_guardF rfl rfl rfl (by decide) ?_
    refine xk_guardF rfl rfl rfl (by decide) ?_
    refine xk_guardF rfl rfl rfl (by decide) ?_
    (first | refine xk_pickT rfl rfl (by decide) ?_ | refine xk_pickF rfl rfl (by decide) ?_)
    refine XK.nilN ?_
    refine XK.cond rfl (fun _ => ?_) (fun h => by cases h)
    refine XK.seq ?_
    refine XK.region ?_
    refine xk_assign rfl (by decide) ?_
    refine xk_assign rfl (by decide) ?_
    refine XK.nilN ?_
    refine XK.ret ?_
    refine XK.norm ?_
    exact absurd hok (by unfold okF; omega)
   ·
    refine xk_guardT rfl rfl ?_; refine xk_move rfl (by decide) ?_
    refine xk_guardT rfl rfl ?_; refine xk_ld rfl ?_
    refine xk_guardT rfl rfl ?_; refine xk_sub rfl rfl (wrap_in (by omega)) (by decide) ?_
    refine xk_guardT rfl rfl ?_; refine xk_gtr rfl rfl (by decide) ?_
    (first | refine xk_pickT rfl rfl (by decide) ?_ | refine xk_pickF rfl rfl (by decide) ?_)
    refine XK.nilN ?_
    refine XK.if_ rfl (fun h => ?_) (fun h => ?_)
    ·
     refine XK.seq ?_
     refine XK.region ?_
     refine xk_assign rfl (by decide) ?_
     refine xk_assign rfl (by decide) ?_
     refine XK.nilN ?_
     refine XK.ret ?_
     refine XK.norm ?_
     exact absurd hok (by unfold okF; omega)
    ·
     refine XK.skip ?_
     refine XK.norm ?_
     refine XK.seq ?_
     refine XK.region ?_
     refine xk_func (vf := []) (vc := [.pointer (some ⟨g1, 0, none⟩)]) rfl rfl (by decide) ?_
     refine xk_assign rfl (by decide) ?_
     refine xk_assign rfl (by decide) ?_
     refine XK.nilN ?_
     refine XK.ret ?_
     refine XK.norm ?_
     refine XK.still [] [0] [] (by simp) rfl (by decide) (by decide) fun q hq _ hfr => ?_
     refine XK.ret2 rfl rfl rfl fun w1 st => ⟨⟨_, rfl, g1, rfl, (RP.of_blk (o := 0) (v := .int .i64 many) (hq 0 _ (by simp) rfl) rfl).le (st.fresh_le (by simp) (hfr (by simp) (by simp)))⟩, st.below (by simp)⟩
theorem get_any (w0 low many : Int) (w : World) (hok : okF low many) :
  Calls Tryz.prog 250 #[.int .u32 w0, .int .i64 low, .int .i64 many] w (Rt (.tuple #[.int .u32 (getZ w0 low many), .int .i64 0]) w) := by
 refine XK.enter (vs := [.int .u32 w0, .int .i64 low, .int .i64 many]) Tryz.func250 rfl Tryz.ntmps250 (by simp) ?_
 refine XK.seq ?_
 refine XK.region ?_
 refine xk_assign rfl (by decide) ?_
 refine xk_assign rfl (by decide) ?_
 refine XK.nilN ?_
 refine XK.seq ?_
 refine XK.region ?_
 refine xk_move rfl (by decide) ?_
 refine xk_move rfl (by decide) ?_
 refine xk_call [] (f := 244) (fi := []) (ca := []) (by kernel_rfl) rfl rfl (by decide) (by simp) (FieldOk many) (fun w1 st => field_any low many w1 hok) ?_
 rintro _ w1 q1 ⟨g, rfl, hrp⟩ hf _ _
 have hrp := hrp.le hf
 clear hf
 refine xk_move rfl (by decide) ?_
 refine xk_extract rfl rfl (by decide) ?_
 refine xk_extract rfl rfl (by decide) ?_
 refine xk_assign rfl (by decide) ?_
 refine xk_assign rfl (by decide) ?_
 refine XK.nilN ?_
 refine XK.seq ?_
 refine XK.seq ?_
 refine XK.region ?_
 refine xk_move rfl (by decide) ?_
 (first | refine xk_notD rfl (by decide) ?_ | refine xk_not rfl (by decide) ?_)
 refine XK.nilN ?_
 refine XK.cond rfl (fun h => ?_) (fun h => ?_)
 ·
  refine XK.seq ?_
  refine XK.region ?_
  refine xk_assign rfl (by decide) ?_
  refine xk_assign rfl (by decide) ?_
  refine XK.nilN ?_
  refine XK.ret ?_
  refine XK.norm ?_
  exact absurd h (by simp)
 ·
  refine XK.skip ?_
  refine XK.norm ?_
  refine XK.seq ?_
  refine XK.draw 5 (by kernel_rfl) (by kernel_rfl) ?_
  refine XA.dA 0 rfl rfl rfl (does_move rfl) ?_
  refine XA.dA 1 rfl rfl rfl (does_move rfl) ?_
  refine XA.dA 2 rfl rfl rfl (does_shr rfl rfl (by unfold okF at hok; omega) rfl) ?_
  refine XA.dA 3 rfl rfl rfl (does_move rfl) ?_
  refine XA.next 4 rfl (by kernel_rfl) ?_
  refine xk_callR (f := 258) (fi := []) (ca := [.pointer (some ⟨g, 0, none⟩)]) (by kernel_rfl) rfl rfl (by decide) (fun w1 st => field1_any 0 many g w1 (hrp.le (st.le (by simp))) (by unfold okF at hok; omega) (by unfold okF at hok; omega)) ?_
  refine XA.bk ?_
  refine XA.next 5 rfl (by kernel_rfl) ?_
  refine xk_bits (c := getZ w0 low many) rfl rfl (fun _ => rfl) (by simp) (by decide) ?_
  refine XA.bt ?_
  refine XA.next 6 rfl (by kernel_rfl) ?_
  refine xk_assign rfl (by decide) ?_
  refine XA.bt ?_
  refine XA.next 7 rfl (by kernel_rfl) ?_
  refine xk_assign rfl (by decide) ?_
  refine XA.bt ?_
  refine XA.done (by kernel_rfl) ?_
  refine XK.norm ?_
  refine XK.ret ?_
  refine XK.norm ?_
  exact XK.ret2 rfl rfl rfl fun w1 st => ⟨rfl, st.below (by simp)⟩
theorem putb_any (w0 low many v : Int) (w : World) (hok : okF low many) :
  Calls Tryz.prog 218 #[.int .u32 w0, .int .i64 low, .int .i64 many, .int .u32 v] w (Rt (.tuple #[.int .u32 (putZ w0 low many v).1, .int .i64 (putZ w0 low many v).2]) w) := by
 refine XK.enter (vs := [.int .u32 w0, .int .i64 low, .int .i64 many, .int .u32 v]) Tryz.func218 rfl Tryz.ntmps218 (by simp) ?_
 refine XK.seq ?_
 refine XK.region ?_
 refine xk_assign rfl (by decide) ?_
 refine xk_assign rfl (by decide) ?_
 refine XK.nilN ?_
 refine XK.seq ?_
 refine XK.region ?_
 refine xk_move rfl (by decide) ?_
 refine xk_move rfl (by decide) ?_
 refine xk_call [] (f := 244) (fi := []) (ca := []) (by kernel_rfl) rfl rfl (by decide) (by simp) (FieldOk many) (fun w1 st => field_any low many w1 hok) ?_
 rintro _ w1 q1 ⟨g, rfl, hrp⟩ hf _ _
 have hrp := hrp.le hf
 clear hf
 refine xk_move rfl (by decide) ?_
 refine xk_extract rfl rfl (by decide) ?_
 refine xk_extract rfl rfl (by decide) ?_
 refine xk_assign rfl (by decide) ?_
 refine xk_assign rfl (by decide) ?_
 refine XK.nilN ?_
 refine XK.seq ?_
 refine XK.seq ?_
 refine XK.region ?_
 refine xk_move rfl (by decide) ?_
 (first | refine xk_notD rfl (by decide) ?_ | refine xk_not rfl (by decide) ?_)
 refine XK.nilN ?_
 refine XK.cond rfl (fun h => ?_) (fun h => ?_)
 ·
  refine XK.seq ?_
  refine XK.region ?_
  refine xk_assign rfl (by decide) ?_
  refine xk_assign rfl (by decide) ?_
  refine XK.nilN ?_
  refine XK.ret ?_
  refine XK.norm ?_
  exact absurd h (by simp)
 ·
  refine XK.skip ?_
  refine XK.norm ?_
  refine XK.seq ?_
  refine XK.seq ?_
  refine XK.region ?_
  refine xk_move rfl (by decide) ?_
  refine xk_move rfl (by decide) ?_
  refine xk_callR (f := 258) (fi := []) (ca := [.pointer (some ⟨g, 0, none⟩)]) (by kernel_rfl) rfl rfl (by decide) (fun w1 st => field1_any 0 many g w1 (hrp.le (st.le (by simp))) (by unfold okF at hok; omega) (by unfold okF at hok; omega)) ?_
  refine xk_bits (c := andN32 v (maskZ many 0)) rfl rfl (fun _ => rfl) (by simp) (by decide) ?_
  refine xk_neq rfl rfl (by decide) ?_
  refine XK.nilN ?_
  refine XK.if_ rfl (fun h => ?_) (fun h => ?_)
  ·
   refine XK.seq ?_
   refine XK.region ?_
   refine xk_assign rfl (by decide) ?_
   refine xk_assign rfl (by decide) ?_
   refine XK.nilN ?_
   refine XK.ret ?_
   refine XK.norm ?_
   refine XK.ret2 rfl rfl rfl fun w1 st => ⟨by rw [putZ, if_pos h], st.below (by simp)⟩
  ·
   refine XK.skip ?_
   refine XK.norm ?_
   refine XK.seq ?_
   refine XK.draw 8 (by kernel_rfl) (by kernel_rfl) ?_
   refine XA.dA 0 rfl rfl rfl (does_move rfl) ?_
   refine XA.dA 1 rfl rfl rfl (does_move rfl) ?_
   refine XA.dA 2 rfl rfl rfl (does_move rfl) ?_
   refine XA.dA 5 rfl rfl rfl (does_move rfl) ?_
   refine XA.dA 6 rfl rfl rfl (does_move rfl) ?_
   refine XA.dA 7 rfl rfl rfl (does_shl rfl rfl (by unfold okF at hok; omega) rfl) ?_
   refine XA.next 3 rfl (by kernel_rfl) ?_
   refine xk_callR (f := 258) (fi := []) (ca := [.pointer (some ⟨g, 0, none⟩)]) (by kernel_rfl) rfl rfl (by decide) (fun w1 st => field1_any low many g w1 (hrp.le (st.le (by simp))) (by unfold okF at hok; omega) (by unfold okF at hok; omega)) ?_
   refine XA.bk ?_
   refine XA.dA 4 rfl rfl rfl (does_bits (c := andN32 w0 (maskZ many low)) rfl rfl (fun _ => rfl) (by simp)) ?_
   refine XA.next 8 rfl (by kernel_rfl) ?_
   refine xk_bits (c := or32 (andN32 w0 (maskZ many low)) (IntKind.u32.wrap (v * 2 ^ min low.toNat 32))) rfl rfl (fun _ => rfl) (by simp) (by decide) ?_
   refine XA.bt ?_
   refine XA.next 9 rfl (by kernel_rfl) ?_
   refine xk_assign rfl (by decide) ?_
   refine XA.bt ?_
   refine XA.next 10 rfl (by kernel_rfl) ?_
   refine xk_assign rfl (by decide) ?_
   refine XA.bt ?_
   refine XA.done (by kernel_rfl) ?_
   refine XK.norm ?_
   refine XK.ret ?_
   refine XK.norm ?_
   refine XK.ret2 rfl rfl rfl fun w1 st => ⟨by rw [putZ, if_neg h], st.below (by simp)⟩
theorem part_any (w0 low many : Int) (w : World) (hok : okF low many) :
  Calls Tryz.prog 230 #[.int .u32 w0, .int .i64 low, .int .i64 many] w (Rt (.int .i64 (getZ w0 low many)) w) := by
 refine XK.enter (vs := [.int .u32 w0, .int .i64 low, .int .i64 many]) Tryz.func230 rfl Tryz.ntmps230 (by simp) ?_
 refine XK.go ?_
 refine xk_callR (f := 250) (fi := []) (ca := []) (by kernel_rfl) rfl rfl (by decide) (fun w1 st => get_any w0 low many w1 hok) ?_
 refine XK.go ?_
 refine xk_conv (ds := .int .u32) (by kernel_rfl) (by kernel_rfl) rfl (wrap_in (by have := u32_bd (BitVec.ofInt 32 (w0.fdiv (2 ^ min low.toNat 32)) &&& BitVec.ofInt 32 (maskZ many 0)).toNat; unfold getZ and32; omega)) (by decide) ?_
 refine XK.go ?_
 exact XK.ret1 rfl rfl fun w1 st => ⟨rfl, st.below (by simp)⟩
theorem put_any (w0 low many v : Int) (w : World) (hok : okF low many) :
  Calls Tryz.prog 149 #[.int .u32 w0, .int .i64 low, .int .i64 many, .int .i64 v] w (Rt (.tuple #[.int .u32 (putW w0 low many v).1, .int .i64 (putW w0 low many v).2]) w) := by
 refine XK.enter (vs := [.int .u32 w0, .int .i64 low, .int .i64 many, .int .i64 v]) Tryz.func149 rfl Tryz.ntmps149 (by simp) ?_
 refine XK.seq ?_
 refine XK.region ?_
 refine xk_assign rfl (by decide) ?_
 refine xk_assign rfl (by decide) ?_
 refine XK.nilN ?_
 refine XK.seq ?_
 refine XK.seq ?_
 refine XK.region ?_
 refine xk_move rfl (by decide) ?_
 refine xk_lss rfl rfl (by decide) ?_
 refine xk_move rfl (by decide) ?_
 (first | refine xk_split (t := 13) rfl (fun hg => ?_) (fun hg => ?_) | refine xk_splitB (t := 13) rfl (fun hg => ?_) (fun hg => ?_))
 ·
  refine xk_guardF rfl rfl rfl (by decide) ?_
  refine xk_guardF rfl rfl rfl (by decide) ?_
  refine xk_guardF rfl rfl rfl (by decide) ?_
  refine xk_guardF rfl rfl rfl (by decide) ?_
  (first | refine xk_pickT rfl rfl (by decide) ?_ | refine xk_pickF rfl rfl (by decide) ?_)
  refine XK.nilN ?_
  refine XK.cond rfl (fun _ => ?_) (fun h => by cases h)
  refine XK.seq ?_
  refine XK.region ?_
  refine xk_assign rfl (by decide) ?_
  refine xk_assign rfl (by decide) ?_
  refine XK.nilN ?_
  refine XK.ret ?_
  refine XK.norm ?_
  refine XK.ret2 rfl rfl rfl fun w1 st => ⟨by rw [putW, if_pos (.inl hg)], st.below (by simp)⟩
 ·
  refine xk_guardT rfl rfl ?_; refine xk_move rfl (by decide) ?_
  refine xk_guardT rfl rfl ?_; refine xk_move rfl (by decide) ?_
  refine xk_guardT rfl rfl ?_; refine xk_shl rfl rfl (by unfold okF at hok; omega) rfl (by decide) ?_
  refine xk_guardT rfl rfl ?_; refine xk_geq rfl rfl (by decide) ?_
  (first | refine xk_pickT rfl rfl (by decide) ?_ | refine xk_pickF rfl rfl (by decide) ?_)
  refine XK.nilN ?_
  refine XK.if_ rfl (fun h => ?_) (fun h => ?_)
  ·
   refine XK.seq ?_
   refine XK.region ?_
   refine xk_assign rfl (by decide) ?_
   refine xk_assign rfl (by decide) ?_
   refine XK.nilN ?_
   refine XK.ret ?_
   refine XK.norm ?_
   refine XK.ret2 rfl rfl rfl fun w1 st => ⟨by rw [putW, if_pos (.inr h)], st.below (by simp)⟩
  ·
   refine XK.skip ?_
   have hno : ¬ (v < 0 ∨ IntKind.i64.wrap (1 * 2 ^ min many.toNat 64) ≤ v) := fun h2 => h2.elim hg h
   refine XK.norm ?_
   refine XK.seq ?_
   refine XK.region ?_
   refine xk_move rfl (by decide) ?_
   refine xk_move rfl (by decide) ?_
   refine xk_move rfl (by decide) ?_
   refine xk_move rfl (by decide) ?_
   refine xk_conv (kd := .u32) (ds := .int .i64) (by kernel_rfl) (by kernel_rfl) rfl rfl (by decide) ?_
   refine xk_callR (f := 218) (fi := []) (ca := []) (by kernel_rfl) rfl rfl (by decide) (fun w1 st => putb_any w0 low many (IntKind.u32.wrap v) w1 hok) ?_
   refine xk_move rfl (by decide) ?_
   refine xk_extract rfl rfl (by decide) ?_
   refine xk_extract rfl rfl (by decide) ?_
   refine xk_assign rfl (by decide) ?_
   refine xk_assign rfl (by decide) ?_
   refine XK.nilN ?_
   refine XK.seq ?_
   refine XK.seq ?_
   refine XK.region ?_
   refine xk_move rfl (by decide) ?_
   refine xk_neq rfl rfl (by decide) ?_
   refine XK.nilN ?_
   refine XK.if_ rfl (fun h2 => ?_) (fun h2 => ?_)
   ·
    refine XK.seq ?_
    refine XK.region ?_
    refine xk_assign rfl (by decide) ?_
    refine xk_assign rfl (by decide) ?_
    refine XK.nilN ?_
    refine XK.ret ?_
    refine XK.norm ?_
    refine XK.ret2 rfl rfl rfl fun w1 st => ⟨by rw [putW, if_neg hno, if_pos h2], st.below (by simp)⟩
   ·
    refine XK.skip ?_
    refine XK.norm ?_
    refine XK.seq ?_
    refine XK.region ?_
    refine xk_move rfl (by decide) ?_
    refine xk_assign rfl (by decide) ?_
    refine xk_assign rfl (by decide) ?_
    refine XK.nilN ?_
    refine XK.ret ?_
    refine XK.norm ?_
    refine XK.ret2 rfl rfl rfl fun w1 st => ⟨by rw [putW, if_neg hno, if_neg h2]; rfl, st.below (by simp)⟩
end
section
set_option maxHeartbeats 4000000
set_option maxRecDepth 20000
def packZ (m t p k : Int) : Int × Int :=
 if (putW 0 0 8 m).2 ≠ 0 then (0, (putW 0 0 8 m).2)
 else if (putW (putW 0 0 8 m).1 8 2 t).2 ≠ 0 then (0, (putW (putW 0 0 8 m).1 8 2 t).2)
 else if (putW (putW (putW 0 0 8 m).1 8 2 t).1 10 8 p).2 ≠ 0 then (0, (putW (putW (putW 0 0 8 m).1 8 2 t).1 10 8 p).2)
 else if (putW (putW (putW (putW 0 0 8 m).1 8 2 t).1 10 8 p).1 18 10 k).2 ≠ 0 then (0, (putW (putW (putW (putW 0 0 8 m).1 8 2 t).1 10 8 p).1 18 10 k).2)
 else ((putW (putW (putW (putW 0 0 8 m).1 8 2 t).1 10 8 p).1 18 10 k).1, 0)
def headC (m t p k : Int) : List Value := [.int .i64 m, .int .i64 t, .int .i64 p, .int .i64 k]
def unpackH (w : Int) : List Value := if getZ w 28 4 ≠ 0 then headC 0 0 0 0 else headC (getZ w 0 8) (getZ w 8 2) (getZ w 10 8) (getZ w 18 10)
def unpackE (w : Int) : Int := if getZ w 28 4 ≠ 0 then 2 else 0
theorem u32Cells_one (l : List Int) : ∀ u ∈ u32Cells l, u.oneCell' = true := by
 intro u hu
 simp only [u32Cells, List.mem_map] at hu
 obtain ⟨_, _, rfl⟩ := hu
 rfl
def RowOk (l : List Int) (v : Value) (w w' : World) : Prop := ∃ A c, v = .slice A l.length c ∧ SlS (fresh w w') 1 A l.length (u32Cells l)
theorem pack_any (m t p k : Int) (w : World) :
  Calls Tryz.prog 69 #[.agg #[.int .i64 m, .int .i64 t, .int .i64 p, .int .i64 k]] w (Rt (.tuple #[.int .u32 (packZ m t p k).1, .int .i64 (packZ m t p k).2]) w) := by
 refine XK.enter (vs := [.agg #[.int .i64 m, .int .i64 t, .int .i64 p, .int .i64 k]]) Tryz.func69 rfl Tryz.ntmps69 (by simp) ?_
 refine XK.go ?_
 refine xk_box rfl (by decide) fun g1 => ?_
 refine XK.go ?_
 refine xk_callR (f := 149) (fi := []) (ca := []) (by kernel_rfl) rfl rfl (by decide) (fun w1 st => put_any 0 0 8 m w1 (by unfold okF; omega)) ?_
 refine XK.go ?_
 refine XK.if_ rfl (fun h1 => ?_) (fun h1 => ?_)
 ·
  refine XK.go ?_
  refine XK.ret2 rfl rfl rfl fun w1 st => ⟨by rw [packZ, if_pos h1]; rfl, st.below (by simp)⟩
 ·
  refine XK.go ?_
  refine xk_callR (f := 149) (fi := []) (ca := []) (by kernel_rfl) rfl rfl (by decide) (fun w1 st => put_any (putW 0 0 8 m).1 8 2 t w1 (by unfold okF; omega)) ?_
  refine XK.go ?_
  refine XK.if_ rfl (fun h2 => ?_) (fun h2 => ?_)
  ·
   refine XK.go ?_
   refine XK.ret2 rfl rfl rfl fun w1 st => ⟨by rw [packZ, if_neg h1, if_pos h2]; rfl, st.below (by simp)⟩
  ·
   refine XK.go ?_
   refine xk_callR (f := 149) (fi := []) (ca := []) (by kernel_rfl) rfl rfl (by decide) (fun w1 st => put_any (putW (putW 0 0 8 m).1 8 2 t).1 10 8 p w1 (by unfold okF; omega)) ?_
   refine XK.go ?_
   refine XK.if_ rfl (fun h3 => ?_) (fun h3 => ?_)
   ·
    refine XK.go ?_
    refine XK.ret2 rfl rfl rfl fun w1 st => ⟨by rw [packZ, if_neg h1, if_neg h2, if_pos h3]; rfl, st.below (by simp)⟩
   ·
    refine XK.go ?_
    refine xk_callR (f := 149) (fi := []) (ca := []) (by kernel_rfl) rfl rfl (by decide) (fun w1 st => put_any (putW (putW (putW 0 0 8 m).1 8 2 t).1 10 8 p).1 18 10 k w1 (by unfold okF; omega)) ?_
    refine XK.go ?_
    refine XK.if_ rfl (fun h4 => ?_) (fun h4 => ?_)
    ·
     refine XK.go ?_
     refine XK.ret2 rfl rfl rfl fun w1 st => ⟨by rw [packZ, if_neg h1, if_neg h2, if_neg h3, if_pos h4]; rfl, st.below (by simp)⟩
    ·
     refine XK.go ?_
     refine XK.ret2 rfl rfl rfl fun w1 st => ⟨by rw [packZ, if_neg h1, if_neg h2, if_neg h3, if_neg h4]; rfl, st.below (by simp)⟩
theorem unpack_any (w0 : Int) (w : World) :
  Calls Tryz.prog 175 #[.int .u32 w0] w (Rt (.tuple #[.agg (unpackH w0).toArray, .int .i64 (unpackE w0)]) w) := by
 refine XK.enter (vs := [.int .u32 w0]) Tryz.func175 rfl Tryz.ntmps175 (by simp) ?_
 refine XK.go ?_
 refine xk_alloc (cs := [.int .i64 0, .int .i64 0, .int .i64 0, .int .i64 0]) (zeroB_of (by kernel_rfl)) (by decide) fun g1 => ?_
 refine XK.go ?_
 refine xk_callR (f := 230) (fi := []) (ca := []) (by kernel_rfl) rfl rfl (by decide) (fun w1 st => part_any w0 28 4 w1 (by unfold okF; omega)) ?_
 refine XK.go ?_
 refine XK.if_ rfl (fun h => ?_) (fun h => ?_)
 ·
  refine XK.go ?_
  refine xk_buildS (zs := [.int .i64 0, .int .i64 0, .int .i64 0, .int .i64 0]) (L := [(0, 1), (1, 1), (2, 1), (3, 1)]) (zeroB_of (by kernel_rfl)) (by kernel_rfl) rfl (by simp [fillL, setN, Value.cells]; rfl) (by decide) ?_
  refine xk_stN rfl rfl ?_; simp only [putN, Value.cells, List.set, List.take, List.drop, List.nil_append, List.append_nil, List.length_cons, List.length_nil, List.cons_append, Nat.reduceAdd]
  refine XK.go ?_
  refine XK.retCT rfl (n := 4) (vs := headC 0 0 0 0) (by kernel_rfl) rfl rfl (RdN.whole 0 rfl) rfl fun w1 st => ⟨by rw [unpackH, unpackE, if_pos h, if_pos h], st.below (by simp)⟩
 ·
  refine XK.go ?_
  refine xk_callR (f := 230) (fi := []) (ca := []) (by kernel_rfl) rfl rfl (by decide) (fun w1 st => part_any w0 0 8 w1 (by unfold okF; omega)) ?_
  refine XK.go ?_
  refine xk_callR (f := 230) (fi := []) (ca := []) (by kernel_rfl) rfl rfl (by decide) (fun w1 st => part_any w0 8 2 w1 (by unfold okF; omega)) ?_
  refine XK.go ?_
  refine xk_callR (f := 230) (fi := []) (ca := []) (by kernel_rfl) rfl rfl (by decide) (fun w1 st => part_any w0 10 8 w1 (by unfold okF; omega)) ?_
  refine XK.go ?_
  refine xk_callR (f := 230) (fi := []) (ca := []) (by kernel_rfl) rfl rfl (by decide) (fun w1 st => part_any w0 18 10 w1 (by unfold okF; omega)) ?_
  refine xk_buildS (zs := [.int .i64 0, .int .i64 0, .int .i64 0, .int .i64 0]) (L := [(0, 1), (1, 1), (2, 1), (3, 1)]) (zeroB_of (by kernel_rfl)) (by kernel_rfl) rfl (by simp [fillL, setN, Value.cells]; rfl) (by decide) ?_
  refine xk_stN rfl rfl ?_; simp only [putN, Value.cells, List.set, List.take, List.drop, List.nil_append, List.append_nil, List.length_cons, List.length_nil, List.cons_append, Nat.reduceAdd]
  refine XK.go ?_
  refine XK.retCT rfl (n := 4) (vs := headC (getZ w0 0 8) (getZ w0 8 2) (getZ w0 10 8) (getZ w0 18 10)) (by kernel_rfl) rfl rfl (RdN.whole 0 rfl) rfl fun w1 st => ⟨by rw [unpackH, unpackE, if_neg h, if_neg h], st.below (by simp)⟩
theorem row_any (w0 : Int) (A : Option Addr) (n c : Nat) (zs : List Int) (w : World) (hs : SlS (all w) 1 A n (u32Cells zs)) (hn : n = zs.length) (hn2 : n ≤ 1000000) : Calls Tryz.prog 70 #[.int .u32 w0, .slice A n c] w (fun y w' => (∃ x, y = .returned x ∧ RowOk (w0 :: zs) x w w') ∧ Below w.heap.size w w') := by
 refine XK.enter (vs := [.int .u32 w0, .slice A n c]) Tryz.func70 rfl Tryz.ntmps70 (by simp) ?_
 refine XK.go ?_
 refine xk_makeCapT 1 4 (el := 44) (c := n + 1) (k0 := 1) (kd' := .i64) (by kernel_rfl) (by kernel_rfl) rfl (by rw [Int.natCast_add]; rfl) (by omega) (by omega) (by decide) fun g1 => ?_
 refine XK.go ?_
 refine xk_slice (el := 44) (sz := 1) (zs := [.int .u32 0]) (by kernel_rfl) (zeroB_of (by kernel_rfl)) (by kernel_rfl) rfl (by decide) (by decide) rfl (by simp [fillL, setN, Value.cells, List.range_succ, List.set]; rfl) (by decide) fun g2 => ?_
 refine xk_appendT 1 1 4 1 (n' := 1) (el := 44) (by kernel_rfl) (by kernel_rfl) (by decide) rfl rfl rfl (sl_blk 0 rfl rfl) (by simp [Value.oneCell']) rfl (by omega) (by omega) (by decide) fun A1 c1 => ?_
 dsimp only [List.set]
 refine XK.go ?_
 refine xk_appendT 1 1 4 n (n' := n + 1) (el := 44) (by kernel_rfl) (by kernel_rfl) (by decide) rfl rfl rfl (sl_ro (by simp) hs) (u32Cells_one _) (by omega) (by omega) (by omega) (by decide) fun A2 c2 => ?_
 dsimp only [List.set]
 refine XK.go ?_
 refine XK.still [] [1] [] (by simp) rfl (by decide) (by decide) fun q hq _ hfr => ?_
 obtain ⟨F2, sf2, zf2⟩ := hq 1 _ (by simp) rfl
 obtain ⟨Am, cm, hBm, hsm⟩ := SlS.of_own (Y := q.Z) sf2 zf2
 cases hBm
 subst hn
 refine XK.ret1 rfl rfl fun w1 st => ⟨⟨_, rfl, A2, c2, rfl, ?_⟩, st.below (by simp)⟩
 exact SlS.le hsm (st.fresh_le (by simp) (hfr (by simp) (by simp)))
def CmdOk (l : List Int) (v : Value) (w w' : World) : Prop := ∃ A c, v = .tuple #[.slice A l.length c, .int .i64 0] ∧ SlS (fresh w w') 1 A l.length (u32Cells l)
theorem command_any (m t p k : Int) (A : Option Addr) (n c : Nat) (zs : List Int) (w : World) (hs : SlS (all w) 1 A n (u32Cells zs)) (hn : n = zs.length) (hn2 : n ≤ 1000000) (hok : (packZ m t p k).2 = 0) : Calls Tryz.prog 18 #[.agg #[.int .i64 m, .int .i64 t, .int .i64 p, .int .i64 k], .slice A n c] w (fun y w' => (∃ x, y = .returned x ∧ CmdOk ((packZ m t p k).1 :: zs) x w w') ∧ Below w.heap.size w w') := by
 refine XK.enter (vs := [.agg #[.int .i64 m, .int .i64 t, .int .i64 p, .int .i64 k], .slice A n c]) Tryz.func18 rfl Tryz.ntmps18 (by simp) ?_
 refine XK.go ?_
 refine xk_box rfl (by decide) fun g1 => ?_
 refine XK.go ?_
 refine xk_callR (f := 69) (fi := []) (ca := []) (by kernel_rfl) rfl rfl (by decide) (fun w1 st => pack_any m t p k w1) ?_
 refine XK.go ?_
 refine XK.if_ rfl (fun h => ?_) (fun h => ?_)
 ·
  refine XK.go ?_
  exact absurd hok h
 ·
  refine XK.go ?_
  refine xk_call [] (f := 70) (fi := []) (ca := []) (by kernel_rfl) rfl rfl (by decide) (by simp) (RowOk ((packZ m t p k).1 :: zs)) (fun w1 st => row_any (packZ m t p k).1 A n c zs w1 (hs.le (st.le (by simp))) hn hn2) ?_
  rintro _ w1 q1 ⟨A1, c1, rfl, h1⟩ hf _ hF1
  have hF1 := hF1 (by simp)
  have h1 := h1.le hf
  clear hf
  refine XK.go ?_
  refine XK.ret2 rfl rfl rfl fun w1 st => ⟨⟨_, rfl, A1, c1, rfl, SlS.le h1 (st.fresh_le (by simp) hF1)⟩, st.below (by simp)⟩
end
section
theorem intCells_one (l : List Int) : ∀ u ∈ intCells l, u.oneCell' = true := by
 intro u hu
 simp only [intCells, List.mem_map] at hu
 obtain ⟨x, _, rfl⟩ := hu
 rfl
end
section
def LessG (g : List (List Int)) : Prop := ∀ (k : Nat) (l : List Int), g[k]? = some l → ∀ u ∈ l, 0 ≤ u ∧ u < (k : Int)
theorem LessG.in {g : List (List Int)} (h : LessG g) : InG g := by
 intro l hl u hu
 obtain ⟨k, hk⟩ := List.getElem?_of_mem hl
 have := h k l hk u hu
 have := (List.getElem?_eq_some_iff.1 hk).1
 omega
theorem LessG.next {g : List (List Int)} (h : LessG g) {k : Nat} (hk : k < g.length) : nextG g (List.range k) = some k := by
 refine nextG_some hk (fun j hj => okN_met (by simpa using hj)) ?_
 unfold okN
 obtain ⟨l, hl⟩ : ∃ l, g[k]? = some l := ⟨_, List.getElem?_eq_getElem hk⟩
 rw [hl]
 simp only [Option.getD_some, Bool.and_eq_true, Bool.not_eq_true', List.all_eq_true]
 refine ⟨by simp, fun u hu => ?_⟩
 have := h k l hl u hu
 simp; omega
theorem LessG.order {g : List (List Int)} (h : LessG g) : ∀ (m k : Nat), k + m = g.length → orderG g m (List.range k) = some (List.range g.length)
 | 0, k, hk => by rw [orderG]; simp at hk; rw [hk]
 | m + 1, k, hk => by
  rw [orderG, h.next (by omega)]
  have := LessG.order h m (k + 1) (by omega)
  rw [List.range_succ] at this
  exact this
theorem LessG.orderE {g : List (List Int)} (h : LessG g) (hl : g.length ≤ 100) : orderE g = (0, List.range g.length) := by
 have h1 : badG g = false := badG_no fun k l hk j u hj => by
  have := h.in l (List.mem_of_getElem? hk) u (List.mem_of_getElem? hj)
  exact this
 have h2 : numbersG g = 0 := by unfold numbersG; rw [if_neg (by omega), h1]; rfl
 have h3 := h.order g.length 0 (by omega)
 unfold Go.Proofs.YticjkhagldkejaaGreatDoor.orderE
 rw [if_neg (by simp [h2])]
 simp only [List.range_zero] at h3
 rw [h3]
end
section
theorem firstE_all {es : List Int} (h : ∀ e ∈ es, e = 0) : firstE es = 0 := firstE_none fun j hj => by rw [List.getElem?_eq_getElem hj, h _ (List.getElem_mem hj)]
theorem withinB_of {n lo hi : Int} (h1 : lo ≤ n) (h2 : n ≤ hi) : withinB n lo hi = true := by simp [withinB, h1, h2]
theorem whenE_of {b : Bool} {e : Int} (h : b = false) : whenE b e = 0 := by rw [h]; rfl
section
variable {s : Soc} (h : s.made)
include h
theorem made_clocks : LessG (clocksG s) := by
 intro k l hl u hu
 simp only [clocksG, List.getElem?_map, Option.map_eq_some_iff] at hl
 obtain ⟨c, hc, rfl⟩ := hl
 exact (h.clocks k c hc).1 u hu
theorem made_doms : LessG (domsG s) := by
 intro k l hl u hu
 simp only [domsG, List.getElem?_map, Option.map_eq_some_iff] at hl
 obtain ⟨d, hd, rfl⟩ := hl
 have := (h.domains k d hd).1
 split at hu
 ·cases hu
 ·rename_i hne
  simp at hu
  subst hu
  exact this.resolve_left hne
theorem made_needs : LessG (needsG s) := by
 intro k l hl u hu
 simp only [needsG, List.getElem?_map, Option.map_eq_some_iff] at hl
 obtain ⟨d, hd, rfl⟩ := hl
 obtain ⟨_, _, _, _, _, _, _, _, _, _, _, h1⟩ := h.devs k d hd
 exact h1 u hu
theorem made_small : s.small := by
 refine ⟨by have := h.nc; omega, by have := h.nd; omega, by have := h.nr; omega, by have := h.nv; omega, fun c hc => ?_, fun d hd => ?_⟩
 ·obtain ⟨k, hk⟩ := List.getElem?_of_mem hc
  rcases (h.clocks k c hk).2 with h1 | h1 | h1 | h1 | h1
  ·rw [h1.2.1]; simp
  all_goals (have := h1.2.1; omega)
 ·obtain ⟨k, hk⟩ := List.getElem?_of_mem hd
  obtain ⟨_, _, _, _, _, _, _, _, _, _, h1, _⟩ := h.devs k d hk
  omega
theorem made_orders : orderE (clocksG s) = (0, List.range s.clocks.length) ∧ orderE (domsG s) = (0, List.range s.domains.length) ∧ orderE (needsG s) = (0, List.range s.devs.length) := by
 refine ⟨?_, ?_, ?_⟩
 ·have := (made_clocks h).orderE (by simp [clocksG]; have := h.nc; omega)
  simpa [clocksG] using this
 ·have := (made_doms h).orderE (by simp [domsG]; have := h.nd; omega)
  simpa [domsG] using this
 ·have := (made_needs h).orderE (by simp [needsG]; have := h.nv; omega)
  simpa [needsG] using this
theorem made_clock {k : Nat} {c : Clk} (hc : s.clocks[k]? = some c) : clockE s.clocks.length c = 0 := by
 have hk := (List.getElem?_eq_some_iff.1 hc).1
 obtain ⟨h1, h2⟩ := h.clocks k c hc
 refine firstE_all fun e he => ?_
 simp only [List.mem_cons, List.not_mem_nil, or_false] at he
 rcases he with rfl | rfl | rfl
 ·refine whenE_of ?_
  rcases h2 with h2 | h2 | h2 | h2 | h2
  ·simp [shapeB, h2.1, h2.2.1]
  ·simp [shapeB, h2.1, h2.2.1]
  ·simp [shapeB, h2.1, h2.2.1]
  ·simp [shapeB, h2.1, h2.2.1]
  ·simp [shapeB, h2.1, h2.2.1, withinB]
 ·refine firstE_all fun e he => ?_
  simp only [List.mem_map] at he
  obtain ⟨f, hf, rfl⟩ := he
  have := h1 f hf
  exact whenE_of (by rw [withinB_of (by omega) (by omega)]; rfl)
 ·refine whenE_of ?_
  rcases h2 with h2 | h2 | h2 | h2 | h2
  ·obtain ⟨h3, _, h4, h5, _⟩ := h2
   simp [numbersB, h3]; omega
  ·obtain ⟨h3, _, _, h4, h5, h6, h7, h8, h9⟩ := h2
   simp [numbersB, h3, withinB]; omega
  ·obtain ⟨h3, _, _, _, h4, h5, _⟩ := h2
   simp [numbersB, h3, withinB]; omega
  ·simp [numbersB, h2.1]
  ·simp [numbersB, h2.1]
theorem made_domain {k : Nat} {d : Dom} (hd : s.domains[k]? = some d) : domainE s.domains.length d = 0 := by
 have hk := (List.getElem?_eq_some_iff.1 hd).1
 obtain ⟨h1, h2, h3⟩ := h.domains k d hd
 refine firstE_all fun e he => ?_
 simp only [List.mem_cons, List.not_mem_nil, or_false] at he
 rcases he with rfl | rfl
 ·refine whenE_of ?_
  rcases h1 with h1 | h1
  ·simp [h1]
  ·rw [withinB_of (by omega) (by omega)]; simp
 ·exact whenE_of (by rw [withinB_of (by omega) (by omega)]; rfl)
theorem made_device {k : Nat} {d : Dev} (hd : s.devs[k]? = some d) : deviceE s.clocks.length s.domains.length s.resets.length s.devs.length d = 0 ∧ manyE d = 0 := by
 have hk := (List.getElem?_eq_some_iff.1 hd).1
 obtain ⟨a1, a2, a3, a4, a5, a6, _, _, a7, _, a8, a9⟩ := h.devs k d hd
 refine ⟨firstE_all fun e he => ?_, ?_⟩
 ·simp only [List.mem_cons, List.not_mem_nil, or_false] at he
  rcases he with rfl | rfl | rfl | rfl
  ·exact whenE_of (by rw [withinB_of (by omega) (by omega)]; rfl)
  ·exact whenE_of (by rw [withinB_of (by omega) (by omega)]; rfl)
  ·exact whenE_of (by rw [withinB_of (by omega) (by omega)]; rfl)
  ·refine firstE_all fun e he => ?_
   simp only [List.mem_map] at he
   obtain ⟨f, hf, rfl⟩ := he
   have := a9 f hf
   exact whenE_of (by rw [withinB_of (by omega) (by omega)]; rfl)
 ·refine whenE_of ?_
  simp
  omega
theorem made_check : checkS s = 0 := by
 obtain ⟨o1, o2, o3⟩ := made_orders h
 refine firstE_all fun e he => ?_
 simp only [checkL, List.mem_cons, List.not_mem_nil, or_false] at he
 have h1 := h.nc
 have h2 := h.nd
 have h3 := h.nr
 have h4 := h.nv
 rcases he with rfl | rfl | rfl | rfl | rfl | rfl | rfl | rfl
 ·rw [fullE, if_neg (by omega)]
  refine firstE_all fun e he => ?_
  obtain ⟨d, hd, rfl⟩ := List.mem_map.1 he
  obtain ⟨k, hk⟩ := List.getElem?_of_mem hd
  exact (made_device h hk).2
 ·refine firstE_all fun e he => ?_
  obtain ⟨d, hd, rfl⟩ := List.mem_map.1 he
  obtain ⟨k, hk⟩ := List.getElem?_of_mem hd
  exact made_clock h hk
 ·rw [cycE, o1]; rfl
 ·refine firstE_all fun e he => ?_
  obtain ⟨d, hd, rfl⟩ := List.mem_map.1 he
  obtain ⟨k, hk⟩ := List.getElem?_of_mem hd
  exact made_domain h hk
 ·rw [cycE, o2]; rfl
 ·refine firstE_all fun e he => ?_
  obtain ⟨d, hd, rfl⟩ := List.mem_map.1 he
  have := h.resets d hd
  exact whenE_of (by rw [withinB_of (by omega) (by omega)]; rfl)
 ·refine firstE_all fun e he => ?_
  obtain ⟨d, hd, rfl⟩ := List.mem_map.1 he
  obtain ⟨k, hk⟩ := List.getElem?_of_mem hd
  exact (made_device h hk).1
 ·rw [cycE, o3]; rfl
end
structure Soc.okT (s : Soc) : Prop where
 clocks : Fits Clk.fit s.clocks
 devs : Fits (Dev.fit s.clocks.length s.domains.length s.resets.length) s.devs
 nc : s.clocks.length ≤ 9
 nd : s.domains.length ≤ 4
 nr : s.resets.length ≤ 3
 nv : s.devs.length ≤ 4
 chk : checkS s = 0
 small : s.small
theorem Soc.made.okT {s : Soc} (h : s.made) : s.okT := ⟨h.clocks, h.devs, h.nc.2, h.nd.2, h.nr.2, h.nv.2, made_check h, made_small h⟩
end
section
def eqV : Value → Value → Bool
 | .int _ a, .int _ b => a == b
 | .bool a, .bool b => a == b
 | _, _ => false
def eqVs : List Value → List Value → Bool
 | [], [] => true
 | x :: xs, y :: ys => eqV x y && eqVs xs ys
 | _, _ => false
def flatFs (P : Program) : List Field → Nat → List Value → List Value → Bool
 | [], _, [], [] => true
 | f :: fs, i, x :: xs, y :: ys => f.name != "_" && f.offset == i && (match P.underlying f.type, x, y with
   | some (.int _), .int kx _, .int ky _ => decide (kx = ky)
   | some .bool, .bool _, .bool _ => true
   | _, _, _ => false) && flatFs P fs (i + 1) xs ys
 | _, _, _, _ => false
section
variable {P : Program} {w : World}
theorem run_part_one {t : TypeId} {cs : Array Value} {i : Nat} {v : Value} {d : TypeDesc} (hu : P.underlying t = some d) (hd : (∃ k, d = .int k) ∨ d = .bool) (hx : cs[i]? = some v) : (part t cs i).run P w = .ok v w := by
 rcases hd with ⟨k, rfl⟩ | rfl <;> simp [part, isAgg, run_underlying hu, hx]
theorem run_eqFlat (d : Nat) (xs ys : Array Value) : ∀ (fs : List Field) (i : Nat), flatFs P fs i (xs.toList.drop i) (ys.toList.drop i) = true → (Op.eqFields (d + 1) xs ys fs).run P w = .ok (eqVs (xs.toList.drop i) (ys.toList.drop i)) w
 | [], i, h => by
  cases hx : xs.toList.drop i with
  | nil => cases hy : ys.toList.drop i with
   | nil => simp [Op.eqFields, eqVs]
   | cons y yr => rw [hx, hy] at h; simp [flatFs] at h
  | cons x xr => rw [hx] at h; simp [flatFs] at h
 | f :: fs, i, h => by
  cases hx : xs.toList.drop i with
  | nil => rw [hx] at h; simp [flatFs] at h
  | cons x xr =>
   cases hy : ys.toList.drop i with
   | nil => rw [hx, hy] at h; simp [flatFs] at h
   | cons y yr =>
    rw [hx, hy] at h
    simp only [flatFs, Bool.and_eq_true, bne_iff_ne, beq_iff_eq] at h
    obtain ⟨⟨⟨h1, h2⟩, h3⟩, h4⟩ := h
    have ex : xs[i]? = some x := by
     have : (xs.toList.drop i)[0]? = some x := by rw [hx]; rfl
     simpa using this
    have ey : ys[i]? = some y := by
     have : (ys.toList.drop i)[0]? = some y := by rw [hy]; rfl
     simpa using this
    have dx : xr = xs.toList.drop (i + 1) := by rw [← List.tail_drop, hx]; rfl
    have dy : yr = ys.toList.drop (i + 1) := by rw [← List.tail_drop, hy]; rfl
    subst dx
    subst dy
    have ih := run_eqFlat d xs ys fs (i + 1) h4
    have key : ∃ u, P.underlying f.type = some u ∧ ((∃ k, u = .int k) ∨ u = .bool) ∧ (Op.equalIn (d + 1) f.type x y).run P w = .ok (eqV x y) w := by
     split at h3
     ·rename_i k kx a ky b hu
      have := of_decide_eq_true h3
      subst this
      exact ⟨_, hu, .inl ⟨_, rfl⟩, run_equalIn_int w d f.type kx _ a b hu⟩
     ·rename_i a b hu
      exact ⟨_, hu, .inr rfl, run_equalIn_bool' w d f.type a b hu⟩
     ·cases h3
    obtain ⟨u, hu, hk, he⟩ := key
    simp only [Op.eqFields, if_pos h1, Sem.run_bind, h2, run_part_one hu hk ex, run_part_one hu hk ey, Result.andThen_ok, he, Sem.run_ite, Sem.run_pure, ih, eqVs]
    cases eqV x y <;> simp
variable {N : Frm} {w0 : World} {e : Env} {R : List Piece} {H : List HP} {Q : Exit → Act → World → Prop} {ops : Array Oper} {rest : List Oper}
variable {d : Nat} {ty : TypeId} {pos : String} {aft : Array Edge}
def flatB (P : Program) (t : TypeId) (xs ys : List Value) : Bool := (match P.underlying t with
 | some (.struct fs) => flatFs P fs.toList 0 xs ys
 | _ => false) && !P.stoodInHeld t && !P.eqGuardType P.depth t
theorem run_eqS {t : TypeId} {xs ys : List Value} (h : flatB P t xs ys = true) : (Op.equal t (.agg xs.toArray) (.agg ys.toArray)).run P w = .ok (eqVs xs ys) w ∧ ∀ op x y, (eqGuard op t x y (.agg xs.toArray) (.agg ys.toArray)).run P w = .ok () w := by
 unfold flatB at h
 simp only [Bool.and_eq_true, Bool.not_eq_true'] at h
 obtain ⟨⟨h1, h2⟩, h3⟩ := h
 refine ⟨?_, fun op x y => run_eqGuard_agg w op t x y _ _ h3⟩
 split at h1
 ·rename_i fs hu
  have hf : P.fieldsOf t = fs := by unfold Program.fieldsOf; rw [hu]
  have := run_equalIn_struct (P := P) w 9999 t xs.toArray ys.toArray (by rw [hf]; exact hu) h2
  unfold Op.equal Op.maxDepth
  rw [this, hf]
  have := run_eqFlat (P := P) (w := w) 9998 xs.toArray ys.toArray fs.toList 0 (by simpa using h1)
  simpa using this
 ·cases h1
theorem xk_eqlB {x y : Operand} {t u : TypeId} {b c : Bool} (ht : P.underlying t = some .bool) (hx : e.ev x = some (.bool b)) (hy : e.ev y = some (.bool c)) (hd : d < N.n) (k : XK N w0 (wpList P ops Q rest) ((d, .bool (b == c)) :: e) R H) :
  XK N w0 (wpList P ops Q (⟨some d, .binOp .eql t x y u, ty, pos, aft, none⟩ :: rest)) e R H := xk_pure hd (fun a w hr => by
 simp [execOp, hr.ev hx, hr.ev hy, eqGuard, binOp, run_equal_bool w t b c ht]) k
end
end
section
structure Wsh where
 d : List Bool
 c : List Bool
 l : List Bool
def WshR (p : Piece) (x : Wsh) (v : Value) : Prop := ∃ A1 k1 A2 k2 A3 k3, v = .agg #[.slice A1 x.d.length k1, .slice A2 x.c.length k2, .slice A3 x.l.length k3] ∧
 SlS p 1 A1 x.d.length (boolCells x.d) ∧ SlS p 1 A2 x.c.length (boolCells x.c) ∧ SlS p 1 A3 x.l.length (boolCells x.l)
theorem WshR.le {p q : Piece} {x : Wsh} {v : Value} (h : WshR p x v) (hl : p.Le q) : WshR q x v := by
 obtain ⟨A1, k1, A2, k2, A3, k3, h0, h1, h2, h3⟩ := h
 exact ⟨A1, k1, A2, k2, A3, k3, h0, h1.le hl, h2.le hl, h3.le hl⟩
def RtW (Rl : Value → World → World → Prop) (w : World) : Ending → World → Prop := fun y w' => (∃ v, y = .returned v ∧ Rl v w w') ∧ Below w.heap.size w w'
def sameB (a b : List Bool) : Bool := decide (a = b)
def Wsh.same (x y : Wsh) : Bool := sameB x.d y.d && sameB x.c y.c && sameB x.l y.l
end
section
structure Wsh.sm (x : Wsh) : Prop where
 d : x.d.length ≤ 1000000
 c : x.c.length ≤ 1000000
 l : x.l.length ≤ 1000000
theorem boolCells_one (l : List Bool) : ∀ u ∈ boolCells l, u.oneCell' = true := by
 intro u hu
 simp only [boolCells, List.mem_map] at hu
 obtain ⟨x, _, rfl⟩ := hu
 rfl
structure Stp.ok (p : Stp) : Prop where
 pr : -9223372036854775808 ≤ p.pr ∧ p.pr ≤ 9223372036854775807
 msg : -9223372036854775808 ≤ p.msg ∧ p.msg ≤ 9223372036854775807
 id : 0 ≤ p.id ∧ p.id < 4294967296
 v : 0 ≤ p.v ∧ p.v < 4294967296
end
section
structure SocP (p : Piece) (s : Soc) (A1 : Option Addr) (n1 : Nat) (A2 : Option Addr) (n2 : Nat) (A3 : Option Addr) (n3 : Nat) (A4 : Option Addr) (n4 : Nat) : Prop where
 clk : RsR (slq p) (ClkR (slq p)) 118 6 A1 n1 s.clocks
 dom : RsR (slq p) DomR 75 3 A2 n2 s.domains
 rst : RsR (slq p) RstR 120 1 A3 n3 s.resets
 dev : RsR (slq p) (DevR (slq p)) 78 6 A4 n4 s.devs
section
variable {p q : Piece} {w : World} {s : Soc} {A1 A2 A3 A4 : Option Addr} {n1 n2 n3 n4 : Nat}
theorem SocP.le (h : SocP p s A1 n1 A2 n2 A3 n3 A4 n4) (hl : p.Le q) : SocP q s A1 n1 A2 n2 A3 n3 A4 n4 :=
 ⟨h.clk.mono (slq_le hl) (fun _ _ => ClkR.mono (slq_le hl)), h.dom.mono (slq_le hl) (fun _ _ h => h), h.rst.mono (slq_le hl) (fun _ _ h => h), h.dev.mono (slq_le hl) (fun _ _ => DevR.mono (slq_le hl))⟩
theorem SocP.W (h : SocP p s A1 n1 A2 n2 A3 n3 A4 n4) (hl : p.Le (all w)) (hs : s.small) : SocW w s A1 n1 A2 n2 A3 n3 A4 n4 := ⟨(h.le hl).clk, (h.le hl).dom, (h.le hl).rst, (h.le hl).dev, hs⟩
theorem SocP.len (h : SocP p s A1 n1 A2 n2 A3 n3 A4 n4) : n1 = s.clocks.length ∧ n2 = s.domains.length ∧ n3 = s.resets.length ∧ n4 = s.devs.length := by
 obtain ⟨⟨_, _, h1, _⟩, ⟨_, _, h2, _⟩, ⟨_, _, h3, _⟩, ⟨_, _, h4, _⟩⟩ := h
 exact ⟨h1, h2, h3, h4⟩
theorem SocR.P {cs : Array Value} (h : SocR (slq p) s cs) : ∃ A1 n1 k1 A2 n2 k2 A3 n3 k3 A4 n4 k4, cs = #[.slice A1 n1 k1, .slice A2 n2 k2, .slice A3 n3 k3, .slice A4 n4 k4] ∧ SocP p s A1 n1 A2 n2 A3 n3 A4 n4 := by
 obtain ⟨A1, n1, k1, A2, n2, k2, A3, n3, k3, A4, n4, k4, h0, h1, h2, h3, h4⟩ := h
 exact ⟨A1, n1, k1, A2, n2, k2, A3, n3, k3, A4, n4, k4, h0, h1, h2, h3, h4⟩
end
end
section
theorem RsR.rowP {α : Type} {p : Piece} {R : α → List Value → Prop} {t : TypeId} {sz n : Nat} {A : Option Addr} {es : List α} (h : RsR (slq p) R t sz A n es) {k : Nat} {e : α} (hk : es[k]? = some e) :
  ∃ b off r, A = some ⟨b, off, none⟩ ∧ p.Z b ∧ r.length = sz ∧ R e r ∧ ∀ f u, r[f]? = some u → p.w.cell? ⟨b, off + k * sz + f, none⟩ = some u := by
 obtain ⟨rows, h1, h2, h3⟩ := h
 have hlt : k < n := by
  rw [h2]
  rcases Nat.lt_or_ge k es.length with h | h
  ·exact h
  ·rw [List.getElem?_eq_none h] at hk; cases hk
 obtain ⟨b, off, hA, hb, hc⟩ := SlS.at_ h3 hlt
 obtain ⟨r, h4, h5, h6⟩ := h1.get hk
 refine ⟨b, off, r, hA, hb, h4, h5, fun f u hu => hc f u ?_⟩
 have hf : f < sz := by
  rw [← h4]
  rcases Nat.lt_or_ge f r.length with h | h
  ·exact h
  ·rw [List.getElem?_eq_none h] at hu; cases hu
 rw [h6 f hf, hu]
theorem Stp.cells_len (p : Stp) : p.cells.length = 4 := rfl
theorem SlS.step {p : Piece} {A : Option Addr} {L : List Stp} (h : SlS p 4 A L.length (L.flatMap Stp.cells)) {k : Nat} {x : Stp} (hk : L[k]? = some x) :
  ∃ b off, A = some ⟨b, off, none⟩ ∧ p.Z b ∧ ∀ f u, x.cells[f]? = some u → p.w.cell? ⟨b, off + k * 4 + f, none⟩ = some u := by
 have hlt := (List.getElem?_eq_some_iff.1 hk).1
 obtain ⟨b, off, hA, hb, hc⟩ := SlS.at_ h hlt
 refine ⟨b, off, hA, hb, fun f u hu => hc f u ?_⟩
 have hf : f < 4 := by
  rw [← Stp.cells_len x]
  rcases Nat.lt_or_ge f x.cells.length with h | h
  ·exact h
  ·rw [List.getElem?_eq_none h] at hu; cases hu
 rw [flat_get Stp.cells 4 L (fun _ _ => rfl) k f x hk hf, hu]
end
section
structure Wsh.of (x : Wsh) (s : Soc) : Prop where
 d : x.d.length = s.domains.length
 c : x.c.length = s.clocks.length
 l : x.l.length = s.resets.length
end
section
structure AL where
 d : Nat
 t : TypeId
 cs : List Value
 val : Nat → Value
def envA (al : Nat → AL) (g : Nat → Nat) (ds : List Nat) (e : Env) : Env := ds.map (fun i => ((al i).d, (al i).val (g i))) ++ e
def hpA (al : Nat → AL) (g : Nat → Nat) (ds : List Nat) (H : List HP) : List HP := ds.map (fun i => HP.blk (g i) (al i).t (al i).cs) ++ H
def markA (ds : List Nat) (l : Array Bool) : Array Bool := ds.foldr (fun i a => a.setIfInBounds i true) l
def subsN : List Nat → List (List Nat)
 | [] => [[]]
 | i :: l => (subsN l).map (i :: ·) ++ subsN l
theorem subsN_filter (p : Nat → Bool) : ∀ l : List Nat, l.filter p ∈ subsN l
 | [] => by simp [subsN]
 | i :: l => by
  unfold subsN
  rw [List.filter_cons]
  split
  ·exact List.mem_append_left _ (List.mem_map_of_mem (subsN_filter p l))
  ·exact List.mem_append_right _ (subsN_filter p l)
def readyA (ops : Array Oper) (idx : List Nat) (ex : List (List Nat)) (listed : Array Bool) : Bool :=
 (subsN idx).all fun sub => ex.contains sub || (!(Region.ready .any ops (markA sub listed)).isEmpty && (Region.ready .any ops (markA sub listed)).all fun j => idx.contains j && !sub.contains j)
theorem markA_perm {l1 l2 : List Nat} (h : l1.Perm l2) (l : Array Bool) : markA l1 l = markA l2 l := by
 induction h with
 | nil => rfl
 | cons x _ ih => show (markA _ l).setIfInBounds x true = _; rw [ih]; rfl
 | swap x y s =>
  show ((markA s l).setIfInBounds x true).setIfInBounds y true = ((markA s l).setIfInBounds y true).setIfInBounds x true
  by_cases hxy : x = y
  ·rw [hxy]
  ·exact Array.setIfInBounds_comm _ _ hxy
 | trans _ _ h1 h2 => exact h1.trans h2
section
variable {P : Program} {N : Frm} {w0 w : World} {e : Env} {R R0 : List Piece} {H H0 : List HP} {Q : Exit → Act → World → Prop} {ops : Array Oper} {m fuel : Nat} {listed : Array Bool} {K : Act → World → Prop}
variable {al : Nat → AL} {g g' : Nat → Nat}
theorem get_cons (k : Nat) (v : Value) (e : Env) (t : Nat) : Env.get ((k, v) :: e) t = if k = t then some v else e.get t := by
 show (match Nat.beq k t with | true => some v | false => Env.get e t) = _
 by_cases h : k = t
 ·subst h; rw [if_pos rfl, Nat.beq_refl]
 ·rw [if_neg h]
  cases hb : Nat.beq k t with
  | true => exact absurd (Nat.eq_of_beq_eq_true hb) h
  | false => rfl
theorem envA_perm {l1 l2 : List Nat} (h : l1.Perm l2) (hn : (l1.map fun i => (al i).d).Nodup) (t : Nat) : (envA al g l1 e).get t = (envA al g l2 e).get t := by
 induction h with
 | nil => rfl
 | cons x _ ih =>
  show Env.get ((_, _) :: envA al g _ e) t = Env.get ((_, _) :: envA al g _ e) t
  rw [get_cons, get_cons, ih (List.nodup_cons.1 (show ((al x).d :: List.map (fun i => (al i).d) _).Nodup from hn)).2]
 | swap x y s =>
  show Env.get ((_, _) :: (_, _) :: envA al g s e) t = Env.get ((_, _) :: (_, _) :: envA al g s e) t
  have hne : (al y).d ≠ (al x).d := fun he => (List.nodup_cons.1 (show ((al y).d :: (al x).d :: List.map (fun i => (al i).d) s).Nodup from hn)).1 (by rw [he]; exact List.mem_cons_self)
  simp only [get_cons]
  by_cases h1 : (al x).d = t
  ·rw [if_pos h1, if_neg (fun h2 => hne (h2.trans h1.symm)), if_pos h1]
  ·rw [if_neg h1, if_neg h1]
 | trans h1 h2 i1 i2 => exact (i1 hn).trans (i2 ((h1.map _).nodup_iff.1 hn))
theorem hpA_perm {l1 l2 : List Nat} (h : l1.Perm l2) : ∀ pre : List HP, St w0 R (pre ++ hpA al g l1 H) w → St w0 R (pre ++ hpA al g l2 H) w := by
 induction h with
 | nil => exact fun _ h => h
 | cons x _ ih =>
  intro pre st
  have := ih (pre ++ [HP.blk (g x) (al x).t (al x).cs]) (by rw [List.append_assoc]; exact st)
  rw [List.append_assoc] at this
  exact this
 | swap x y s =>
  intro pre st
  refine st.weak (fun _ hp => hp) (fun i => if i = pre.length then pre.length + 1 else if i = pre.length + 1 then pre.length else i) (fun i j _ _ he => ?_) (fun i p hi => ?_)
  ·split at he <;> split at he <;> (try split at he) <;> (try split at he) <;> omega
  ·change (pre ++ HP.blk (g x) (al x).t (al x).cs :: HP.blk (g y) (al y).t (al y).cs :: hpA al g s H)[i]? = some p at hi
   show (pre ++ HP.blk (g y) (al y).t (al y).cs :: HP.blk (g x) (al x).t (al x).cs :: hpA al g s H)[_]? = some p
   rcases Nat.lt_or_ge i pre.length with h | h
   ·rw [if_neg (by omega), if_neg (by omega), List.getElem?_append_left h]
    rwa [List.getElem?_append_left h] at hi
   ·obtain ⟨k, rfl⟩ : ∃ k, i = pre.length + k := ⟨i - pre.length, by omega⟩
    rw [List.getElem?_append_right (by omega), Nat.add_sub_cancel_left] at hi
    match k, hi with
    | 0, hi =>
     rw [if_pos (by omega), List.getElem?_append_right (by omega), Nat.add_sub_cancel_left]
     exact hi
    | 1, hi =>
     rw [if_neg (by omega), if_pos rfl, List.getElem?_append_right (by omega), Nat.sub_self]
     exact hi
    | k + 2, hi =>
     rw [if_neg (by omega), if_neg (by omega), List.getElem?_append_right (by omega), Nat.add_sub_cancel_left]
     exact hi
 | trans _ _ i1 i2 => exact fun pre st => i2 pre (i1 pre st)
def Makes (P : Program) (N : Frm) (e : Env) (o : Oper) (x : AL) : Prop := ∀ a w, Rep N e a → (execOp a.eval o).run P w = .ok (.value (x.val w.heap.size)) (w.alloc (.cells x.cs.toArray x.t))
theorem makes_make (bytes : Nat) {x y : Operand} {t el ty : TypeId} {d n : Nat} {z : Value} {pos : String} {aft : Array Edge} {kd kd' : IntKind} (ht : P.underlying t = some (.slice el)) (hT : (P.info? el).map (fun i => (i.zero, i.size, i.bytes)) = some (some z, 1, bytes)) (hzc : z.cells = #[z]) (hx : e.ev x = some (.int kd (n : Int))) (hy : e.ev y = some (.int kd' (n : Int)))
  (hb : bytes * n ≤ 281474976710656) (hn : (n : Int) ≤ 9223372036854775807) : Makes P N e ⟨some d, .makeSlice t x y, ty, pos, aft, none⟩ ⟨d, el, List.replicate n z, fun g => .slice (some ⟨g, 0, none⟩) n n⟩ := fun a w hr => by
 obtain ⟨i, hi, he⟩ := Option.map_eq_some_iff.1 hT
 simp only [Prod.mk.injEq] at he
 obtain ⟨h1, h2, rfl⟩ := he
 have := run_make (P := P) w t el i z ht hi h1 kd kd' n n (by omega) (Int.le_refl _) (by rw [← Int.natCast_mul]; omega) hn
 have hm : madeCells z.cells (n * i.size) = (List.replicate n z).toArray := by
  rw [h2, Nat.mul_one, hzc]
  unfold madeCells
  apply Array.ext
  ·simp
  ·intro j h1 h2
   simp
   rw [Nat.mod_one]
   rfl
 simp only [Int.toNat_natCast, hm] at this
 simp only [execOp, hr.ev hx, hr.ev hy, Sem.run_bind, this, Result.andThen_ok, Sem.run_pure]
structure ALok (P : Program) (N : Frm) (ops : Array Oper) (e : Env) (x : AL) (i : Nat) : Prop where
 ok : ∃ o, ops[i]? = some o ∧ o.guard = none ∧ o.dst = some x.d ∧ Makes P N e o x
 lt : x.d < N.n
 new : e.get x.d = none
theorem ALok.of {o : Oper} {x : AL} {i : Nat} (h1 : ops[i]? = some o) (h2 : o.guard = none) (h3 : o.dst = some x.d) (h4 : Makes P N e o x) (h5 : x.d < N.n) (h6 : e.get x.d = none) : ALok P N ops e x i := ⟨⟨o, h1, h2, h3, h4⟩, h5, h6⟩
theorem envA_old {ds : List Nat} (hn : ∀ i ∈ ds, e.get (al i).d = none) {t : Nat} {v : Value} (h : e.get t = some v) : (envA al g ds e).get t = some v := by
 induction ds with
 | nil => exact h
 | cons i ds ih =>
  show Env.get ((_, _) :: envA al g ds e) t = some v
  rw [get_cons, if_neg (fun he => by have := hn i (by simp); rw [he, h] at this; cases this)]
  exact ih fun j hj => hn j (by simp [hj])
theorem Rep.envA_base {a : Act} {ds : List Nat} (hn : ∀ i ∈ ds, e.get (al i).d = none) (h : Rep N (envA al g ds e) a) : Rep N e a := ⟨h.size, h.defers, fun t v ht => h.get t v (envA_old hn ht)⟩
theorem St.unA {ds : List Nat} (h : St w0 R (hpA al g ds H) w) : St w0 R H w := h.weak (fun _ hp => hp) (fun i => i + ds.length) (fun i j _ _ he => by omega) (fun i p hi => by
 show (ds.map _ ++ H)[i + ds.length]? = some p
 rw [List.getElem?_append_right (by simp)]
 simpa using hi)
theorem XA.allocs (idx : List Nat) (ex : List (List Nat)) (al : Nat → AL) (hok : ∀ i ∈ idx, ALok P N ops e (al i) i) (hd : (idx.map fun i => (al i).d).Nodup) (hr : readyA ops idx ex listed = true) (hS : ∀ w, St w0 R H w → St w0 R0 H0 w)
  (k : ∀ sub ∈ subsN idx, ex.contains sub = true → ∀ g : Nat → Nat, XA P N w0 ops Q R0 H0 m (fuel + (idx.length - sub.length)) (markA sub listed) (envA al g sub e) R (hpA al g sub H)) : XA P N w0 ops Q R0 H0 m (fuel + idx.length) listed e R H := by
 have hni : idx.Nodup := (List.pairwise_map.1 hd).imp fun h e => h (by rw [e])
 have key : ∀ (n : Nat) (ds : List Nat) (g : Nat → Nat), ds.Nodup → (∀ i ∈ ds, i ∈ idx) → ds.length + n = idx.length → XA P N w0 ops Q R0 H0 m (fuel + n) (markA ds listed) (envA al g ds e) R (hpA al g ds H) := by
  intro n
  induction n with
  | zero =>
   intro ds g hn hin hl
   have hperm : (idx.filter fun i => ds.contains i).Perm ds := by
    rw [List.perm_iff_count]
    intro a
    rw [(hni.sublist List.filter_sublist).count, hn.count]
    by_cases ha : a ∈ ds
    ·rw [if_pos ha, if_pos (by simp [ha, hin a ha])]
    ·rw [if_neg ha, if_neg (by simp [ha])]
   have hlen := hperm.length_eq
   have heq : (idx.filter fun i => ds.contains i) = idx := List.filter_sublist.eq_of_length (by omega)
   have hr1 := List.all_eq_true.1 hr _ (subsN_filter (fun i => ds.contains i) idx)
   rw [Bool.or_eq_true] at hr1
   rcases hr1 with hc | hc
   ·have h := k _ (subsN_filter _ idx) hc g
    rw [markA_perm hperm, show fuel + (idx.length - (idx.filter fun i => ds.contains i).length) = fuel + 0 by omega] at h
    exact fun up a w hrp st => h up a w ⟨hrp.size, hrp.defers, fun t v ht => hrp.get t v (by rw [← envA_perm hperm (by rw [heq]; exact hd)]; exact ht)⟩ (hpA_perm hperm.symm [] st)
   ·exfalso
    rw [Bool.and_eq_true, List.all_eq_true] at hc
    obtain ⟨h1, h2⟩ := hc
    rw [heq] at h1 h2
    cases hrd : Region.ready .any ops (markA idx listed) with
    | nil => rw [hrd] at h1; cases h1
    | cons j js =>
     rw [hrd] at h2
     have := h2 j (by simp)
     simp at this
  | succ n ih =>
   intro ds g hn hin hl
   have hperm : (idx.filter fun i => ds.contains i).Perm ds := by
    rw [List.perm_iff_count]
    intro a
    rw [(hni.sublist List.filter_sublist).count, hn.count]
    by_cases ha : a ∈ ds
    ·rw [if_pos ha, if_pos (by simp [ha, hin a ha])]
    ·rw [if_neg ha, if_neg (by simp [ha])]
   have hlen := hperm.length_eq
   have hr1 := List.all_eq_true.1 hr _ (subsN_filter (fun i => ds.contains i) idx)
   rw [Bool.or_eq_true] at hr1
   rcases hr1 with hc | hc
   ·have h := k _ (subsN_filter _ idx) hc g
    rw [markA_perm hperm, show fuel + (idx.length - (idx.filter fun i => ds.contains i).length) = fuel + (n + 1) by omega] at h
    have hnd : ((idx.filter fun i => ds.contains i).map fun i => (al i).d).Nodup := hd.sublist (List.filter_sublist.map _)
    exact fun up a w hrp st => h up a w ⟨hrp.size, hrp.defers, fun t v ht => hrp.get t v (by rw [← envA_perm hperm hnd]; exact ht)⟩ (hpA_perm hperm.symm [] st)
   ·rw [Bool.and_eq_true, List.all_eq_true, markA_perm hperm] at hc
    obtain ⟨h1, h2⟩ := hc
    intro up a w hrp st
    show wpAnyX P ops Q (St w0 R0 H0) m ((fuel + n) + 1) (markA ds listed) a w
    refine ⟨(fun h => by rw [h] at h1; exact absurd h1 (by decide)), fun j hj => ?_⟩
    have hj2 := h2 j hj
    simp only [Bool.and_eq_true, Bool.not_eq_true', List.contains_eq_mem, decide_eq_true_eq, decide_eq_false_iff_not, List.mem_filter, not_and] at hj2
    have hjd : j ∉ ds := hj2.2 hj2.1
    obtain ⟨⟨o, ho, hog, hod, hmk⟩, hlt, hnew⟩ := hok j hj2.1
    have hrun := hmk a w (hrp.envA_base fun i hi => (hok i (hin i hi)).new)
    let g' : Nat → Nat := fun i => if i = j then w.heap.size else g i
    have hg1 : envA al g' (j :: ds) e = ((al j).d, (al j).val w.heap.size) :: envA al g ds e := by
     show ((al j).d, (al j).val (g' j)) :: (ds.map _ ++ e) = _
     rw [show g' j = w.heap.size from if_pos rfl]
     congr 1
     unfold envA
     congr 1
     refine List.map_congr_left fun i hi => ?_
     rw [show g' i = g i from if_neg (fun he : i = j => hjd (he ▸ hi))]
    have hg2 : hpA al g' (j :: ds) H = HP.blk w.heap.size (al j).t (al j).cs :: hpA al g ds H := by
     show HP.blk (g' j) _ _ :: (ds.map _ ++ H) = _
     rw [show g' j = w.heap.size from if_pos rfl]
     congr 1
     unfold hpA
     congr 1
     refine List.map_congr_left fun i hi => ?_
     rw [show g' i = g i from if_neg (fun he : i = j => hjd (he ▸ hi))]
    have st' : St w0 R (hpA al g' (j :: ds) H) (w.alloc (.cells (al j).cs.toArray (al j).t)) := by
     rw [hg2]
     exact st.new (alloc_below w _) (fresh_blk w _ _)
    have h := ih (j :: ds) g' (List.nodup_cons.2 ⟨hjd, hn⟩) (fun i hi => by
     rcases List.mem_cons.1 hi with rfl | hi
     ·exact hj2.1
     ·exact hin i hi) (by simp only [List.length_cons]; omega)
    rw [hg1] at h
    have hfin := h (up.set_ hj) (a.put (some (al j).d) ((al j).val w.heap.size)) _ (hrp.put hlt _) st'
    unfold wpOp
    simp only [ho]
    have hw : Region.wanted o (yielded ops a.tmps) = true := by simp [Region.wanted, hog]
    simp only [hw, if_true, Oper.wp, hrun, Oper.upon, hod]
    exact .inl ⟨fun _ => hS _ st'.unA, hfin⟩
 have := key idx.length [] (fun _ => 0) List.nodup_nil (fun i hi => by cases hi) (by simp)
 exact this
end
end
section
def chainN (s : Soc) : Nat → Nat → List Nat
 | 0, _ => []
 | k + 1, c => match s.clocks[c]? with
  | some x => c :: (match x.src with
   | [] => []
   | f :: _ => chainN s k f.toNat)
  | none => []
def chainL (s : Soc) (c : Nat) : List Nat := chainN s s.clocks.length c
theorem chainN_len (s : Soc) : ∀ (k c : Nat), (chainN s k c).length ≤ k
 | 0, c => by simp [chainN]
 | k + 1, c => by
  unfold chainN
  split
  ·rename_i x hx
   split
   ·simp
   ·rename_i f fs hs
    have := chainN_len s k f.toNat
    simp only [List.length_cons]
    omega
  ·simp
theorem chainN_cons {s : Soc} {k c : Nat} {x : Clk} (h : s.clocks[c]? = some x) : chainN s (k + 1) c = c :: (match x.src with
      | [] => []
      | f :: _ => chainN s k f.toNat) := by
  show (match s.clocks[c]? with | some x => _ | none => _) = _
  rw [h]
def UpsR (s : Soc) : Int → List Nat → Prop
 | d, [] => d = -1
 | d, i :: r => d = (i : Int) ∧ ∃ x, s.domains[i]? = some x ∧ UpsR s x.above r
theorem UpsR.up {s : Soc} : ∀ {l : List Nat} {d : Int}, UpsR s d l → ∀ i ∈ l, ∀ x, s.domains[i]? = some x → 0 ≤ x.above → x.above.toNat ∈ l
 | [], _, _, i, h, _, _, _ => by cases h
 | j :: l, _, ⟨_, y, hy, hr⟩, i, h, x, hx, h0 => by
  rcases List.mem_cons.1 h with rfl | h
  ·rw [hy] at hx
   cases hx
   cases l with
   | nil => have h2 : y.above = -1 := hr; omega
   | cons k l =>
    have h2 : y.above = (k : Int) := hr.1
    rw [h2]
    simp
  ·exact List.mem_cons_of_mem _ (hr.up i h x hx h0)
def swK (s : Soc) (i : Nat) : Bool := match s.clocks[i]? with
 | some c => decide (c.kind = 112 ∨ c.kind = 103)
 | none => false
def zeroW (s : Soc) : Wsh := ⟨List.replicate s.domains.length false, List.replicate s.clocks.length false, List.replicate s.resets.length false⟩
theorem Wsh.of.sm {x : Wsh} {s : Soc} (h : x.of s) (hm : s.made) : x.sm := by
 have h1 := hm.nc; have h2 := hm.nd; have h3 := hm.nr
 exact ⟨by rw [h.d]; omega, by rw [h.c]; omega, by rw [h.l]; omega⟩
end
section
structure Soc.okH (s : Soc) : Prop where
 t : s.okT
 domains : Fits Dom.fit s.domains
 resets : ∀ r ∈ s.resets, 0 ≤ r ∧ r ≤ 3
theorem Soc.made.okH {s : Soc} (h : s.made) : s.okH := ⟨h.okT, h.domains, h.resets⟩
structure CkS where
 on : Bool
 left : Int
def ck0 (c : Clk) : CkS := ⟨false, if c.kind = 112 then c.lock else 0⟩
def byF (c : Clk) : Int := if c.kind = 100 then c.div else 0
def upC (c : Clk) (x : CkS) : Bool := if c.kind = 112 then x.on && decide (x.left = 0) else if c.kind = 103 then x.on else true
def upK (s : Soc) (st : List CkS) (i : Nat) : Bool := match s.clocks[i]?, st[i]? with
 | some c, some x => upC c x
 | _, _ => false
def runs (s : Soc) (st : List CkS) (i : Nat) : Bool := (chainL s i).all (upK s st)
theorem chainN_fuel {s : Soc} (hf : Fits Clk.fit s.clocks) : ∀ (c k : Nat), c < k → chainN s k c = chainN s (c + 1) c := by
 intro c
 induction c using Nat.strongRecOn with
 | _ c ih =>
  intro k hk
  obtain ⟨k, rfl⟩ := Nat.exists_eq_add_of_lt hk
  rw [show c + k + 1 = (c + k) + 1 from rfl]
  unfold chainN
  cases hc : s.clocks[c]? with
  | none => rfl
  | some x =>
   dsimp only
   cases hs : x.src with
   | nil => rfl
   | cons f fs =>
    have hfit := (hf c x hc).1 f (by rw [hs]; simp)
    have h1 : f.toNat < c := by omega
    dsimp only
    rw [ih f.toNat h1 (c + k) (by omega), ih f.toNat h1 c h1]
theorem chainL_cons {s : Soc} (hf : Fits Clk.fit s.clocks) {i : Nat} {c : Clk} (hc : s.clocks[i]? = some c) : chainL s i = i :: (match c.src with
  | [] => []
  | f :: _ => chainL s f.toNat) := by
 have hlt : i < s.clocks.length := (List.getElem?_eq_some_iff.1 hc).1
 unfold chainL
 rw [chainN_fuel hf i _ hlt]
 rw [chainN, hc]
 dsimp only
 cases hs : c.src with
 | nil => rfl
 | cons f fs =>
  have hfit := (hf i c hc).1 f (by rw [hs]; simp)
  dsimp only
  rw [chainN_fuel hf f.toNat i (by omega), chainN_fuel hf f.toNat s.clocks.length (by omega)]
theorem runs_eq {s : Soc} (hf : Fits Clk.fit s.clocks) {st : List CkS} {i : Nat} {c : Clk} {x : CkS} (hc : s.clocks[i]? = some c) (hx : st[i]? = some x) : runs s st i = (upC c x && (match c.src with
  | [] => true
  | f :: _ => runs s st f.toNat)) := by
 unfold runs
 rw [chainL_cons hf hc, List.all_cons]
 have : upK s st i = upC c x := by unfold upK; rw [hc, hx]
 rw [this]
 cases c.src <;> rfl
def inB (n : Nat) (i : Int) : Bool := decide (0 ≤ i ∧ i < (n : Int))
def runI (s : Soc) (st : List CkS) (i : Int) : Bool := inB s.clocks.length i && runs s st i.toNat
def onC (c : Clk) (x : CkS) (b : Bool) : CkS := ⟨b, if c.kind = 112 ∧ b = false then c.lock else x.left⟩
def onF (s : Soc) (st : List CkS) (i : Int) (b : Bool) : Int × List CkS :=
 if inB s.clocks.length i = false then (4, st) else match s.clocks[i.toNat]?, st[i.toNat]? with
 | some c, some x => if c.kind ≠ 112 ∧ c.kind ≠ 103 then (1, st) else (0, st.set i.toNat (onC c x b))
 | _, _ => (4, st)
def srcF (c : Clk) : Nat := (c.src.headD 0).toNat
def tickC1 (s : Soc) (st : List CkS) (c : Clk) (x : CkS) : CkS :=
 if c.kind = 112 ∧ x.on = true then (if runs s st (srcF c) = false then ⟨true, c.lock⟩ else if 0 < x.left then ⟨true, x.left - 1⟩ else x) else x
def tickC (s : Soc) (st : List CkS) : List CkS := List.zipWith (tickC1 s st) s.clocks st
structure CkOk (s : Soc) (st : List CkS) : Prop where
 len : st.length = s.clocks.length
 left : ∀ x ∈ st, 0 ≤ x.left ∧ x.left ≤ 3
structure DmS where
 phase : Int
 left : Int
 kept : Bool
 keep : Bool
def dm0 : DmS := ⟨48, 0, false, false⟩
def downP (x : DmS) : Bool := decide (x.phase = 48 ∨ x.phase = 116)
def phaseF (st : List DmS) (d : Int) : Int := if inB st.length d then (st[d.toNat]?.map (·.phase)).getD 0 else 0
def aboveLive (st : List DmS) (a : Int) : Bool := decide (a = -1) || decide ((st[a.toNat]?.map (·.phase)).getD 0 = 49)
def upF (s : Soc) (st : List DmS) (d : Int) : Int × List DmS :=
 if inB st.length d = false then (4, st) else match s.domains[d.toNat]?, st[d.toNat]? with
 | some c, some x => if downP x = false ∨ aboveLive st c.above = false then (6, st) else (0, st.set d.toNat ⟨114, c.delay, decide (x.phase = 116), x.keep⟩)
 | _, _ => (4, st)
def tickD (x : DmS) : Int × DmS :=
 if x.phase = 114 then (if 0 < x.left then (0, ⟨114, x.left - 1, x.kept, x.keep⟩) else (if x.kept then 114 else 110, ⟨104, x.left, x.kept, x.keep⟩))
 else if x.phase = 104 then (111, ⟨49, x.left, x.kept, x.keep⟩)
 else if x.phase = 99 then (if x.keep then (115, ⟨116, x.left, x.kept, x.keep⟩) else (108, ⟨48, x.left, x.kept, x.keep⟩))
 else (0, x)
def evsD (st : List DmS) (n : Nat) : List (Int × Nat) := (List.range n).filterMap fun i => (st[i]?).bind fun x => if (tickD x).1 = 0 then none else some ((tickD x).1, i)
def tickG (st : List DmS) : List DmS := st.map fun x => (tickD x).2
structure DmOk (s : Soc) (st : List DmS) : Prop where
 len : st.length = s.domains.length
 left : ∀ x ∈ st, 0 ≤ x.left ∧ x.left ≤ 3
 phase : ∀ x ∈ st, 0 ≤ x.phase ∧ x.phase < 256
structure LnS where
 left : Int
 held : Bool
 wanted : Bool
def ln0 : LnS := ⟨0, true, false⟩
def heldF (st : List LnS) (i : Int) : Bool := !inB st.length i || (st[i.toNat]?.map (·.held)).getD true
def releaseF (st : List LnS) (i : Int) : Int × List LnS :=
 if inB st.length i = false then (4, st) else match st[i.toNat]? with
 | some x => if x.held = false then (6, st) else (0, st.set i.toNat ⟨x.left, x.held, true⟩)
 | none => (4, st)
def tickL1 (x : LnS) : LnS := if x.held = false then x else if 0 < x.left then ⟨x.left - 1, x.held, x.wanted⟩ else if x.wanted then ⟨x.left, false, false⟩ else x
def tickL (st : List LnS) : List LnS := st.map tickL1
structure LnOk (s : Soc) (st : List LnS) : Prop where
 len : st.length = s.resets.length
 left : ∀ x ∈ st, 0 ≤ x.left ∧ x.left ≤ 3
structure FlS where
 now : List Int
 saved : List Int
 kept : Bool
def fl0 (d : Dev) : FlS := ⟨d.regs.map (·.reset), d.regs.map fun _ => 0, false⟩
def clearF (d : Dev) (x : FlS) : FlS := ⟨d.regs.map (·.reset), x.saved, false⟩
def save1 (r : Rg) (p : Int × Int) : Int := if r.kept then p.1 else p.2
def saveF (d : Dev) (x : FlS) : FlS := ⟨x.now, List.zipWith save1 d.regs (x.now.zip x.saved), true⟩
def rest1 (k : Bool) (r : Rg) (v : Int) : Int := if k && r.kept then v else r.reset
def restF (d : Dev) (x : FlS) : FlS := ⟨List.zipWith (rest1 x.kept) d.regs x.saved, x.saved, x.kept⟩
structure FlOk (d : Dev) (x : FlS) : Prop where
 now : x.now.length = d.regs.length
 saved : x.saved.length = d.regs.length
 u : (∀ v ∈ x.now, 0 ≤ v ∧ v < 4294967296) ∧ ∀ v ∈ x.saved, 0 ≤ v ∧ v < 4294967296
structure QtS where
 at_ : Int
 denied : Int
def qt0 : QtS := ⟨0, 0⟩
def letF (a : Int) : Int := if a = 0 then 114 else if a = 1 then 97 else if a = 2 then 115 else 100
def leaveQ (x : QtS) : Int × QtS := if x.at_ ≠ 2 ∧ x.at_ ≠ 3 then (6, x) else (0, ⟨0, x.denied⟩)
def tickQ (x : QtS) (active deny : Bool) : QtS := if x.at_ ≠ 1 then x else if deny then ⟨3, IntKind.i64.wrap (x.denied + 1)⟩ else if active then x else ⟨2, 0⟩
def QtOk (x : QtS) : Prop := 0 ≤ x.at_ ∧ x.at_ ≤ 3
end
section
def HP.pic (Φ : Piece → Prop) (hm : ∀ p q : Piece, p.Le q → Φ p → Φ q) : HP := ⟨fun F w => Φ ⟨w, F⟩, fun F w w' h hk => hm ⟨w, F⟩ ⟨w', F⟩ (fun b hb => ⟨hb, hk b hb⟩) h⟩
section
variable {P : Program} {N : Frm} {w0 w : World} {K : Act → World → Prop} {e : Env} {R : List Piece} {H H' : List HP} {Q : Exit → Act → World → Prop} {ops : Array Oper} {rest : List Oper}
variable {d : Nat} {ty : TypeId} {pos : String} {aft : Array Edge}
theorem hlt_of {α : Type} {H : List α} {i : Nat} {p : α} (hi : H[i]? = some p) : i < H.length := (List.getElem?_eq_some_iff.1 hi).1
theorem St.chunk (st : St w0 R H w) {i : Nat} {p : HP} (hi : H[i]? = some p) : ∃ F, p.sat F w ∧ (∀ b, F b → b < w.heap.size) ∧ (∀ q ∈ R, q.Le ⟨w, fun b => b < w.heap.size ∧ ¬ F b⟩) ∧ ∀ w' F' q, q.sat F' w' → Turns w w' F F' → St w0 R (H.set i q) w' := by
 obtain ⟨Z, F, hz, hrr, hs, hff, hdd⟩ := st.ex
 refine ⟨F i, hs i p hi, (fun b hb => (hff i b hb).2), (fun q hqR b hb => ⟨⟨hz b (hrr q hqR b hb).1, fun hfb => (hff i b hfb).1 (hrr q hqR b hb).1⟩, (hrr q hqR b hb).2⟩), fun w' F' q hq' ht => ?_⟩
 have hlt := hlt_of hi
 refine ⟨ht.os.trans st.os, ht.tape.trans st.tape, ht.output.trans st.output, Nat.le_trans st.size ht.size, Z, fun j => if j = i then F' else F j, fun b h => Nat.lt_of_lt_of_le (hz b h) ht.size, fun p hp b h => ?_, fun j r hj => ?_, fun j b h => ?_, fun j k b hjk h => ?_⟩
 ·exact ⟨(hrr p hp b h).1, (ht.old b (hz b (hrr p hp b h).1) (fun hfb => (hff i b hfb).1 (hrr p hp b h).1)).trans (hrr p hp b h).2⟩
 ·rw [List.getElem?_set] at hj
  split at hj
  ·rename_i e; subst e
   first | (rw [if_pos hlt] at hj; cases hj) | cases hj
   simpa using hq'
  ·rename_i e
   simp only [if_neg (Ne.symm e)]
   exact r.loc _ _ _ (hs j r hj) (fun b hb => ht.old b (hff j b hb).2 (hdd j i b (Ne.symm e) hb))
 ·dsimp only at h
  split at h
  ·refine ⟨fun hzb => ?_, (ht.new b h).2⟩
   rcases (ht.new b h).1 with h | h
   ·exact (hff i b h).1 hzb
   ·have := hz b hzb; omega
  ·exact ⟨(hff j b h).1, Nat.lt_of_lt_of_le (hff j b h).2 ht.size⟩
 ·dsimp only at h ⊢
  split at h <;> split
  ·rename_i h1 h2; omega
  ·rename_i e1 e2
   intro hk
   rcases (ht.new b h).1 with h | h
   ·exact hdd i k b (by omega) h hk
   ·have := (hff k b hk).2; omega
  ·rename_i e1 e2
   intro hk
   rcases (ht.new b hk).1 with hk | hk
   ·exact hdd j i b (by omega) h hk
   ·have := (hff j b h).2; omega
  ·exact hdd j k b hjk h
theorem XK.reuse (i : Nat) {p q : HP} (hi : H[i]? = some p) (hq : ∀ F w, p.sat F w → q.sat F w) (h : XK N w0 K e R (H.set i q)) : XK N w0 K e R H := fun a w hr st => by
 obtain ⟨F, hp, hlt, _, hk⟩ := st.chunk hi
 exact h a w hr (hk w F q (hq F w hp) ⟨rfl, rfl, rfl, Nat.le_refl _, fun b hb => ⟨.inl hb, hlt b hb⟩, fun _ _ _ => rfl⟩)
theorem XK.drop (i : Nat) {p : HP} (hi : H[i]? = some p) (h : XK N w0 K e R (H.set i HP.emp)) : XK N w0 K e R H := XK.reuse i hi (fun _ _ _ => trivial) h
theorem XK.ownPic (i : Nat) {el : TypeId} {sz n c : Nat} {A : Option Addr} {xs : List Value} {Φ : Piece → Prop} {hm : ∀ p q : Piece, p.Le q → Φ p → Φ q} (hi : H[i]? = some (HP.own el sz (.slice A n c) n xs)) (hq : ∀ p, SlS p sz A n xs → Φ p) (h : XK N w0 K e R (H.set i (HP.pic Φ hm))) : XK N w0 K e R H :=
 XK.reuse i hi (fun F w hs => hq _ (SlS.own (q := ⟨w, F⟩) ⟨F, hs, fun _ h => h⟩)) h
theorem XK.joinPic {Φ Ψ X : Piece → Prop} {h1 : ∀ p q : Piece, p.Le q → Φ p → Φ q} {h2 : ∀ p q : Piece, p.Le q → Ψ p → Ψ q} {h3 : ∀ p q : Piece, p.Le q → X p → X q} (hX : ∀ p, Φ p → Ψ p → X p) (h : XK N w0 K e R (HP.pic X h3 :: H)) : XK N w0 K e R (HP.pic Φ h1 :: HP.pic Ψ h2 :: H) := fun a w hr st => by
  obtain ⟨Z, F, hz, hrr, hs, hff, hdd⟩ := st.ex
  refine h a w hr ⟨st.os, st.tape, st.output, st.size, Z, fun j => match j with | 0 => fun b => F 0 b ∨ F 1 b | j + 1 => F (j + 2), hz, hrr, fun j r hj => ?_, fun j b hb => ?_, fun j k b hjk hj hk => ?_⟩
  · cases j with
    | zero =>
      simp at hj
      subst hj
      exact hX _ (h1 ⟨w, F 0⟩ _ (fun b hb => ⟨.inl hb, rfl⟩) (hs 0 _ rfl)) (h2 ⟨w, F 1⟩ _ (fun b hb => ⟨.inr hb, rfl⟩) (hs 1 _ rfl))
    | succ j => exact hs (j + 2) r (by simpa using hj)
  · cases j with
    | zero => rcases hb with hb | hb <;> exact hff _ b hb
    | succ j => exact hff _ b hb
  · cases j with
    | zero => cases k with
      | zero => exact hjk rfl
      | succ k => rcases hj with hj | hj
                  · exact hdd 0 (k + 2) b (by omega) hj hk
                  · exact hdd 1 (k + 2) b (by omega) hj hk
    | succ j => cases k with
      | zero => rcases hk with hk | hk
                · exact hdd 0 (j + 2) b (by omega) hk hj
                · exact hdd 1 (j + 2) b (by omega) hk hj
      | succ k => exact hdd (j + 2) (k + 2) b (by omega) hj hk
theorem XK.ownP {q : Piece} {Φ : Piece → Prop} {hm : ∀ p q : Piece, p.Le q → Φ p → Φ q} (hf : Fresh w0 q) (hR : ∀ p ∈ R, ∀ b, p.Z b → b < w0.heap.size) (hΦ : Φ q) (h : XK N w0 K e R (HP.pic Φ hm :: H)) : XK N w0 K e (q :: R) H := fun a w hr st => by
 obtain ⟨Z, F, hz, hrr, hs, hff, hdd⟩ := st.ex
 have hq := hrr q (by simp)
 refine h a w hr ⟨st.os, st.tape, st.output, st.size, fun b => Z b ∧ ¬ q.Z b, fun j => match j with | 0 => q.Z | j + 1 => F j, fun b hb => hz b hb.1, fun p hp b hb => ?_, fun j r hj => ?_, fun j b hb => ?_, fun j k b hjk hj hk => ?_⟩
 ·refine ⟨⟨(hrr p (by simp [hp]) b hb).1, fun hqb => ?_⟩, (hrr p (by simp [hp]) b hb).2⟩
  have h1 := hR p hp b hb
  have h2 := hf b hqb
  omega
 ·cases j with
  | zero =>
   simp at hj
   subst hj
   exact hm q _ (fun b hb => ⟨hb, (hq b hb).2⟩) hΦ
  | succ j => exact hs j r (by simpa using hj)
 ·cases j with
  | zero => exact ⟨fun hh => hh.2 hb, hz b (hq b hb).1⟩
  | succ j => exact ⟨fun hh => (hff j b hb).1 hh.1, (hff j b hb).2⟩
 ·cases j with
  | zero => cases k with
   | zero => exact hjk rfl
   | succ k => exact (hff k b hk).1 (hq b hj).1
  | succ j => cases k with
   | zero => exact (hff j b hj).1 (hq b hk).1
   | succ k => exact hdd j k b (by omega) hj hk
end
end
section
theorem get_some {α : Type} {l : List α} {i : Nat} (h : i < l.length) : ∃ x, l[i]? = some x := ⟨l[i], List.getElem?_eq_getElem h⟩
theorem Sub.set {cs r : List Value} {o : Nat} (h : Sub cs o r) (k : Nat) (v : Value) (hk : k < r.length) (hl : o + k < cs.length) : Sub (cs.set (o + k) v) o (r.set k v) := fun j hj => by
 rw [List.length_set] at hj
 rw [List.getElem?_set, List.getElem?_set]
 by_cases he : k = j
 ·subst he; simp [hk, hl]
 ·rw [if_neg (by omega), if_neg he]; exact h j hj
def Upd (cs cs' : List Value) (o m : Nat) : Prop := cs'.length = cs.length ∧ ∀ j, (j < o ∨ o + m ≤ j) → cs'[j]? = cs[j]?
theorem Upd.refl (cs : List Value) (o m : Nat) : Upd cs cs o m := ⟨rfl, fun _ _ => rfl⟩
theorem Upd.set {cs cs' : List Value} {o m : Nat} (h : Upd cs cs' o m) (k : Nat) (v : Value) (hk : k < m) : Upd cs (cs'.set (o + k) v) o m :=
 ⟨by simpa using h.1, fun j hj => by rw [List.getElem?_set, if_neg (by omega)]; exact h.2 j hj⟩
theorem Rd.inMany {w0 : World} {R : List Piece} {H : List HP} {ps : List HP} {g o : Nat} {t : TypeId} {cs : List Value} {v : Value} (i j : Nat) (hi : H[i]? = some (HP.many ps)) (hj : ps[j]? = some (HP.blk g t cs)) (hv : cs[o]? = some v) : Rd w0 R H g o v := fun w st => by
 obtain ⟨F, G, g1, _⟩ := st.sat hi
 have := (g1 j _ hj).2
 rw [this.cell]
 simpa using hv
theorem flat_at {sz : Nat} (rows : List (List Value)) (hl : ∀ r ∈ rows, r.length = sz) (k f : Nat) (r : List Value) (hk : rows[k]? = some r) (hf : f < sz) : rows.flatten[k * sz + f]? = r[f]? := by
 have := flat_get (fun x => x) sz rows hl k f r hk hf
 rwa [List.flatMap_id'] at this
theorem rows_len {sz : Nat} : ∀ (rows : List (List Value)), (∀ r ∈ rows, r.length = sz) → rows.flatten.length = rows.length * sz
 | [], _ => by simp
 | r :: rs, h => by rw [List.flatten_cons, List.length_append, rows_len rs (fun x hx => h x (by simp [hx])), h r (by simp), List.length_cons, Nat.succ_mul, Nat.add_comm]
theorem flat_upd {sz n i : Nat} {cs cs' r' : List Value} {rows : List (List Value)} (hc : cs.take (n * sz) = rows.flatten) (hn : rows.length = n) (hr : ∀ r ∈ rows, r.length = sz) (hi : i < n) (hl : n * sz ≤ cs.length) (hr' : r'.length = sz) (hs : Sub cs' (i * sz) r') (hu : Upd cs cs' (i * sz) sz) : cs'.take (n * sz) = (rows.set i r').flatten := by
 have hrs : ∀ r ∈ rows.set i r', r.length = sz := fun r hrm => by
  rcases List.mem_or_eq_of_mem_set hrm with h | h
  ·exact hr r h
  ·rw [h]; exact hr'
 refine List.ext_getElem? fun j => ?_
 rcases Nat.lt_or_ge j (n * sz) with hj | hj
 ·have hpos : 0 < sz := by
   rcases Nat.eq_zero_or_pos sz with h0 | h0
   ·rw [h0, Nat.mul_zero] at hj; omega
   ·exact h0
  have hdm : j / sz * sz + j % sz = j := by rw [Nat.mul_comm]; exact Nat.div_add_mod j sz
  have hmod : j % sz < sz := Nat.mod_lt _ hpos
  have hq : j / sz < n := Nat.div_lt_of_lt_mul (by rw [Nat.mul_comm]; exact hj)
  have hlen := hu.1
  rw [List.getElem?_take_of_lt hj]
  by_cases he : j / sz = i
  ·have h1 : (rows.set i r')[j / sz]? = some r' := by rw [he, List.getElem?_set_self (by omega)]
   have h2 := flat_at (rows.set i r') hrs (j / sz) (j % sz) r' h1 hmod
   rw [hdm] at h2
   rw [h2]
   have h3 := hs (j % sz) (by omega)
   rw [← he, hdm] at h3
   exact h3
  ·obtain ⟨r, hrq⟩ := get_some (l := rows) (i := j / sz) (by omega)
   have h1 : (rows.set i r')[j / sz]? = some r := by rw [List.getElem?_set_ne (by omega)]; exact hrq
   have h2 := flat_at (rows.set i r') hrs (j / sz) (j % sz) r h1 hmod
   have h3 := flat_at rows hr (j / sz) (j % sz) r hrq hmod
   rw [hdm] at h2 h3
   rw [h2, ← h3, ← hc, List.getElem?_take_of_lt hj]
   refine hu.2 j ?_
   rcases Nat.lt_or_ge (j / sz) i with hlt | hge
   ·left
    have := Nat.mul_le_mul_right sz (show j / sz + 1 ≤ i by omega)
    rw [Nat.add_mul, Nat.one_mul] at this
    omega
   ·right
    have := Nat.mul_le_mul_right sz (show i + 1 ≤ j / sz by omega)
    rw [Nat.add_mul, Nat.one_mul] at this
    omega
 ·rw [List.getElem?_eq_none (by rw [List.length_take]; omega), List.getElem?_eq_none (by rw [rows_len _ hrs, List.length_set, hn]; exact hj)]
theorem flat_sub {sz n i : Nat} {cs r : List Value} {rows : List (List Value)} (hc : cs.take (n * sz) = rows.flatten) (hn : rows.length = n) (hr : ∀ r ∈ rows, r.length = sz) (hi : rows[i]? = some r) : Sub cs (i * sz) r := fun k hk => by
 have hlt : i < n := by rw [← hn]; exact (List.getElem?_eq_some_iff.1 hi).1
 have hrl : r.length = sz := hr r (List.mem_of_getElem? hi)
 have h1 := flat_at rows hr i k r hi (by omega)
 have h2 : i * sz + k < n * sz := by
  have := Nat.mul_le_mul_right sz (show i + 1 ≤ n by omega)
  rw [Nat.add_mul, Nat.one_mul] at this
  omega
 rw [← h1, ← hc, List.getElem?_take_of_lt h2]
def RowH (T el : TypeId) (sz t : Nat) (A : Option Addr) (n c : Nat) (rows : List (List Value)) : HP := HP.many [HP.blk t T [.slice A n c], HP.own el sz (.slice A n c) n rows.flatten]
structure RowR (w : World) (sz t : Nat) (A : Option Addr) (n c : Nat) (rows : List (List Value)) : Prop where
 r0 : ROc w t 0 (.slice A n c)
 row : SlS (all w) sz A n rows.flatten
section
variable {N : Frm} {w0 w : World} {e : Env} {R : List Piece} {H : List HP} {K : Act → World → Prop} {T el : TypeId} {sz t n c : Nat} {A : Option Addr} {rows rows' : List (List Value)}
theorem RowH.reads {F : Nat → Prop} (h : (RowH T el sz t A n c rows).sat F w) (hF : ∀ b, F b → b < w.heap.size) : RowR w sz t A n c rows := by
 obtain ⟨G, g1, g2, _⟩ := h
 have h0 := g1 0 _ rfl
 have h1 := g1 1 _ rfl
 obtain ⟨A', c', he, hs⟩ := SlS.of_own (Y := fun b => b < w.heap.size) h1 (fun b hb => hF b (g2 1 b hb))
 injection he with he
 subst he
 exact ⟨⟨h0.2.lt, by rw [h0.2.cell]; rfl⟩, hs⟩
theorem St.rowR (st : St w0 R H w) (i : Nat) (hi : H[i]? = some (RowH T el sz t A n c rows)) : RowR w sz t A n c rows := by
 obtain ⟨F, h1, h2, _⟩ := st.chunk hi
 exact RowH.reads h1 h2
theorem Rd.row (i : Nat) (hi : H[i]? = some (RowH T el sz t A n c rows)) : Rd w0 R H t 0 (.slice A n c) := fun w st => (st.rowR i hi).r0.2
theorem RowR.at_ (h : RowR w sz t A n c rows) (hr : ∀ r ∈ rows, r.length = sz) {i : Nat} {r : List Value} (hi : rows[i]? = some r) (hn : i < n) : ∃ b off, A = some ⟨b, off, none⟩ ∧ ROn w b (off + i * sz) r := SlS.row h.row hr hi hn
theorem RowR.below {w' : World} (h : RowR w sz t A n c rows) (hb : Below w.heap.size w w') : RowR w' sz t A n c rows :=
 ⟨⟨Nat.lt_of_lt_of_le h.r0.1 hb.size, (hb.cell (p := ⟨_, 0, none⟩) h.r0.1).trans h.r0.2⟩, h.row.le (all_le hb)⟩
theorem XK.openRow (i : Nat) (hi : H[i]? = some (RowH T el sz t A n c rows)) (hn : 0 < n) (h : ∀ g cs, A = some ⟨g, 0, none⟩ → cs.length = c * sz → cs.take (n * sz) = rows.flatten → n ≤ c → c ≤ maxLen →
  XK N w0 K e R (HP.blk g el cs :: HP.blk t T [.slice (some ⟨g, 0, none⟩) n c] :: H.set i (HP.many [HP.emp, HP.emp]))) : XK N w0 K e R H := by
 have hlt := hlt_of hi
 refine XK.take i 0 hi rfl ?_
 refine XK.take (i + 1) 1 (by rw [List.getElem?_cons_succ, List.getElem?_set_self hlt]) rfl ?_
 refine XK.ownHead 0 rfl hn fun g hA => ?_
 rw [hA]
 refine XK.openOwn 0 rfl fun cs h1 h2 h3 h4 => ?_
 have := h g cs hA h1 h2 h3 h4
 simpa [List.set_cons_succ, List.set_set] using this
theorem XK.closeRow (i : Nat) {g : Nat} {cs : List Value} (hA : A = some ⟨g, 0, none⟩) (h1 : cs.length = c * sz) (h2 : cs.take (n * sz) = rows'.flatten) (h3 : n ≤ c) (h4 : c ≤ maxLen) (hi : H[i]? = some (HP.many [HP.emp, HP.emp]))
  (h : XK N w0 K e R (H.set i (RowH T el sz t A n c rows'))) : XK N w0 K e R (HP.blk g el cs :: HP.blk t T [.slice (some ⟨g, 0, none⟩) n c] :: H) := by
 have hlt := hlt_of hi
 subst hA
 refine XK.closeOwn 0 (n := n) (c := c) (sz := sz) rfl h1 h2 h3 h4 ?_
 dsimp only [List.set]
 refine XK.give (i + 1) 1 (by rw [List.getElem?_cons_succ]; exact hi) rfl ?_
 dsimp only [List.set]
 refine XK.give i 0 (by rw [List.getElem?_set_self hlt]) rfl ?_
 simpa [List.set_set, RowH] using h
end
end
section
section
variable {N : Frm} {w0 : World} {e : Env} {R R0 : List Piece} {H H0 : List HP} {Q : Exit → Act → World → Prop} {ops : Array Oper} {rest : List Oper} {K : Act → World → Prop} {m fuel : Nat} {listed : Array Bool}
variable {d : Nat} {ty : TypeId} {pos : String} {aft : Array Edge} {op : Op} {v : Value}
theorem does_lenM {x : Operand} {t kt et : TypeId} {r : Nat} {l : List (Int × Value)} (ht : Tryz.prog.underlying t = some (.map kt et)) (hx : e.ev x = some (.map (some r))) (hm : ∀ w, St w0 R H w → MapI w r l) : Does Tryz.prog N w0 e R H ⟨some d, .call { callee := .builtin .len, args := #[x], argTypes := #[t] }, ty, pos, aft, none⟩ (.int .i64 l.length) := fun a w hr st => by
 obtain ⟨es, c, h1, h2⟩ := hm w st
 have hl : es.size = l.length := by have := congrArg List.length h2; simpa using this
 have h3 : (execOp a.eval ⟨some d, .call { callee := .builtin .len, args := #[x], argTypes := #[t] }, ty, pos, aft, none⟩).run Tryz.prog w = .ok (.value (.int .i64 es.size)) w := by
  simp [execOp, resolve, invoke, builtin, hr.ev hx, Builtin.len_, run_underlying ht, run_getObj_map h1, goInt]
 rw [h3, hl]
theorem kcallWC (i : Nat) {f : FuncId} {x : Operand} {args : List Operand} {fi ca vs : List Value} {tys : Array TypeId} {p : HP} (q : HP)
  (hc : ∀ w F, St w0 R H w → p.sat F w → (∀ b, F b → b < w.heap.size) → (∀ q ∈ R, q.Le ⟨w, fun b => b < w.heap.size ∧ ¬ F b⟩) → Calls Tryz.prog f (fi ++ vs ++ ca).toArray w fun y w' => y = .returned v ∧ ∃ F', q.sat F' w' ∧ Turns w w' F F')
  (k : XK N w0 (wpList Tryz.prog ops Q rest) ((d, v) :: e) R (H.set i q)) (hi : H[i]? = some p := by rfl) (hx : e.ev x = some (.func (.func f) fi.toArray ca.toArray) := by rfl) (ha : e.evs args = some vs := by rfl) (hf : callB Tryz.prog f = true := by kernel_rfl) (hd : d < N.n := by decide) :
  XK N w0 (wpList Tryz.prog ops Q (⟨some d, .call { callee := .value x, args := args.toArray, argTypes := tys }, ty, pos, aft, none⟩ :: rest)) e R H := xk_callE (dst := some d) (e' := (d, v) :: e) i q hf hx ha hi ⟨hd, rfl⟩ hc k
theorem kcallW (i : Nat) {f : FuncId} {x : Operand} {args : List Operand} {vs : List Value} {tys : Array TypeId} {p : HP} (q : HP)
  (hc : ∀ w F, St w0 R H w → p.sat F w → (∀ b, F b → b < w.heap.size) → (∀ q ∈ R, q.Le ⟨w, fun b => b < w.heap.size ∧ ¬ F b⟩) → Calls Tryz.prog f vs.toArray w fun y w' => y = .returned v ∧ ∃ F', q.sat F' w' ∧ Turns w w' F F')
  (k : XK N w0 (wpList Tryz.prog ops Q rest) ((d, v) :: e) R (H.set i q)) (hi : H[i]? = some p := by rfl) (hx : e.ev x = some (.func (.func f) #[] #[]) := by rfl) (ha : e.evs args = some vs := by rfl) (hf : callB Tryz.prog f = true := by kernel_rfl) (hd : d < N.n := by decide) :
  XK N w0 (wpList Tryz.prog ops Q (⟨some d, .call { callee := .value x, args := args.toArray, argTypes := tys }, ty, pos, aft, none⟩ :: rest)) e R H := kcallWC (fi := []) (ca := []) i q (fun w F t h1 h2 h3 => by simpa using hc w F t h1 h2 h3) k hi hx ha hf hd
end
end
section
set_option maxHeartbeats 4000000
set_option maxRecDepth 20000
def CloneOk_reg (n : Nat) (xs : List Value) (v : Value) (hs : List HP) (_ : Piece) : Prop := ∃ A c, v = .slice A n c ∧ hs = [HP.own 92 2 (.slice A n c) n xs]
theorem clone_reg (A : Option Addr) (n c : Nat) (xs : List Value) (w : World) (hs : SlS (all w) 2 A n xs) (h1 : ∀ u ∈ xs, u.oneCell' = true) (hn : n ≤ 1000000) :
  Calls Tryz.prog 141 #[.slice A n c] w (fun y w' => (∃ v hs q, y = .returned v ∧ q.w = w' ∧ CloneOk_reg n xs v hs q ∧ New w hs q) ∧ Below w.heap.size w w') := by
 refine XK.enter (vs := [.slice A n c]) Tryz.func141 rfl Tryz.ntmps141 (by simp) ?_
 refine XK.go ?_
 refine xk_eqNil (el := 92) (by kernel_rfl) rfl (by decide) ?_
 refine XK.nilN ?_
 refine XK.cond rfl (fun hA => ?_) (fun hA => ?_)
 ·refine XK.go ?_
  have hn0 : n = 0 := by
   rcases Nat.eq_zero_or_pos n with h | h
   ·exact h
   ·obtain ⟨b, off, rfl, _⟩ := hs.2 h
    cases hA
  subst hn0
  have hx : xs = [] := List.eq_nil_of_length_eq_zero (by simpa using hs.1)
  subst hx
  refine XK.nilrow 92 2 ?_
  refine XK.still [] [] [0] (by simp) rfl (by decide) (by decide) fun q _ _ hfr => ?_
  exact XK.ret1 rfl rfl fun w1 st => ⟨⟨_, _, ⟨w1, q.Z⟩, rfl, rfl, ⟨_, _, rfl, rfl⟩, st.newR (by simp) (by simp) (hfr (by simp) (by simp))⟩, st.below (by simp)⟩
 ·refine XK.go ?_
  refine xk_slice0 (el := 92) (sz := 2) (by kernel_rfl) (by kernel_rfl) (by decide) fun g => ?_
  refine XK.asOwn 0 2 0 rfl rfl (by omega) ?_
  dsimp only [List.set]
  refine XK.go ?_
  refine xk_appendT 0 2 8 n (n' := n) (el := 92) (by kernel_rfl) (by kernel_rfl) (by decide) rfl rfl rfl (sl_ro (by simp) hs) h1 (by omega) (by omega) (by omega) (by decide) fun A' k' => ?_
  dsimp only [List.set, List.nil_append]
  refine XK.go ?_
  refine XK.still [] [] [0] (by simp) rfl (by decide) (by decide) fun q _ _ hfr => ?_
  exact XK.ret1 rfl rfl fun w1 st => ⟨⟨_, _, ⟨w1, q.Z⟩, rfl, rfl, ⟨_, _, rfl, rfl⟩, st.newR (by simp) (by simp) (hfr (by simp) (by simp))⟩, st.below (by simp)⟩
def CloneOk_u32 (n : Nat) (xs : List Value) (v : Value) (hs : List HP) (_ : Piece) : Prop := ∃ A c, v = .slice A n c ∧ hs = [HP.own 44 1 (.slice A n c) n xs]
theorem clone_u32 (A : Option Addr) (n c : Nat) (xs : List Value) (w : World) (hs : SlS (all w) 1 A n xs) (h1 : ∀ u ∈ xs, u.oneCell' = true) (hn : n ≤ 1000000) :
  Calls Tryz.prog 72 #[.slice A n c] w (fun y w' => (∃ v hs q, y = .returned v ∧ q.w = w' ∧ CloneOk_u32 n xs v hs q ∧ New w hs q) ∧ Below w.heap.size w w') := by
 refine XK.enter (vs := [.slice A n c]) Tryz.func72 rfl Tryz.ntmps72 (by simp) ?_
 refine XK.go ?_
 refine xk_eqNil (el := 44) (by kernel_rfl) rfl (by decide) ?_
 refine XK.nilN ?_
 refine XK.cond rfl (fun hA => ?_) (fun hA => ?_)
 ·refine XK.go ?_
  have hn0 : n = 0 := by
   rcases Nat.eq_zero_or_pos n with h | h
   ·exact h
   ·obtain ⟨b, off, rfl, _⟩ := hs.2 h
    cases hA
  subst hn0
  have hx : xs = [] := List.eq_nil_of_length_eq_zero (by simpa using hs.1)
  subst hx
  refine XK.nilrow 44 1 ?_
  refine XK.still [] [] [0] (by simp) rfl (by decide) (by decide) fun q _ _ hfr => ?_
  exact XK.ret1 rfl rfl fun w1 st => ⟨⟨_, _, ⟨w1, q.Z⟩, rfl, rfl, ⟨_, _, rfl, rfl⟩, st.newR (by simp) (by simp) (hfr (by simp) (by simp))⟩, st.below (by simp)⟩
 ·refine XK.go ?_
  refine xk_slice0 (el := 44) (sz := 1) (by kernel_rfl) (by kernel_rfl) (by decide) fun g => ?_
  refine XK.asOwn 0 1 0 rfl rfl (by omega) ?_
  dsimp only [List.set]
  refine XK.go ?_
  refine xk_appendT 0 1 4 n (n' := n) (el := 44) (by kernel_rfl) (by kernel_rfl) (by decide) rfl rfl rfl (sl_ro (by simp) hs) h1 (by omega) (by omega) (by omega) (by decide) fun A' k' => ?_
  dsimp only [List.set, List.nil_append]
  refine XK.go ?_
  refine XK.still [] [] [0] (by simp) rfl (by decide) (by decide) fun q _ _ hfr => ?_
  exact XK.ret1 rfl rfl fun w1 st => ⟨⟨_, _, ⟨w1, q.Z⟩, rfl, rfl, ⟨_, _, rfl, rfl⟩, st.newR (by simp) (by simp) (hfr (by simp) (by simp))⟩, st.below (by simp)⟩
end
section
set_option maxHeartbeats 4000000
set_option maxRecDepth 20000
def u32C (l : List Int) : List Value := l.map (Value.int .u32)
theorem u32C_len (l : List Int) : (u32C l).length = l.length := by simp [u32C]
theorem u32C_get {l : List Int} {i : Nat} {v : Int} (h : l[i]? = some v) : (u32C l)[i]? = some (.int .u32 v) := by simp [u32C, h]
theorem u32C_set (l : List Int) (i : Nat) (v : Int) : (u32C l).set i (.int .u32 v) = u32C (l.set i v) := by simp [u32C, List.map_set]
structure FL where
 f : Nat
 gn : Nat
 gs : Nat
 A : Option Addr
 c : Nat
def RegP (d : Dev) (A : Option Addr) (p : Piece) : Prop := SlS p 2 A d.regs.length (d.regs.flatMap Rg.cells)
theorem RegP.le {d : Dev} {A : Option Addr} (p q : Piece) (hl : p.Le q) (h : RegP d A p) : RegP d A q := SlS.le h hl
def fileC (L : FL) (d : Dev) (k : Bool) : List Value := [.slice L.A d.regs.length L.c, .slice (some ⟨L.gn, 0, none⟩) d.regs.length d.regs.length, .slice (some ⟨L.gs, 0, none⟩) d.regs.length d.regs.length, .bool k]
def FileH (L : FL) (d : Dev) (x : FlS) : HP := HP.many [HP.blk L.f 240 (fileC L d x.kept), HP.blk L.gn 44 (u32C x.now), HP.blk L.gs 44 (u32C x.saved), HP.pic (RegP d L.A) (RegP.le (d := d) (A := L.A))]
structure FileR (w : World) (L : FL) (d : Dev) (x : FlS) : Prop where
 r0 : ROn w L.f 0 (fileC L d x.kept)
 now : ROn w L.gn 0 (u32C x.now)
 saved : ROn w L.gs 0 (u32C x.saved)
 made : SlS (all w) 2 L.A d.regs.length (d.regs.flatMap Rg.cells)
theorem FileR.below {w w' : World} {L : FL} {d : Dev} {x : FlS} (h : FileR w L d x) (hb : Below w.heap.size w w') : FileR w' L d x := ⟨h.r0.below hb, h.now.below hb, h.saved.below hb, h.made.le (all_le hb)⟩
theorem blk_ron {w : World} {g : Nat} {t : TypeId} {cs : List Value} (h : Blk w g t cs.toArray) : ROn w g 0 cs := ⟨h.lt, fun j v hv => by rw [h.cell, Nat.zero_add]; simpa using hv⟩
theorem FileH.reads {L : FL} {d : Dev} {x : FlS} {F : Nat → Prop} {w : World} (h : (FileH L d x).sat F w) (hF : ∀ b, F b → b < w.heap.size) : FileR w L d x := by
 obtain ⟨G, g1, g2, _⟩ := h
 exact ⟨blk_ron (g1 0 _ rfl).2, blk_ron (g1 1 _ rfl).2, blk_ron (g1 2 _ rfl).2, SlS.le (g1 3 _ rfl) (fun b hb => ⟨hF b (g2 3 b hb), rfl⟩)⟩
section
variable {N : Frm} {w0 w : World} {e : Env} {R : List Piece} {H : List HP} {K : Act → World → Prop} {L : FL} {d : Dev} {x : FlS}
theorem St.fileR (t : St w0 R H w) (i : Nat) (hi : H[i]? = some (FileH L d x)) : FileR w L d x := by
 obtain ⟨F, h1, h2, _⟩ := t.chunk hi
 exact FileH.reads h1 h2
theorem XK.openFile (i : Nat) (hi : H[i]? = some (FileH L d x)) (h : XK N w0 K e R (HP.blk L.gs 44 (u32C x.saved) :: HP.blk L.gn 44 (u32C x.now) :: HP.blk L.f 240 (fileC L d x.kept) :: H.set i (HP.many [HP.emp, HP.emp, HP.emp, HP.pic (RegP d L.A) (RegP.le (d := d) (A := L.A))]))) : XK N w0 K e R H := by
 have hlt := hlt_of hi
 refine XK.take i 0 hi rfl ?_
 refine XK.take (i + 1) 1 (by rw [List.getElem?_cons_succ, List.getElem?_set_self hlt]) rfl ?_
 refine XK.take (i + 2) 2 (by simp [hlt]; rfl) rfl ?_
 simpa [List.set_cons_succ, List.set_set] using h
theorem XK.closeFile (i : Nat) (hi : H[i]? = some (HP.many [HP.emp, HP.emp, HP.emp, HP.pic (RegP d L.A) (RegP.le (d := d) (A := L.A))])) (h : XK N w0 K e R (H.set i (FileH L d x))) : XK N w0 K e R (HP.blk L.gs 44 (u32C x.saved) :: HP.blk L.gn 44 (u32C x.now) :: HP.blk L.f 240 (fileC L d x.kept) :: H) := by
 have hlt := hlt_of hi
 refine XK.give (i + 2) 2 (by simpa using hi) rfl ?_
 dsimp only [List.set]
 refine XK.give (i + 1) 1 (by simp [hlt]; rfl) rfl ?_
 dsimp only [List.set]
 refine XK.give i 0 (by simp [hlt]; rfl) rfl ?_
 simpa [List.set_set, FileH] using h
end
theorem regsMany_any (L : FL) (d : Dev) (x : FlS) (w : World) (hR : FileR w L d x) :
  Calls Tryz.prog 64 #[.pointer (some ⟨L.f, 0, none⟩)] w (Rt (.int .i64 d.regs.length) w) := by
 have h0 := hR.r0.at_ (j := 0) rfl
 refine XK.enter (vs := [.pointer (some ⟨L.f, 0, none⟩)]) Tryz.func64 rfl Tryz.ntmps64 (by simp) ?_
 refine XK.go ?_
 exact XK.retE (by simp) rfl
theorem regsEach_m (p : Piece) (S : Nat → HP) (L : FL) (d : Dev) (hrl : d.regs.length ≤ 100) (f : FuncId) (hf : callB Tryz.prog f = true) (ca : List Value)
  (hread : ∀ i, i ≤ d.regs.length → ∀ w F, (S i).sat F w → (∀ b, F b → b < w.heap.size) → ∃ x, FileR w L d x)
  (hstep : ∀ i r, d.regs[i]? = some r → ∀ w F, (S i).sat F w → (∀ b, F b → b < w.heap.size) → p.Le ⟨w, fun b => b < w.heap.size ∧ ¬ F b⟩ →
   Calls Tryz.prog f (([.int .i64 (i : Int), .agg r.cells.toArray] : List Value) ++ ca).toArray w (fun y w' => y = .returned (.tuple #[]) ∧ ∃ F', (S (i + 1)).sat F' w' ∧ Turns w w' F F'))
  (w : World) (F : Nat → Prop) (hp : (S 0).sat F w) (hF : ∀ b, F b → b < w.heap.size) (hpw : p.Le ⟨w, fun b => b < w.heap.size ∧ ¬ F b⟩) :
  Calls Tryz.prog 226 #[.pointer (some ⟨L.f, 0, none⟩), .func (.func f) #[] ca.toArray] w (fun y w' => y = .returned (.tuple #[]) ∧ ∃ F', (S d.regs.length).sat F' w' ∧ Turns w w' F F') := by
 have hfr : ∀ {i : Nat} {R : List Piece} {H : List HP} {w1 : World}, i ≤ d.regs.length → St w R (S i :: H) w1 → ∃ x, FileR w1 L d x := fun hi t => by
  obtain ⟨G, g1, g2, _⟩ := t.chunk (i := 0) rfl
  exact hread _ hi _ G g1 g2
 refine XK.enterM (p := S 0) (F := F) (vs := [.pointer (some ⟨L.f, 0, none⟩), .func (.func f) #[] ca.toArray]) Tryz.func226 rfl Tryz.ntmps226 (by simp) hp hF ?_
 refine XK.go ?_
 refine kcall (v := .int .i64 d.regs.length) (fun w1 t => by
  obtain ⟨x, hx⟩ := hfr (Nat.zero_le _) t
  exact regsMany_any L d x w1 hx) ?_
 refine XK.go ?_
 refine XK.envS [(7, .int .i64 0), (6, .int .i64 d.regs.length), (1, .func (.func f) #[] ca.toArray), (0, .pointer (some ⟨L.f, 0, none⟩))] ?_
 refine XK.loop (fun m e R H => ∃ i : Nat, i ≤ d.regs.length ∧ m = d.regs.length - i ∧ e = [(7, .int .i64 i), (6, .int .i64 d.regs.length), (1, .func (.func f) #[] ca.toArray), (0, .pointer (some ⟨L.f, 0, none⟩))] ∧ R = [⟨w, fun b => b < w.heap.size ∧ ¬ F b⟩] ∧ H = [S i]) d.regs.length ⟨0, by omega, rfl, rfl, rfl, rfl⟩ fun m e R H hI => ?_
 obtain ⟨i, hi, rfl, rfl, rfl, rfl⟩ := hI
 refine XK.go ?_
 refine XK.if_ rfl (fun hlt => ?_) (fun hge => ?_)
 ·have hlt : i < d.regs.length := by omega
  obtain ⟨r, hr⟩ := get_some hlt
  have hb0 : ∃ b off, L.A = some ⟨b, off, none⟩ := by
   obtain ⟨x, hx⟩ := hread 0 (Nat.zero_le _) w F hp hF
   obtain ⟨b, off, h, _⟩ := hx.made.2 (by omega)
   exact ⟨b, off, h⟩
  obtain ⟨b, off, hA⟩ := hb0
  have hrd0 : Rd w [⟨w, fun b => b < w.heap.size ∧ ¬ F b⟩] [S i] L.f 0 (.slice (some ⟨b, off, none⟩) d.regs.length L.c) := fun w1 t => by
   obtain ⟨x, hx⟩ := hfr hi t
   rw [← hA]
   exact (hx.r0.at_ (j := 0) rfl).2
  have hrdN : RdN w [⟨w, fun b => b < w.heap.size ∧ ¬ F b⟩] [S i] b (off + i * 2) r.cells := fun w1 t => by
   obtain ⟨x, hx⟩ := hfr hi t
   obtain ⟨b', off', hA', hro⟩ := SlS.row (rows := d.regs.map Rg.cells) (by rw [← List.flatMap_def]; exact hx.made) (fun r hr => by obtain ⟨q, _, rfl⟩ := List.mem_map.1 hr; rfl) (by rw [List.getElem?_map, hr]; rfl) hlt
   rw [hA] at hA'
   cases hA'
   exact hro.2
  refine XK.go ?_
  refine kd (dat i (off + i * 2)) ?_
  refine XK.go ?_
  refine xk_callE 0 (fi := []) (ca := ca) (vs := [.int .i64 (i : Int), .agg r.cells.toArray]) (p := S i) (S (i + 1)) hf rfl rfl rfl ⟨(by decide), rfl⟩ (fun w1 G t hG hlt1 hle => by
   have hpl := Piece.Le.trans hpw (hle _ (by simp))
   simpa using hstep i r hr w1 G hG hlt1 hpl) ?_
  dsimp only [List.set]
  refine XK.go ?_
  refine XK.envS [(7, .int .i64 (i + 1 : Nat)), (6, .int .i64 d.regs.length), (1, .func (.func f) #[] ca.toArray), (0, .pointer (some ⟨L.f, 0, none⟩))] ?_
  exact XK.round (d.regs.length - (i + 1)) (by omega) ⟨i + 1, hlt, rfl, rfl, rfl, rfl⟩
 ·obtain rfl : i = d.regs.length := by omega
  refine XK.go ?_
  exact XK.ret0 (.inr rfl) rfl fun w1 t => ⟨rfl, t.turns hF (by simp) (i := 0) rfl⟩
end
section
set_option maxHeartbeats 4000000
set_option maxRecDepth 20000
def midN (vs old : List Int) (i : Nat) : List Int := vs.take i ++ old.drop i
theorem midN_zero (vs old : List Int) : midN vs old 0 = old := by simp [midN]
theorem midN_all {vs old : List Int} {n : Nat} (h1 : vs.length = n) (h2 : old.length = n) : midN vs old n = vs := by
 rw [midN, List.drop_eq_nil_of_le (by omega), List.append_nil, List.take_of_length_le (by omega)]
theorem midN_len {vs old : List Int} {i n : Nat} (h1 : vs.length = n) (h2 : old.length = n) (hi : i ≤ n) : (midN vs old i).length = n := by simp [midN]; omega
theorem midN_set {vs old : List Int} {i : Nat} {v : Int} (h1 : vs.length = old.length) (hv : vs[i]? = some v) : (midN vs old i).set i v = midN vs old (i + 1) := by
 have hi := (List.getElem?_eq_some_iff.1 hv).1
 refine List.ext_getElem? fun j => ?_
 rw [List.getElem?_set]
 unfold midN
 by_cases he : i = j
 ·subst he
  rw [if_pos rfl, if_pos (by simp; omega), List.getElem?_append_left (by simp; omega), List.getElem?_take_of_lt (by omega), hv]
 ·rw [if_neg he]
  rcases Nat.lt_or_ge j i with hj | hj
  ·rw [List.getElem?_append_left (by simp; omega), List.getElem?_append_left (by simp; omega), List.getElem?_take_of_lt hj, List.getElem?_take_of_lt (by omega)]
  ·rw [List.getElem?_append_right (by simp; omega), List.getElem?_append_right (by simp; omega), List.getElem?_drop, List.getElem?_drop]
   congr 1
   simp
   omega
theorem midN_get {vs old : List Int} {i : Nat} {v : Int} (h1 : vs.length = old.length) (hi : i < old.length) (hv : old[i]? = some v) : (midN vs old i)[i]? = some v := by
 rw [midN, List.getElem?_append_right (by simp; omega), List.getElem?_drop]
 simp only [List.length_take]
 rw [show i + (i - min i vs.length) = i by omega]
 exact hv
theorem regsBecome1_m (p : Piece) (L : FL) (d : Dev) (x : FlS) (f : FuncId) (hf : callB Tryz.prog f = true) (ca : List Value) (g2 g3 i : Nat) (r : Rg) (v : Int) (hr : d.regs[i]? = some r) (hln : x.now.length = d.regs.length)
  (h2 : p.Z g2 ∧ p.w.cell? ⟨g2, 0, none⟩ = some (.pointer (some ⟨L.f, 0, none⟩))) (h3 : p.Z g3 ∧ p.w.cell? ⟨g3, 0, none⟩ = some (.func (.func f) #[] ca.toArray))
  (hw : ∀ w F, (FileH L d x).sat F w → (∀ b, F b → b < w.heap.size) → p.Le (all w) → Calls Tryz.prog f (([.int .i64 (i : Int), .agg r.cells.toArray] : List Value) ++ ca).toArray w (Rt (.int .u32 v) w))
  (w : World) (F : Nat → Prop) (hp : (FileH L d x).sat F w) (hF : ∀ b, F b → b < w.heap.size) (hpw : p.Le ⟨w, fun b => b < w.heap.size ∧ ¬ F b⟩) :
  Calls Tryz.prog 243 #[.int .i64 (i : Int), .agg r.cells.toArray, .pointer (some ⟨g3, 0, none⟩), .pointer (some ⟨g2, 0, none⟩)] w (fun y w' => y = .returned (.tuple #[]) ∧ ∃ F', (FileH L d ⟨x.now.set i v, x.saved, x.kept⟩).sat F' w' ∧ Turns w w' F F') := by
 have hlt := (List.getElem?_eq_some_iff.1 hr).1
 obtain ⟨c2, e2⟩ := hpw g2 h2.1
 obtain ⟨c3, e3⟩ := hpw g3 h3.1
 have k2 : w.cell? ⟨g2, 0, none⟩ = some (.pointer (some ⟨L.f, 0, none⟩)) := (World.cell?_of_block (w := p.w) e2).trans h2.2
 have k3 : w.cell? ⟨g3, 0, none⟩ = some (.func (.func f) #[] ca.toArray) := (World.cell?_of_block (w := p.w) e3).trans h3.2
 refine XK.enterM (p := FileH L d x) (F := F) (vs := [.int .i64 (i : Int), .agg r.cells.toArray, .pointer (some ⟨g3, 0, none⟩), .pointer (some ⟨g2, 0, none⟩)]) Tryz.func243 rfl Tryz.ntmps243 (by simp) hp hF ?_
 refine XK.go ?_
 refine xk_box rfl (by decide) fun g1 => ?_
 refine XK.go ?_
 have r2 : Rd w [⟨w, fun b => b < w.heap.size ∧ ¬ F b⟩] [HP.blk g1 92 r.cells, FileH L d x] g2 0 (.pointer (some ⟨L.f, 0, none⟩)) := Rd.ro (List.mem_singleton.2 rfl) c2 k2
 have r3 : Rd w [⟨w, fun b => b < w.heap.size ∧ ¬ F b⟩] [HP.blk g1 92 r.cells, FileH L d x] g3 0 (.func (.func f) #[] ca.toArray) := Rd.ro (List.mem_singleton.2 rfl) c3 k3
 have r4 : Rd w [⟨w, fun b => b < w.heap.size ∧ ¬ F b⟩] [HP.blk g1 92 r.cells, FileH L d x] L.f 1 (.slice (some ⟨L.gn, 0, none⟩) d.regs.length d.regs.length) := fun w1 t => ((t.fileR 1 rfl).r0.at_ (j := 1) rfl).2
 refine XK.draw 9 (by kernel_rfl) (by kernel_rfl) ?_
 refine XA.q 0 ?_
 refine XA.q 1 ?_
 refine XA.q 2 ?_
 refine XA.q 3 ?_
 refine XA.q 4 ?_
 refine XA.q 5 ?_
 refine XA.q 6 ?_
 refine XA.q 7 ?_
 refine XA.next 8 rfl (by kernel_rfl) ?_
 refine kcallC (fi := []) (ca := ca) (vs := [.int .i64 (i : Int), .agg r.cells.toArray]) (v := .int .u32 v) (hf := hf) (fun w1 t => by
  obtain ⟨G, g1', g2', g3', _⟩ := t.chunk (i := 1) rfl
  have hle : p.Le (all w1) := fun b hb => by
   obtain ⟨a1, a2⟩ := (Piece.Le.trans hpw (g3' _ (List.mem_singleton.2 rfl))) b hb
   exact ⟨a1.1, a2⟩
  simpa using hw w1 G g1' g2' hle) ?_
 refine XA.bk ?_
 refine XA.next 9 rfl (by kernel_rfl) ?_
 refine kd (dat i i) ?_
 refine XA.bt ?_
 refine XA.next 10 rfl (by kernel_rfl) ?_
 refine XK.openFile 1 rfl ?_
 dsimp only [List.set]
 have hul := u32C_len x.now
 refine kst rfl rfl ?_
 dsimp only [List.set]
 rw [u32C_set]
 refine XK.closeFile (x := ⟨x.now.set i v, x.saved, x.kept⟩) 1 rfl ?_
 refine XA.bt ?_
 refine XA.done (by kernel_rfl) ?_
 refine XK.go ?_
 exact XK.ret0 (.inr rfl) rfl fun w1 t => ⟨rfl, t.turns hF (by simp) (i := 1) rfl⟩
theorem regsBecome_m (L : FL) (d : Dev) (x : FlS) (hrl : d.regs.length ≤ 100) (f : FuncId) (hf : callB Tryz.prog f = true) (ca : List Value) (p : Piece) (vs : List Int) (hvl : vs.length = d.regs.length) (hln : x.now.length = d.regs.length)
  (hw : ∀ (i : Nat) (r : Rg) (v : Int), d.regs[i]? = some r → vs[i]? = some v → ∀ (now : List Int) w F, (FileH L d ⟨now, x.saved, x.kept⟩).sat F w → (∀ b, F b → b < w.heap.size) → p.Le (all w) → Calls Tryz.prog f (([.int .i64 (i : Int), .agg r.cells.toArray] : List Value) ++ ca).toArray w (Rt (.int .u32 v) w))
  (w : World) (F : Nat → Prop) (hp : (FileH L d x).sat F w) (hF : ∀ b, F b → b < w.heap.size) (hpw : p.Le ⟨w, fun b => b < w.heap.size ∧ ¬ F b⟩) :
  Calls Tryz.prog 216 #[.pointer (some ⟨L.f, 0, none⟩), .func (.func f) #[] ca.toArray] w (fun y w' => y = .returned (.tuple #[]) ∧ ∃ F', (FileH L d ⟨vs, x.saved, x.kept⟩).sat F' w' ∧ Turns w w' F F') := by
 refine XK.enterM (p := FileH L d x) (F := F) (vs := [.pointer (some ⟨L.f, 0, none⟩), .func (.func f) #[] ca.toArray]) Tryz.func216 rfl Tryz.ntmps216 (by simp) hp hF ?_
 refine XK.go ?_
 refine xk_box rfl (by decide) fun g2 => ?_
 refine xk_box rfl (by decide) fun g3 => ?_
 refine XK.go ?_
 refine xk_func (vf := []) (vc := [.pointer (some ⟨g3, 0, none⟩), .pointer (some ⟨g2, 0, none⟩)]) rfl rfl (by decide) ?_
 refine XK.still [⟨w, fun b => b < w.heap.size ∧ ¬ F b⟩] [0, 1] [2] (by simp) rfl (by decide) (by decide) fun q hq hLe _ => ?_
 obtain ⟨F3, s3, z3⟩ := hq 0 _ (by simp) rfl
 obtain ⟨F2, s2, z2⟩ := hq 1 _ (by simp) rfl
 have hpq : p.Le q := Piece.Le.trans hpw (hLe _ (by simp))
 refine kcallW 0 (FileH L d ⟨vs, x.saved, x.kept⟩) (fun w1 G t hG hlt1 hle => by
  have key := regsEach_m q (fun i => FileH L d ⟨midN vs x.now i, x.saved, x.kept⟩) L d hrl 243 (by kernel_rfl) [.pointer (some ⟨g3, 0, none⟩), .pointer (some ⟨g2, 0, none⟩)]
   (fun i _ w F h1 h2 => ⟨_, FileH.reads h1 h2⟩) (fun i r hr w2 F2' h1 h2 h3 => by
    have hlt := (List.getElem?_eq_some_iff.1 hr).1
    obtain ⟨v, hv⟩ := get_some (l := vs) (i := i) (by omega)
    have := regsBecome1_m q L d ⟨midN vs x.now i, x.saved, x.kept⟩ f hf ca g2 g3 i r v hr (midN_len hvl hln (by omega))
     ⟨z2 _ s2.1, by rw [s2.2.cell]; rfl⟩ ⟨z3 _ s3.1, by rw [s3.2.cell]; rfl⟩ (fun w3 F3 a1 a2 a3 => hw i r v hr hv _ w3 F3 a1 a2 (Piece.Le.trans hpq a3)) w2 F2' h1 h2 h3
    try dsimp only at this
    rw [midN_set (by omega) hv] at this
    exact this) w1 G (by show (FileH L d ⟨midN vs x.now 0, x.saved, x.kept⟩).sat G w1; rw [midN_zero]; exact hG) hlt1 (hle q (by simp))
  try dsimp only at key
  rw [midN_all hvl hln] at key
  exact key) ?_
 dsimp only [List.set]
 refine XK.go ?_
 exact XK.ret0 (.inr rfl) rfl fun w1 t => ⟨rfl, t.turns hF (by simp) (i := 0) rfl⟩
end
section
set_option maxHeartbeats 4000000
set_option maxRecDepth 20000
structure GL where
 t : Nat
 A : Option Addr
 c : Nat
def domC (c : Dom) (x : DmS) : List Value := [.int .i64 c.above, .int .i64 c.delay, .bool c.ret, .int .u8 x.phase, .int .i64 x.left, .bool x.kept, .bool x.keep]
def domsR (s : Soc) (st : List DmS) : List (List Value) := List.zipWith domC s.domains st
abbrev GridH (L : GL) (s : Soc) (st : List DmS) : HP := RowH 230 232 7 L.t L.A s.domains.length L.c (domsR s st)
abbrev GridR (w : World) (L : GL) (s : Soc) (st : List DmS) : Prop := RowR w 7 L.t L.A s.domains.length L.c (domsR s st)
section
variable {s : Soc} {st : List DmS}
theorem domsR_len (hok : DmOk s st) : (domsR s st).length = s.domains.length ∧ ∀ r ∈ domsR s st, r.length = 7 := by
 have := hok.len
 refine ⟨by simp [domsR]; omega, fun r hr => ?_⟩
 obtain ⟨j, hj⟩ := List.getElem?_of_mem hr
 rw [domsR, List.getElem?_zipWith] at hj
 split at hj <;> cases hj
 rfl
theorem domsR_get {i : Nat} {c : Dom} {x : DmS} (hc : s.domains[i]? = some c) (hx : st[i]? = some x) : (domsR s st)[i]? = some (domC c x) := by
 rw [domsR, List.getElem?_zipWith, hc, hx]
theorem domsR_set {i : Nat} {c : Dom} {x : DmS} (hc : s.domains[i]? = some c) (hi : i < st.length) : (domsR s st).set i (domC c x) = domsR s (st.set i x) := by
 refine List.ext_getElem? fun j => ?_
 rw [List.getElem?_set]
 by_cases he : i = j
 ·subst he
  rw [if_pos rfl, domsR_get hc (x := x) (by rw [List.getElem?_set_self hi])]
  rw [if_pos]
  have h1 := (List.getElem?_eq_some_iff.1 hc).1
  simp [domsR]; omega
 ·rw [if_neg he, domsR, domsR, List.getElem?_zipWith, List.getElem?_zipWith, List.getElem?_set_ne he]
end
theorem powAt_in (t n c b off i : Nat) (w : World) (h0 : ROc w t 0 (.slice (some ⟨b, off, none⟩) n c)) (hi : i < n) :
  Calls Tryz.prog 161 #[.pointer (some ⟨t, 0, none⟩), .int .i64 (i : Int)] w (Rt (.pointer (some ⟨b, off + i * 7, none⟩)) w) := by
 refine XK.enter (vs := [.pointer (some ⟨t, 0, none⟩), .int .i64 (i : Int)]) Tryz.func161 rfl Tryz.ntmps161 (by simp) ?_
 refine XK.go ?_
 refine xk_split (t := 11) rfl (fun h => absurd h (by omega)) (fun _ => ?_)
 refine XK.go ?_
 refine XK.if_ rfl (fun h => absurd h (by omega)) (fun _ => ?_)
 refine XK.go ?_
 refine kd (dat i (off + i * 7)) ?_
 refine XK.go ?_
 exact XK.retE (by simp) rfl
theorem powAt_out (t n c : Nat) (A : Option Addr) (i : Int) (w : World) (h0 : ROc w t 0 (.slice A n c)) (hi : inB n i = false) :
  Calls Tryz.prog 161 #[.pointer (some ⟨t, 0, none⟩), .int .i64 i] w (Rt (.pointer none) w) := by
 have hi := of_decide_eq_false hi
 refine XK.enter (vs := [.pointer (some ⟨t, 0, none⟩), .int .i64 i]) Tryz.func161 rfl Tryz.ntmps161 (by simp) ?_
 refine XK.go ?_
 refine xk_split (t := 11) rfl (fun h => ?_) (fun h => ?_)
 ·refine XK.go ?_
  exact XK.retE (by simp) rfl
 ·refine XK.go ?_
  refine XK.if_ rfl (fun h => ?_) (fun h => absurd hi (by omega))
  refine XK.go ?_
  exact XK.retE (by simp) rfl
theorem powDown_any (g o : Nat) (p : Int) (w : World) (h3 : ROc w g (o + 3) (.int .u8 p)) :
  Calls Tryz.prog 162 #[.pointer (some ⟨g, o, none⟩)] w (Rt (.bool (decide (p = 48 ∨ p = 116))) w) := by
 refine XK.enter (vs := [.pointer (some ⟨g, o, none⟩)]) Tryz.func162 rfl Tryz.ntmps162 (by simp) ?_
 refine XK.go ?_
 refine xk_split (t := 8) rfl (fun h => ?_) (fun h => ?_)
 ·refine XK.go ?_
  refine XK.retE (by simp) ?_
  simp [h]
 ·refine XK.go ?_
  refine XK.retE (by simp) ?_
  simp [h]
theorem powPhase_any (L : GL) (s : Soc) (st : List DmS) (hok : DmOk s st) (d : Int) (w : World) (hR : GridR w L s st) :
  Calls Tryz.prog 88 #[.pointer (some ⟨L.t, 0, none⟩), .int .i64 d] w (Rt (.int .u8 (phaseF st d)) w) := by
 have hl := hok.len
 cases hi : inB s.domains.length d
 ·refine XK.enter (vs := [.pointer (some ⟨L.t, 0, none⟩), .int .i64 d]) Tryz.func88 rfl Tryz.ntmps88 (by simp) ?_
  refine XK.go ?_
  refine kcall (fun w1 t => powAt_out L.t s.domains.length L.c L.A d w1 ((hR.below (t.below (by simp))).r0) hi) ?_
  refine XK.go ?_
  refine XK.retE (by simp) ?_
  simp [phaseF, hl, hi]
 ·obtain ⟨n, rfl⟩ : ∃ n : Nat, d = n := ⟨d.toNat, by have := of_decide_eq_true hi; omega⟩
  have hlt : n < s.domains.length := by have := of_decide_eq_true hi; omega
  obtain ⟨c, hc⟩ := get_some hlt
  obtain ⟨x, hx⟩ := get_some (l := st) (i := n) (by omega)
  obtain ⟨b, off, hA, hro⟩ := hR.at_ (domsR_len hok).2 (domsR_get hc hx) hlt
  have h3 := hro.at_ (j := 3) rfl
  refine XK.enter (vs := [.pointer (some ⟨L.t, 0, none⟩), .int .i64 (n : Int)]) Tryz.func88 rfl Tryz.ntmps88 (by simp) ?_
  refine XK.go ?_
  refine kcall (fun w1 t => powAt_in L.t s.domains.length L.c b off n w1 (by rw [← hA]; exact (hR.below (t.below (by simp))).r0) hlt) ?_
  refine XK.go ?_
  refine XK.retE (by simp) ?_
  simp [phaseF, hl, hi, hx]
theorem powUp_m (L : GL) (s : Soc) (st : List DmS) (hH : s.okH) (hok : DmOk s st) (d : Int) (w : World) (F : Nat → Prop) (hp : (GridH L s st).sat F w) (hF : ∀ b, F b → b < w.heap.size) :
  Calls Tryz.prog 79 #[.pointer (some ⟨L.t, 0, none⟩), .int .i64 d] w (fun y w' => y = .returned (.int .i64 (upF s st d).1) ∧ ∃ F', (GridH L s (upF s st d).2).sat F' w' ∧ Turns w w' F F') := by
 have hl := hok.len
 cases hi : inB s.domains.length d
 ·have hr : upF s st d = (4, st) := by simp [upF, hl, hi]
  rw [hr]
  refine XK.enterM (p := GridH L s st) (F := F) (vs := [.pointer (some ⟨L.t, 0, none⟩), .int .i64 d]) Tryz.func79 rfl Tryz.ntmps79 (by simp) hp hF ?_
  refine XK.go ?_
  refine kcall (fun w1 t => powAt_out L.t s.domains.length L.c L.A d w1 ((t.rowR 0 rfl).r0) hi) ?_
  refine XK.go ?_
  exact XK.ret1 rfl rfl fun w1 t => ⟨rfl, t.turns hF (by simp) (i := 0) rfl⟩
 ·obtain ⟨n, rfl⟩ : ∃ n : Nat, d = n := ⟨d.toNat, by have := of_decide_eq_true hi; omega⟩
  have hlt : n < s.domains.length := by have := of_decide_eq_true hi; omega
  obtain ⟨c, hc⟩ := get_some hlt
  obtain ⟨x, hx⟩ := get_some (l := st) (i := n) (by omega)
  obtain ⟨hnl, hnr⟩ := domsR_len hok
  have hup : upF s st (n : Int) = if downP x = false ∨ aboveLive st c.above = false then (6, st) else (0, st.set n ⟨114, c.delay, decide (x.phase = 116), x.keep⟩) := by
   simp [upF, hl, hi, hc, hx]
  obtain ⟨hfa, _, _⟩ := hH.domains n c hc
  refine XK.enterM (p := GridH L s st) (F := F) (vs := [.pointer (some ⟨L.t, 0, none⟩), .int .i64 (n : Int)]) Tryz.func79 rfl Tryz.ntmps79 (by simp) hp hF ?_
  refine XK.openRow 0 rfl (by omega) fun g cs hA h1 h2 h3 h4 => ?_
  dsimp only [List.set]
  have hs := flat_sub h2 hnl hnr (domsR_get hc hx)
  have hlen : n * 7 + 7 ≤ cs.length := by omega
  have hs1 := hs.set 5 (.bool (decide (x.phase = 116))) (by simp [domC]) (by omega)
  have hs2 := hs1.set 3 (.int .u8 114) (by simp [domC]) (by simp; omega)
  have hs3 := hs2.set 4 (.int .i64 c.delay) (by simp [domC]) (by simp; omega)
  have hu3 := (((Upd.refl cs (n * 7) 7).set 5 (.bool (decide (x.phase = 116))) (by decide)).set 3 (.int .u8 114) (by decide)).set 4 (.int .i64 c.delay) (by decide)
  have hf := flat_upd (r' := domC c ⟨114, c.delay, decide (x.phase = 116), x.keep⟩) h2 hnl hnr hlt (by omega) rfl hs3 hu3
  rw [domsR_set hc (by omega)] at hf
  refine XK.go ?_
  refine kcall (fun w1 t => powAt_in L.t s.domains.length L.c g 0 n w1 ((t.box (i := 1) rfl).at_ (j := 0) rfl) hlt) ?_
  rw [Nat.zero_add]
  refine XK.go ?_
  refine XK.drawQ ?_
  refine XQ.go ?_
  refine XQ.call (fun w1 t => powDown_any g (n * 7) x.phase w1 ⟨(t.blk (i := 0) rfl).lt, Rd.sub 0 3 rfl hs rfl rfl w1 t⟩) ?_
  refine XQ.go ?_
  refine XQ.split 14 rfl (fun hd => ?_) (fun hd => ?_)
  ·rw [hup, if_pos (.inl (decide_eq_false hd))]
   refine XQ.end_ ?_
   refine XK.go ?_
   refine XK.closeRow 0 hA h1 h2 h3 h4 rfl ?_
   exact XK.ret1 rfl rfl fun w1 t => ⟨rfl, t.turns hF (by simp) (i := 0) rfl⟩
  ·have hdn : downP x = true := decide_eq_true (Classical.not_not.1 hd)
   refine XQ.go ?_
   refine XQ.split 21 rfl (fun ha => ?_) (fun ha => ?_)
   ·obtain ⟨a, ha2, hlt2⟩ : ∃ a : Nat, c.above = a ∧ a < n := ⟨c.above.toNat, by omega, by omega⟩
    obtain ⟨ca, hca⟩ := get_some (l := s.domains) (i := a) (by omega)
    obtain ⟨xa, hxa⟩ := get_some (l := st) (i := a) (by omega)
    have hsa := flat_sub h2 hnl hnr (domsR_get hca hxa)
    refine XQ.go ?_
    refine XQ.kd (dat a (a * 7)) ?_
    refine XQ.end_ ?_
    have hal : aboveLive st c.above = decide (xa.phase = 49) := by
     unfold aboveLive
     rw [ha2, Int.toNat_natCast, hxa]
     first | (simp; done) | (simp; omega)
    refine XK.if_ rfl (fun h => ?_) (fun h => ?_)
    ·rw [hup, if_pos (.inr (by rw [hal]; exact decide_eq_false h))]
     refine XK.go ?_
     refine XK.closeRow 0 hA h1 h2 h3 h4 rfl ?_
     exact XK.ret1 rfl rfl fun w1 t => ⟨rfl, t.turns hF (by simp) (i := 0) rfl⟩
    ·rw [hup, if_neg (by rw [hal, hdn]; simp; exact Classical.not_not.1 h)]
     refine XK.go ?_
     refine XK.closeRow 0 hA (by simpa using h1) hf h3 h4 rfl ?_
     exact XK.ret1 rfl rfl fun w1 t => ⟨rfl, t.turns hF (by simp) (i := 0) rfl⟩
   ·have ha := Classical.not_not.1 ha
    rw [hup, if_neg (by rw [hdn]; simp [aboveLive, ha])]
    refine XQ.end_ ?_
    refine XK.go ?_
    refine XK.closeRow 0 hA (by simpa using h1) hf h3 h4 rfl ?_
    exact XK.ret1 rfl rfl fun w1 t => ⟨rfl, t.turns hF (by simp) (i := 0) rfl⟩
end
section
set_option maxHeartbeats 4000000
set_option maxRecDepth 20000
def tickCs (cs : List Value) (o : Nat) (x : DmS) : List Value :=
 if x.phase = 114 then (if 0 < x.left then cs.set (o + 4) (.int .i64 (x.left - 1)) else cs.set (o + 3) (.int .u8 104))
 else if x.phase = 104 then cs.set (o + 3) (.int .u8 49)
 else if x.phase = 99 then cs.set (o + 3) (.int .u8 (if x.keep then 116 else 48)) else cs
theorem tickCs_sub {cs : List Value} {o : Nat} {c : Dom} {x : DmS} (h : Sub cs o (domC c x)) (hl : o + 7 ≤ cs.length) : Sub (tickCs cs o x) o (domC c (tickD x).2) ∧ Upd cs (tickCs cs o x) o 7 := by
 have hu := Upd.refl cs o 7
 obtain ⟨ph, left, kept, keep⟩ := x
 by_cases h1 : ph = 114
 ·subst h1
  by_cases h2 : 0 < left
  ·simp only [tickCs, tickD, if_pos h2, if_true]
   exact ⟨h.set 4 (.int .i64 (left - 1)) (by simp [domC]) (by omega), hu.set 4 _ (by decide)⟩
  ·simp only [tickCs, tickD, if_neg h2, if_true]
   exact ⟨h.set 3 (.int .u8 104) (by simp [domC]) (by omega), hu.set 3 _ (by decide)⟩
 ·by_cases h2 : ph = 104
  ·simp only [tickCs, tickD, if_neg h1, if_pos h2]
   exact ⟨h.set 3 (.int .u8 49) (by simp [domC]) (by omega), hu.set 3 _ (by decide)⟩
  ·by_cases h3 : ph = 99
   ·simp only [tickCs, tickD, if_neg h1, if_neg h2, if_pos h3]
    cases keep
    ·exact ⟨h.set 3 (.int .u8 48) (by simp [domC]) (by omega), hu.set 3 _ (by decide)⟩
    ·exact ⟨h.set 3 (.int .u8 116) (by simp [domC]) (by omega), hu.set 3 _ (by decide)⟩
   ·simp only [tickCs, tickD, if_neg h1, if_neg h2, if_neg h3]
    exact ⟨h, hu⟩
theorem powTick1_m (g o : Nat) (cs : List Value) (c : Dom) (x : DmS) (hs : Sub cs o (domC c x)) (hlen : o + 7 ≤ cs.length) (hx : 0 ≤ x.left ∧ x.left ≤ 3) (w : World) (F : Nat → Prop) (hp : (HP.blk g 232 cs).sat F w) (hF : ∀ b, F b → b < w.heap.size) :
  Calls Tryz.prog 168 #[.pointer (some ⟨g, o, none⟩)] w (fun y w' => y = .returned (.int .u8 (tickD x).1) ∧ ∃ F', (HP.blk g 232 (tickCs cs o x)).sat F' w' ∧ Turns w w' F F') := by
 refine XK.enterM (p := HP.blk g 232 cs) (F := F) (vs := [.pointer (some ⟨g, o, none⟩)]) Tryz.func168 rfl Tryz.ntmps168 (by simp) hp hF ?_
 obtain ⟨ph, left, kept, keep⟩ := x
 dsimp only at hx
 dsimp only [domC] at hs
 refine XK.go ?_
 refine XK.if_ rfl (fun h => ?_) (fun h => ?_)
 ·subst h
  refine XK.go ?_
  refine XK.if_ rfl (fun hp => ?_) (fun hp => ?_)
  ·refine XK.go ?_
   refine XK.ret1 rfl rfl fun w1 t => ⟨by simp [tickD, tickCs, hp, if_true], ?_⟩
   simp only [tickD, tickCs, if_pos hp, if_true]
   exact t.turns hF (by simp) (i := 0) rfl
  ·have hs1 := hs.set 3 (.int .u8 104) (by simp) (by omega)
   refine XK.go ?_
   refine XK.cond rfl (fun hk => ?_) (fun hk => ?_)
   ·refine XK.go ?_
    refine XK.ret1 rfl rfl fun w1 t => ⟨by simp [tickD, tickCs, hp, if_true, hk], ?_⟩
    simp only [tickD, tickCs, if_neg hp, if_true, hk]
    exact t.turns hF (by simp) (i := 0) rfl
   ·refine XK.go ?_
    refine XK.ret1 rfl rfl fun w1 t => ⟨by simp [tickD, tickCs, hp, if_true, hk], ?_⟩
    simp only [tickD, tickCs, if_neg hp, if_true, hk]
    exact t.turns hF (by simp) (i := 0) rfl
 ·refine XK.go ?_
  refine XK.if_ rfl (fun h2 => ?_) (fun h2 => ?_)
  ·refine XK.go ?_
   refine XK.ret1 rfl rfl fun w1 t => ⟨by simp [tickD, tickCs, h, h2], ?_⟩
   simp only [tickD, tickCs, if_neg h, if_pos h2]
   exact t.turns hF (by simp) (i := 0) rfl
  ·refine XK.go ?_
   refine XK.if_ rfl (fun h3 => ?_) (fun h3 => ?_)
   ·refine XK.go ?_
    refine XK.cond rfl (fun hk => ?_) (fun hk => ?_)
    ·refine XK.go ?_
     refine XK.ret1 rfl rfl fun w1 t => ⟨by simp [tickD, tickCs, h, h2, h3, hk, if_true], ?_⟩
     simp only [tickD, tickCs, if_neg h, if_neg h2, if_pos h3, hk, if_true]
     exact t.turns hF (by simp) (i := 0) rfl
    ·refine XK.go ?_
     refine XK.ret1 rfl rfl fun w1 t => ⟨by simp [tickD, tickCs, h, h2, h3, hk], ?_⟩
     simp only [tickD, tickCs, if_neg h, if_neg h2, if_pos h3, hk]
     exact t.turns hF (by simp) (i := 0) rfl
   ·refine XK.go ?_
    refine XK.ret1 rfl rfl fun w1 t => ⟨by simp [tickD, tickCs, h, h2, h3], ?_⟩
    simp only [tickD, tickCs, if_neg h, if_neg h2, if_neg h3]
    exact t.turns hF (by simp) (i := 0) rfl
theorem set_same' {α : Type} {l : List α} {i : Nat} {x : α} (h : l[i]? = some x) : l.set i x = l := by
 refine List.ext_getElem? fun j => ?_
 rw [List.getElem?_set]
 by_cases he : i = j
 ·subst he; rw [if_pos rfl, if_pos (List.getElem?_eq_some_iff.1 h).1, h]
 ·rw [if_neg he]
def midD (st : List DmS) (i : Nat) : List DmS := (tickG st).take i ++ st.drop i
theorem mid_get {α : Type} (f : α → α) (st : List α) {i : Nat} (hi : i < st.length) : ((st.map f).take i ++ st.drop i)[i]? = st[i]? := by
 have : ((st.map f).take i).length = i := by simp; omega
 rw [List.getElem?_append_right (by omega), this, Nat.sub_self, List.getElem?_drop, Nat.add_zero]
theorem mid_succ {α : Type} (f : α → α) (st : List α) {i : Nat} {x : α} (hx : st[i]? = some x) : ((st.map f).take i ++ st.drop i).set i (f x) = (st.map f).take (i + 1) ++ st.drop (i + 1) := by
 have hi := (List.getElem?_eq_some_iff.1 hx).1
 refine List.ext_getElem? fun j => ?_
 rw [List.getElem?_set]
 by_cases he : i = j
 ·subst he
  rw [if_pos rfl, if_pos (by simp; omega), List.getElem?_append_left (by simp; omega), List.getElem?_take_of_lt (by omega), List.getElem?_map, hx]
  rfl
 ·rw [if_neg he]
  rcases Nat.lt_or_ge j i with hj | hj
  ·rw [List.getElem?_append_left (by simp; omega), List.getElem?_append_left (by simp; omega), List.getElem?_take_of_lt hj, List.getElem?_take_of_lt (by omega)]
  ·rw [List.getElem?_append_right (by simp; omega), List.getElem?_append_right (by simp; omega), List.getElem?_drop, List.getElem?_drop]
   congr 1
   simp
   omega
theorem tickD_ok {x : DmS} (hl : 0 ≤ x.left ∧ x.left ≤ 3) (hp : 0 ≤ x.phase ∧ x.phase < 256) : (0 ≤ (tickD x).2.left ∧ (tickD x).2.left ≤ 3) ∧ (0 ≤ (tickD x).2.phase ∧ (tickD x).2.phase < 256) := by
 unfold tickD
 repeat' split
 all_goals (dsimp only; constructor <;> omega)
theorem tickG_ok {s : Soc} {st : List DmS} (hok : DmOk s st) : DmOk s (tickG st) := by
 have hl := hok.len
 refine ⟨by simp [tickG]; omega, fun x hx => ?_, fun x hx => ?_⟩
 ·obtain ⟨y, hy, rfl⟩ := List.mem_map.1 hx
  exact (tickD_ok (hok.left y hy) (hok.phase y hy)).1
 ·obtain ⟨y, hy, rfl⟩ := List.mem_map.1 hx
  exact (tickD_ok (hok.left y hy) (hok.phase y hy)).2
theorem midD_ok {s : Soc} {st : List DmS} (hok : DmOk s st) {i : Nat} (hi : i ≤ s.domains.length) : DmOk s (midD st i) := by
 have hl := hok.len
 have ht := tickG_ok hok
 refine ⟨by simp [midD, tickG]; omega, fun x hx => ?_, fun x hx => ?_⟩
 ·rcases List.mem_append.1 hx with h | h
  ·exact ht.left x (List.mem_of_mem_take h)
  ·exact hok.left x (List.mem_of_mem_drop h)
 ·rcases List.mem_append.1 hx with h | h
  ·exact ht.phase x (List.mem_of_mem_take h)
  ·exact hok.phase x (List.mem_of_mem_drop h)
def evC (p : Int × Nat) : List Value := [.int .u8 p.1, .int .i64 (p.2 : Int)]
theorem evsD_len (st : List DmS) (n : Nat) : (evsD st n).length ≤ n := by
 unfold evsD
 exact Nat.le_trans (List.length_filterMap_le _ _) (by simp)
theorem evsD_succ {st : List DmS} {i : Nat} {x : DmS} (hx : st[i]? = some x) : evsD st (i + 1) = evsD st i ++ (if (tickD x).1 = 0 then [] else [((tickD x).1, i)]) := by
 unfold evsD
 rw [List.range_succ, List.filterMap_append]
 simp only [List.filterMap_cons, List.filterMap_nil, hx, Option.bind_some]
 by_cases h : (tickD x).1 = 0 <;> simp [h]
theorem powTick_m (L : GL) (s : Soc) (st : List DmS) (hok : DmOk s st) (hnd : s.domains.length ≤ 1000) (w : World) (F : Nat → Prop) (hp : (GridH L s st).sat F w) (hF : ∀ b, F b → b < w.heap.size) :
  Calls Tryz.prog 84 #[.pointer (some ⟨L.t, 0, none⟩)] w (fun y w' => ∃ a : Option Addr × Nat, y = .returned (.slice a.1 (evsD st s.domains.length).length a.2) ∧ True ∧ ∃ F', (HP.many [GridH L s (tickG st), HP.own 166 2 (.slice a.1 (evsD st s.domains.length).length a.2) (evsD st s.domains.length).length ((evsD st s.domains.length).flatMap evC)]).sat F' w' ∧ Turns w w' F F') := by
 have hl := hok.len
 refine XK.enterM (p := GridH L s st) (F := F) (vs := [.pointer (some ⟨L.t, 0, none⟩)]) Tryz.func84 rfl Tryz.ntmps84 (by simp) hp hF ?_
 have hrd0 : Rd w [⟨w, fun b => b < w.heap.size ∧ ¬ F b⟩] [GridH L s st] L.t 0 (.slice L.A s.domains.length L.c) := Rd.row 0 rfl
 refine XK.go ?_
 refine XK.nilrow 166 2 ?_
 refine XK.envS [(13, .int .i64 0), (12, .int .i64 s.domains.length), (3, .slice none 0 0), (0, .pointer (some ⟨L.t, 0, none⟩))] ?_
 refine XK.loop (fun m e R H => ∃ (i : Nat) (A : Option Addr) (k : Nat), i ≤ s.domains.length ∧ m = s.domains.length - i ∧ e = [(13, .int .i64 i), (12, .int .i64 s.domains.length), (3, .slice A (evsD st i).length k), (0, .pointer (some ⟨L.t, 0, none⟩))] ∧ R = [⟨w, fun b => b < w.heap.size ∧ ¬ F b⟩] ∧ H = [HP.own 166 2 (.slice A (evsD st i).length k) (evsD st i).length ((evsD st i).flatMap evC), GridH L s (midD st i)]) s.domains.length ⟨0, none, 0, by omega, rfl, rfl, rfl, by simp [midD, evsD]⟩ fun m e R H hI => ?_
 obtain ⟨i, A, k, hi, rfl, rfl, rfl, rfl⟩ := hI
 refine XK.go ?_
 refine XK.if_ rfl (fun hlt => ?_) (fun hge => ?_)
 ·have hlt : i < s.domains.length := by omega
  obtain ⟨c, hc⟩ := get_some hlt
  obtain ⟨x, hx⟩ := get_some (l := st) (i := i) (by omega)
  have hgx : (midD st i)[i]? = some x := by rw [midD, tickG, mid_get _ st (by omega)]; exact hx
  have hok' := midD_ok hok hi
  obtain ⟨hnl, hnr⟩ := domsR_len hok'
  have hel := evsD_len st i
  refine XK.openRow 1 rfl (by omega) fun g cs hA h1 h2 h3 h4 => ?_
  dsimp only [List.set]
  have hs := flat_sub h2 hnl hnr (domsR_get hc hgx)
  obtain ⟨hs1, hu1⟩ := tickCs_sub hs (by omega)
  have hf := flat_upd (r' := domC c (tickD x).2) h2 hnl hnr hlt (by omega) rfl hs1 hu1
  rw [domsR_set hc (by have := hok'.len; omega), midD, tickG, mid_succ (fun x => (tickD x).2) st hx] at hf
  refine XK.go ?_
  refine kd (dat i (i * 7)) ?_
  refine xk_callM 0 (fi := []) (ca := []) (p := HP.blk g 232 cs) (HP.blk g 232 (tickCs cs (i * 7) x)) (by kernel_rfl) rfl rfl rfl ⟨(by decide), rfl⟩ (fun w1 G t hG hlt1 => powTick1_m g (i * 7) cs c x hs (by omega) (hok.left x (List.mem_of_getElem? hx)) w1 G hG hlt1) ?_
  dsimp only [List.set]
  have htl : (tickCs cs (i * 7) x).length = L.c * 7 := by rw [hu1.1, h1]
  refine XK.closeRow 1 hA htl hf h3 h4 rfl ?_
  dsimp only [List.set]
  have hsucc := evsD_succ hx
  refine XK.go ?_
  refine XK.if_ rfl (fun hz => ?_) (fun hz => ?_)
  ·rw [if_neg hz] at hsucc
   refine XK.go ?_
   refine xk_buildS (zs := [.int .u8 0, .int .i64 0]) (L := [(0, 1), (1, 1)]) (zeroB_of (by kernel_rfl)) (by kernel_rfl) rfl (by simp [fillL, setN, Value.cells]; rfl) (by decide) ?_
   refine xk_slice (el := 166) (sz := 2) (zs := [.int .u8 0, .int .i64 0]) (by kernel_rfl) (zeroB_of (by kernel_rfl)) (by kernel_rfl) rfl (by decide) (by decide) rfl (by simp [fillL, setN, Value.cells, List.range_succ, List.set]; rfl) (by decide) fun g2 => ?_
   refine xk_appendT 1 2 16 1 (el := 166) (by kernel_rfl) (by kernel_rfl) (by decide) rfl rfl rfl (sl_blk 0 rfl rfl) (by simp [Value.oneCell']) rfl (by omega) (by omega) (by decide) fun A' k' => ?_
   dsimp only [List.set]
   refine XK.go ?_
   have e1 : (evsD st (i + 1)).length = (evsD st i).length + 1 := by rw [hsucc]; simp
   have e2 : (evsD st (i + 1)).flatMap evC = (evsD st i).flatMap evC ++ [.int .u8 (tickD x).1, .int .i64 (i : Int)] := by rw [hsucc, List.flatMap_append]; rfl
   refine XK.weak [1, 2] rfl (by decide) (fun _ h => h) ?_
   refine XK.envS [(13, .int .i64 (i + 1 : Nat)), (12, .int .i64 s.domains.length), (3, .slice A' ((evsD st i).length + 1) k'), (0, .pointer (some ⟨L.t, 0, none⟩))] ?_
   exact XK.round (s.domains.length - (i + 1)) (by omega) ⟨i + 1, A', k', hlt, rfl, by rw [e1], rfl, by rw [e1, e2]; rfl⟩
  ·have hz := Classical.not_not.1 hz
   rw [if_pos hz, List.append_nil] at hsucc
   refine XK.go ?_
   refine XK.envS [(13, .int .i64 (i + 1 : Nat)), (12, .int .i64 s.domains.length), (3, .slice A (evsD st i).length k), (0, .pointer (some ⟨L.t, 0, none⟩))] ?_
   refine XK.round (s.domains.length - (i + 1)) (by omega) ⟨i + 1, A, k, hlt, rfl, by rw [hsucc], rfl, by rw [hsucc]; rfl⟩
 ·obtain rfl : i = s.domains.length := by omega
  have hfin : midD st s.domains.length = tickG st := by
   rw [midD, List.drop_eq_nil_of_le (by omega), List.append_nil, List.take_of_length_le (by simp [tickG]; omega)]
  rw [hfin]
  refine XK.go ?_
  refine XK.weak [1, 0] rfl (by decide) (fun _ h => h) ?_
  refine XK.pair ?_
  exact XK.ret1 rfl rfl fun w1 t => ⟨(A, k), rfl, trivial, t.turns hF (by simp) (i := 0) rfl⟩
end
section
set_option maxHeartbeats 4000000
set_option maxRecDepth 20000
theorem emp_le' (w : World) (q : Piece) : (⟨w, fun _ => False⟩ : Piece).Le q := fun _ h => h.elim
theorem clear1_any (i : Nat) (r : Rg) (w : World) :
  Calls Tryz.prog 217 #[.int .i64 (i : Int), .agg r.cells.toArray] w (Rt (.int .u32 r.reset) w) := by
 refine XK.enter (vs := [.int .i64 (i : Int), .agg r.cells.toArray]) Tryz.func217 rfl Tryz.ntmps217 (by simp) ?_
 refine XK.go ?_
 refine xk_box rfl (by decide) fun g1 => ?_
 dsimp only [Value.cells, Rg.cells]
 refine XK.go ?_
 exact XK.retE (by simp) rfl
theorem regsClear_m (L : FL) (d : Dev) (x : FlS) (hrl : d.regs.length ≤ 100) (hok : FlOk d x) (w : World) (F : Nat → Prop) (hp : (FileH L d x).sat F w) (hF : ∀ b, F b → b < w.heap.size) :
  Calls Tryz.prog 142 #[.pointer (some ⟨L.f, 0, none⟩)] w (fun y w' => y = .returned (.tuple #[]) ∧ ∃ F', (FileH L d (clearF d x)).sat F' w' ∧ Turns w w' F F') := by
 refine XK.enterM (p := FileH L d x) (F := F) (vs := [.pointer (some ⟨L.f, 0, none⟩)]) Tryz.func142 rfl Tryz.ntmps142 (by simp) hp hF ?_
 refine XK.go ?_
 refine kcallW 0 (FileH L d ⟨d.regs.map (·.reset), x.saved, x.kept⟩) (fun w1 G t hG hlt1 hle => by
  have := regsBecome_m L d x hrl 217 (by kernel_rfl) [] ⟨w1, fun _ => False⟩ (d.regs.map (·.reset)) (by simp) hok.now (fun i r v hr hv now w2 F2 _ _ _ => by
   rw [List.getElem?_map, hr] at hv
   cases hv
   exact clear1_any i r w2) w1 G hG hlt1 (emp_le' _ _)
  exact this) ?_
 dsimp only [List.set]
 refine XK.openFile 0 rfl ?_
 dsimp only [List.set, fileC]
 refine XK.go ?_
 refine XK.closeFile (x := clearF d x) 0 rfl ?_
 exact XK.ret0 (.inr rfl) rfl fun w1 t => ⟨rfl, t.turns hF (by simp) (i := 0) rfl⟩
theorem rest1_any (L : FL) (d : Dev) (x : FlS) (g1 i : Nat) (r : Rg) (v : Int) (hr : d.regs[i]? = some r) (hv : x.saved[i]? = some v) (w : World) (hR : FileR w L d x) (h1 : ROc w g1 0 (.pointer (some ⟨L.f, 0, none⟩))) :
  Calls Tryz.prog 228 #[.int .i64 (i : Int), .agg r.cells.toArray, .pointer (some ⟨g1, 0, none⟩)] w (Rt (.int .u32 (rest1 x.kept r v)) w) := by
 have hlt := (List.getElem?_eq_some_iff.1 hr).1
 have k3 := hR.r0.at_ (j := 3) rfl
 have k2 := hR.r0.at_ (j := 2) rfl
 have kv := hR.saved.at_ (u32C_get hv)
 rw [Nat.zero_add] at kv
 obtain ⟨rs, kp⟩ := r
 cases hk : x.kept
 ·rw [hk] at k3
  refine XK.enter (vs := [.int .i64 (i : Int), .agg (Rg.cells ⟨rs, kp⟩).toArray, .pointer (some ⟨g1, 0, none⟩)]) Tryz.func228 rfl Tryz.ntmps228 (by simp) ?_
  refine XK.go ?_
  refine xk_box rfl (by decide) fun g2 => ?_
  dsimp only [Value.cells, Rg.cells]
  refine XK.go ?_
  exact XK.retE (by simp) rfl
 ·rw [hk] at k3
  cases kp
  ·refine XK.enter (vs := [.int .i64 (i : Int), .agg (Rg.cells ⟨rs, false⟩).toArray, .pointer (some ⟨g1, 0, none⟩)]) Tryz.func228 rfl Tryz.ntmps228 (by simp) ?_
   refine XK.go ?_
   refine xk_box rfl (by decide) fun g2 => ?_
   dsimp only [Value.cells, Rg.cells]
   refine XK.go ?_
   exact XK.retE (by simp) rfl
  ·refine XK.enter (vs := [.int .i64 (i : Int), .agg (Rg.cells ⟨rs, true⟩).toArray, .pointer (some ⟨g1, 0, none⟩)]) Tryz.func228 rfl Tryz.ntmps228 (by simp) ?_
   refine XK.go ?_
   refine xk_box rfl (by decide) fun g2 => ?_
   dsimp only [Value.cells, Rg.cells]
   refine XK.go ?_
   refine kd (dat i i) ?_
   refine XK.go ?_
   exact XK.retE (by simp) rfl
theorem regsRestore_m (L : FL) (d : Dev) (x : FlS) (hrl : d.regs.length ≤ 100) (hok : FlOk d x) (w : World) (F : Nat → Prop) (hp : (FileH L d x).sat F w) (hF : ∀ b, F b → b < w.heap.size) :
  Calls Tryz.prog 170 #[.pointer (some ⟨L.f, 0, none⟩)] w (fun y w' => y = .returned (.tuple #[]) ∧ ∃ F', (FileH L d (restF d x)).sat F' w' ∧ Turns w w' F F') := by
 have hsl := hok.saved
 refine XK.enterM (p := FileH L d x) (F := F) (vs := [.pointer (some ⟨L.f, 0, none⟩)]) Tryz.func170 rfl Tryz.ntmps170 (by simp) hp hF ?_
 refine XK.go ?_
 refine xk_box rfl (by decide) fun g1 => ?_
 refine XK.go ?_
 refine xk_func (vf := []) (vc := [.pointer (some ⟨g1, 0, none⟩)]) rfl rfl (by decide) ?_
 refine XK.still [⟨w, fun b => b < w.heap.size ∧ ¬ F b⟩] [0] [1] (by simp) rfl (by decide) (by decide) fun q hq hLe _ => ?_
 obtain ⟨F1, s1, z1⟩ := hq 0 _ (by simp) rfl
 refine kcallW 0 (FileH L d (restF d x)) (fun w1 G t hG hlt1 hle => by
  have := regsBecome_m L d x hrl 228 (by kernel_rfl) [.pointer (some ⟨g1, 0, none⟩)] q (restF d x).now (by simp [restF]; omega) hok.now (fun i r v hr hv now w2 F2 a1 a2 a3 => by
   have hlt := (List.getElem?_eq_some_iff.1 hr).1
   obtain ⟨u, hu⟩ := get_some (l := x.saved) (i := i) (by omega)
   have he : v = rest1 x.kept r u := by
    rw [restF, List.getElem?_zipWith, hr, hu] at hv
    cases hv; rfl
   subst he
   obtain ⟨b1, b2⟩ := a3 g1 (z1 _ s1.1)
   exact rest1_any L d ⟨now, x.saved, x.kept⟩ g1 i r u hr hu w2 (FileH.reads a1 a2) ⟨b1, (World.cell?_of_block (w := q.w) b2).trans (by rw [s1.2.cell]; rfl)⟩) w1 G hG hlt1 (hle q (by simp))
  exact this) ?_
 dsimp only [List.set]
 refine XK.go ?_
 exact XK.ret0 (.inr rfl) rfl fun w1 t => ⟨rfl, t.turns hF (by simp) (i := 0) rfl⟩
theorem save1_m (p : Piece) (L : FL) (d : Dev) (x : FlS) (g1 i : Nat) (r : Rg) (v u : Int) (hr : d.regs[i]? = some r) (hv : x.now[i]? = some v) (hu : x.saved[i]? = some u) (hln : x.saved.length = d.regs.length)
  (h1 : p.Z g1 ∧ p.w.cell? ⟨g1, 0, none⟩ = some (.pointer (some ⟨L.f, 0, none⟩))) (w : World) (F : Nat → Prop) (hp : (FileH L d x).sat F w) (hF : ∀ b, F b → b < w.heap.size) (hpw : p.Le ⟨w, fun b => b < w.heap.size ∧ ¬ F b⟩) :
  Calls Tryz.prog 227 #[.int .i64 (i : Int), .agg r.cells.toArray, .pointer (some ⟨g1, 0, none⟩)] w (fun y w' => y = .returned (.tuple #[]) ∧ ∃ F', (FileH L d ⟨x.now, x.saved.set i (save1 r (v, u)), x.kept⟩).sat F' w' ∧ Turns w w' F F') := by
 have hlt := (List.getElem?_eq_some_iff.1 hr).1
 obtain ⟨c1, e1⟩ := hpw g1 h1.1
 have k1 : w.cell? ⟨g1, 0, none⟩ = some (.pointer (some ⟨L.f, 0, none⟩)) := (World.cell?_of_block (w := p.w) e1).trans h1.2
 obtain ⟨rs, kp⟩ := r
 cases kp
 ·have hsame : x.saved.set i (save1 ⟨rs, false⟩ (v, u)) = x.saved := set_same' hu
  rw [hsame]
  refine XK.enterM (p := FileH L d x) (F := F) (vs := [.int .i64 (i : Int), .agg (Rg.cells ⟨rs, false⟩).toArray, .pointer (some ⟨g1, 0, none⟩)]) Tryz.func227 rfl Tryz.ntmps227 (by simp) hp hF ?_
  refine XK.go ?_
  refine xk_box rfl (by decide) fun g2 => ?_
  dsimp only [Value.cells, Rg.cells]
  refine XK.go ?_
  exact XK.ret0 (.inr rfl) rfl fun w1 t => ⟨rfl, t.turns hF (by simp) (i := 1) rfl⟩
 ·refine XK.enterM (p := FileH L d x) (F := F) (vs := [.int .i64 (i : Int), .agg (Rg.cells ⟨rs, true⟩).toArray, .pointer (some ⟨g1, 0, none⟩)]) Tryz.func227 rfl Tryz.ntmps227 (by simp) hp hF ?_
  refine XK.go ?_
  refine xk_box rfl (by decide) fun g2 => ?_
  dsimp only [Value.cells, Rg.cells]
  refine XK.go ?_
  refine XK.openFile 1 rfl ?_
  dsimp only [List.set, fileC]
  have hul := u32C_len x.now
  have hsl := u32C_len x.saved
  have r1 : Rd w [⟨w, fun b => b < w.heap.size ∧ ¬ F b⟩] [HP.blk L.gs 44 (u32C x.saved), HP.blk L.gn 44 (u32C x.now), HP.blk L.f 240 [.slice L.A d.regs.length L.c, .slice (some ⟨L.gn, 0, none⟩) d.regs.length d.regs.length, .slice (some ⟨L.gs, 0, none⟩) d.regs.length d.regs.length, .bool x.kept], HP.blk g2 92 [.int .u32 rs, .bool true], HP.many [HP.emp, HP.emp, HP.emp, HP.pic (RegP d L.A) (RegP.le (d := d) (A := L.A))]] g1 0 (.pointer (some ⟨L.f, 0, none⟩)) := Rd.ro (List.mem_singleton.2 rfl) c1 k1
  have r2 : Rd w [⟨w, fun b => b < w.heap.size ∧ ¬ F b⟩] [HP.blk L.gs 44 (u32C x.saved), HP.blk L.gn 44 (u32C x.now), HP.blk L.f 240 [.slice L.A d.regs.length L.c, .slice (some ⟨L.gn, 0, none⟩) d.regs.length d.regs.length, .slice (some ⟨L.gs, 0, none⟩) d.regs.length d.regs.length, .bool x.kept], HP.blk g2 92 [.int .u32 rs, .bool true], HP.many [HP.emp, HP.emp, HP.emp, HP.pic (RegP d L.A) (RegP.le (d := d) (A := L.A))]] L.gn i (.int .u32 v) := Rd.blk 1 rfl (u32C_get hv)
  refine XK.draw 12 (by kernel_rfl) (by kernel_rfl) ?_
  refine XA.q 0 ?_
  refine XA.q 1 ?_
  refine XA.q 2 ?_
  refine XA.q 3 ?_
  refine XA.q 4 ?_
  refine XA.q 5 ?_
  refine XA.q 6 ?_
  refine XA.q 7 ?_
  refine XA.q 8 ?_
  refine XA.q 9 ?_
  refine XA.q 10 ?_ (hdo := dat (sz := 1) i i)
  refine XA.q 11 ?_
  refine XA.next 12 rfl (by kernel_rfl) ?_
  refine kd (dat i i) ?_
  refine XA.bt ?_
  refine XA.next 13 rfl (by kernel_rfl) ?_
  refine kst rfl rfl ?_
  dsimp only [List.set]
  rw [u32C_set]
  refine XA.bt ?_
  refine XA.done (by kernel_rfl) ?_
  refine XK.go ?_
  refine XK.weak [0, 1, 2, 4] rfl (by decide) (fun _ h => h) ?_
  refine XK.closeFile (x := ⟨x.now, x.saved.set i v, x.kept⟩) 0 rfl ?_
  exact XK.ret0 (.inr rfl) rfl fun w1 t => ⟨rfl, t.turns hF (by simp) (i := 0) rfl⟩
theorem regsSave_m (L : FL) (d : Dev) (x : FlS) (hrl : d.regs.length ≤ 100) (hok : FlOk d x) (w : World) (F : Nat → Prop) (hp : (FileH L d x).sat F w) (hF : ∀ b, F b → b < w.heap.size) :
  Calls Tryz.prog 169 #[.pointer (some ⟨L.f, 0, none⟩)] w (fun y w' => y = .returned (.tuple #[]) ∧ ∃ F', (FileH L d (saveF d x)).sat F' w' ∧ Turns w w' F F') := by
 have hsl := hok.saved
 have hnl := hok.now
 have hvl : (saveF d x).saved.length = d.regs.length := by simp [saveF]; omega
 refine XK.enterM (p := FileH L d x) (F := F) (vs := [.pointer (some ⟨L.f, 0, none⟩)]) Tryz.func169 rfl Tryz.ntmps169 (by simp) hp hF ?_
 refine XK.go ?_
 refine xk_box rfl (by decide) fun g1 => ?_
 refine XK.go ?_
 refine xk_func (vf := []) (vc := [.pointer (some ⟨g1, 0, none⟩)]) rfl rfl (by decide) ?_
 refine XK.still [⟨w, fun b => b < w.heap.size ∧ ¬ F b⟩] [0] [1] (by simp) rfl (by decide) (by decide) fun q hq hLe _ => ?_
 obtain ⟨F1, s1, z1⟩ := hq 0 _ (by simp) rfl
 refine kcallW 0 (FileH L d ⟨x.now, (saveF d x).saved, x.kept⟩) (fun w1 G t hG hlt1 hle => by
  have key := regsEach_m q (fun i => FileH L d ⟨x.now, midN (saveF d x).saved x.saved i, x.kept⟩) L d hrl 227 (by kernel_rfl) [.pointer (some ⟨g1, 0, none⟩)]
   (fun i _ w F h1 h2 => ⟨_, FileH.reads h1 h2⟩) (fun i r hr w2 F2' h1 h2 h3 => by
    have hlt := (List.getElem?_eq_some_iff.1 hr).1
    obtain ⟨v, hv⟩ := get_some (l := x.now) (i := i) (by omega)
    obtain ⟨u, hu⟩ := get_some (l := x.saved) (i := i) (by omega)
    have hs : (saveF d x).saved[i]? = some (save1 r (v, u)) := by
     rw [saveF, List.getElem?_zipWith, hr, (List.getElem?_zip_eq_some (z := (v, u))).2 ⟨hv, hu⟩]
    have := save1_m q L d ⟨x.now, midN (saveF d x).saved x.saved i, x.kept⟩ g1 i r v u hr hv (midN_get (by omega) (by omega) hu) (midN_len hvl hsl (by omega))
     ⟨z1 _ s1.1, by rw [s1.2.cell]; rfl⟩ w2 F2' h1 h2 h3
    try dsimp only at this
    rw [midN_set (by omega) hs] at this
    exact this) w1 G (by show (FileH L d ⟨x.now, midN (saveF d x).saved x.saved 0, x.kept⟩).sat G w1; rw [midN_zero]; exact hG) hlt1 (hle q (by simp))
  try dsimp only at key
  rw [midN_all hvl hsl] at key
  exact key) ?_
 dsimp only [List.set]
 refine XK.openFile 0 rfl ?_
 dsimp only [List.set, fileC]
 have r1 : ∀ H, Rd w [q, ⟨w, fun b => b < w.heap.size ∧ ¬ F b⟩] H g1 0 (.pointer (some ⟨L.f, 0, none⟩)) := fun H => Rd.ro (by simp : q ∈ _) (z1 _ s1.1) (by rw [s1.2.cell]; rfl)
 have r1 := r1 [HP.blk L.gs 44 (u32C (saveF d x).saved), HP.blk L.gn 44 (u32C x.now), HP.blk L.f 240 [.slice L.A d.regs.length L.c, .slice (some ⟨L.gn, 0, none⟩) d.regs.length d.regs.length, .slice (some ⟨L.gs, 0, none⟩) d.regs.length d.regs.length, .bool x.kept], HP.many [HP.emp, HP.emp, HP.emp, HP.pic (RegP d L.A) (RegP.le (d := d) (A := L.A))]]
 refine XK.go ?_
 refine XK.closeFile (x := saveF d x) 0 rfl ?_
 exact XK.ret0 (.inr rfl) rfl fun w1 t => ⟨rfl, t.turns hF (by simp) (i := 0) rfl⟩
end
section
set_option maxHeartbeats 4000000
set_option maxRecDepth 20000
def OwnN_clk (n : Nat) (xs : List Value) (v : Value) (hs : List HP) (_ : Piece) : Prop := ∃ A c, v = .slice A n c ∧ hs = [HP.own 118 6 (.slice A n c) n xs]
theorem ownN_clk (A : Option Addr) (n c : Nat) (xs : List Value) (w : World) (hs : SlS (all w) 6 A n xs) (h1 : ∀ u ∈ xs, u.oneCell' = true) (hn : n ≤ 1000000) :
  Calls Tryz.prog 143 #[.slice A n c] w (fun y w' => (∃ v hs q, y = .returned v ∧ q.w = w' ∧ OwnN_clk n xs v hs q ∧ New w hs q) ∧ Below w.heap.size w w') := by
 refine XK.enter (vs := [.slice A n c]) Tryz.func143 rfl Tryz.ntmps143 (by simp) ?_
 refine XK.go ?_
 refine XK.nilrow 118 6 ?_
 refine xk_appendT 0 6 64 n (n' := n) (v := .slice none 0 0) (el := 118) (by kernel_rfl) (by kernel_rfl) (by decide) rfl rfl rfl (sl_ro (by simp) hs) h1 (by omega) (by omega) (by omega) (by decide) fun A' k' => ?_
 dsimp only [List.set, List.nil_append]
 refine XK.go ?_
 refine XK.still [] [] [0] (by simp) rfl (by decide) (by decide) fun q _ _ hfr => ?_
 exact XK.ret1 rfl rfl fun w1 st => ⟨⟨_, _, ⟨w1, q.Z⟩, rfl, rfl, ⟨_, _, rfl, rfl⟩, st.newR (by simp) (by simp) (hfr (by simp) (by simp))⟩, st.below (by simp)⟩
def OwnN_dom (n : Nat) (xs : List Value) (v : Value) (hs : List HP) (_ : Piece) : Prop := ∃ A c, v = .slice A n c ∧ hs = [HP.own 75 3 (.slice A n c) n xs]
theorem ownN_dom (A : Option Addr) (n c : Nat) (xs : List Value) (w : World) (hs : SlS (all w) 3 A n xs) (h1 : ∀ u ∈ xs, u.oneCell' = true) (hn : n ≤ 1000000) :
  Calls Tryz.prog 144 #[.slice A n c] w (fun y w' => (∃ v hs q, y = .returned v ∧ q.w = w' ∧ OwnN_dom n xs v hs q ∧ New w hs q) ∧ Below w.heap.size w w') := by
 refine XK.enter (vs := [.slice A n c]) Tryz.func144 rfl Tryz.ntmps144 (by simp) ?_
 refine XK.go ?_
 refine XK.nilrow 75 3 ?_
 refine xk_appendT 0 3 24 n (n' := n) (v := .slice none 0 0) (el := 75) (by kernel_rfl) (by kernel_rfl) (by decide) rfl rfl rfl (sl_ro (by simp) hs) h1 (by omega) (by omega) (by omega) (by decide) fun A' k' => ?_
 dsimp only [List.set, List.nil_append]
 refine XK.go ?_
 refine XK.still [] [] [0] (by simp) rfl (by decide) (by decide) fun q _ _ hfr => ?_
 exact XK.ret1 rfl rfl fun w1 st => ⟨⟨_, _, ⟨w1, q.Z⟩, rfl, rfl, ⟨_, _, rfl, rfl⟩, st.newR (by simp) (by simp) (hfr (by simp) (by simp))⟩, st.below (by simp)⟩
def OwnN_rst (n : Nat) (xs : List Value) (v : Value) (hs : List HP) (_ : Piece) : Prop := ∃ A c, v = .slice A n c ∧ hs = [HP.own 120 1 (.slice A n c) n xs]
theorem ownN_rst (A : Option Addr) (n c : Nat) (xs : List Value) (w : World) (hs : SlS (all w) 1 A n xs) (h1 : ∀ u ∈ xs, u.oneCell' = true) (hn : n ≤ 1000000) :
  Calls Tryz.prog 145 #[.slice A n c] w (fun y w' => (∃ v hs q, y = .returned v ∧ q.w = w' ∧ OwnN_rst n xs v hs q ∧ New w hs q) ∧ Below w.heap.size w w') := by
 refine XK.enter (vs := [.slice A n c]) Tryz.func145 rfl Tryz.ntmps145 (by simp) ?_
 refine XK.go ?_
 refine XK.nilrow 120 1 ?_
 refine xk_appendT 0 1 8 n (n' := n) (v := .slice none 0 0) (el := 120) (by kernel_rfl) (by kernel_rfl) (by decide) rfl rfl rfl (sl_ro (by simp) hs) h1 (by omega) (by omega) (by omega) (by decide) fun A' k' => ?_
 dsimp only [List.set, List.nil_append]
 refine XK.go ?_
 refine XK.still [] [] [0] (by simp) rfl (by decide) (by decide) fun q _ _ hfr => ?_
 exact XK.ret1 rfl rfl fun w1 st => ⟨⟨_, _, ⟨w1, q.Z⟩, rfl, rfl, ⟨_, _, rfl, rfl⟩, st.newR (by simp) (by simp) (hfr (by simp) (by simp))⟩, st.below (by simp)⟩
def OwnN_dev (n : Nat) (xs : List Value) (v : Value) (hs : List HP) (_ : Piece) : Prop := ∃ A c, v = .slice A n c ∧ hs = [HP.own 78 6 (.slice A n c) n xs]
theorem ownN_dev (A : Option Addr) (n c : Nat) (xs : List Value) (w : World) (hs : SlS (all w) 6 A n xs) (h1 : ∀ u ∈ xs, u.oneCell' = true) (hn : n ≤ 1000000) :
  Calls Tryz.prog 146 #[.slice A n c] w (fun y w' => (∃ v hs q, y = .returned v ∧ q.w = w' ∧ OwnN_dev n xs v hs q ∧ New w hs q) ∧ Below w.heap.size w w') := by
 refine XK.enter (vs := [.slice A n c]) Tryz.func146 rfl Tryz.ntmps146 (by simp) ?_
 refine XK.go ?_
 refine XK.nilrow 78 6 ?_
 refine xk_appendT 0 6 80 n (n' := n) (v := .slice none 0 0) (el := 78) (by kernel_rfl) (by kernel_rfl) (by decide) rfl rfl rfl (sl_ro (by simp) hs) h1 (by omega) (by omega) (by omega) (by decide) fun A' k' => ?_
 dsimp only [List.set, List.nil_append]
 refine XK.go ?_
 refine XK.still [] [] [0] (by simp) rfl (by decide) (by decide) fun q _ _ hfr => ?_
 exact XK.ret1 rfl rfl fun w1 st => ⟨⟨_, _, ⟨w1, q.Z⟩, rfl, rfl, ⟨_, _, rfl, rfl⟩, st.newR (by simp) (by simp) (hfr (by simp) (by simp))⟩, st.below (by simp)⟩
def OwnN_int (n : Nat) (xs : List Value) (v : Value) (hs : List HP) (_ : Piece) : Prop := ∃ A c, v = .slice A n c ∧ hs = [HP.own 3 1 (.slice A n c) n xs]
theorem ownN_int (A : Option Addr) (n c : Nat) (xs : List Value) (w : World) (hs : SlS (all w) 1 A n xs) (h1 : ∀ u ∈ xs, u.oneCell' = true) (hn : n ≤ 1000000) :
  Calls Tryz.prog 147 #[.slice A n c] w (fun y w' => (∃ v hs q, y = .returned v ∧ q.w = w' ∧ OwnN_int n xs v hs q ∧ New w hs q) ∧ Below w.heap.size w w') := by
 refine XK.enter (vs := [.slice A n c]) Tryz.func147 rfl Tryz.ntmps147 (by simp) ?_
 refine XK.go ?_
 refine XK.nilrow 3 1 ?_
 refine xk_appendT 0 1 8 n (n' := n) (v := .slice none 0 0) (el := 3) (by kernel_rfl) (by kernel_rfl) (by decide) rfl rfl rfl (sl_ro (by simp) hs) h1 (by omega) (by omega) (by omega) (by decide) fun A' k' => ?_
 dsimp only [List.set, List.nil_append]
 refine XK.go ?_
 refine XK.still [] [] [0] (by simp) rfl (by decide) (by decide) fun q _ _ hfr => ?_
 exact XK.ret1 rfl rfl fun w1 st => ⟨⟨_, _, ⟨w1, q.Z⟩, rfl, rfl, ⟨_, _, rfl, rfl⟩, st.newR (by simp) (by simp) (hfr (by simp) (by simp))⟩, st.below (by simp)⟩
def OwnN_reg (n : Nat) (xs : List Value) (v : Value) (hs : List HP) (_ : Piece) : Prop := ∃ A c, v = .slice A n c ∧ hs = [HP.own 92 2 (.slice A n c) n xs]
theorem ownN_reg (A : Option Addr) (n c : Nat) (xs : List Value) (w : World) (hs : SlS (all w) 2 A n xs) (h1 : ∀ u ∈ xs, u.oneCell' = true) (hn : n ≤ 1000000) :
  Calls Tryz.prog 148 #[.slice A n c] w (fun y w' => (∃ v hs q, y = .returned v ∧ q.w = w' ∧ OwnN_reg n xs v hs q ∧ New w hs q) ∧ Below w.heap.size w w') := by
 refine XK.enter (vs := [.slice A n c]) Tryz.func148 rfl Tryz.ntmps148 (by simp) ?_
 refine XK.go ?_
 refine XK.nilrow 92 2 ?_
 refine xk_appendT 0 2 8 n (n' := n) (v := .slice none 0 0) (el := 92) (by kernel_rfl) (by kernel_rfl) (by decide) rfl rfl rfl (sl_ro (by simp) hs) h1 (by omega) (by omega) (by omega) (by decide) fun A' k' => ?_
 dsimp only [List.set, List.nil_append]
 refine XK.go ?_
 refine XK.still [] [] [0] (by simp) rfl (by decide) (by decide) fun q _ _ hfr => ?_
 exact XK.ret1 rfl rfl fun w1 st => ⟨⟨_, _, ⟨w1, q.Z⟩, rfl, rfl, ⟨_, _, rfl, rfl⟩, st.newR (by simp) (by simp) (hfr (by simp) (by simp))⟩, st.below (by simp)⟩
end
section
structure SocQ (p : Piece) (s : Soc) (A1 : Option Addr) (n1 : Nat) (A2 : Option Addr) (n2 : Nat) (A3 : Option Addr) (n3 : Nat) (A4 : Option Addr) (n4 : Nat) : Prop where
 clk : RsR (slq p) (ClkR (slq p)) 118 6 A1 n1 s.clocks
 dom : RsR (slq p) DomR 75 3 A2 n2 s.domains
 rst : RsR (slq p) RstR 120 1 A3 n3 s.resets
 dev : RsR (slq p) (DevR (slq p)) 78 6 A4 n4 s.devs
section
variable {p q : Piece} {w : World} {s : Soc} {A1 A2 A3 A4 : Option Addr} {n1 n2 n3 n4 : Nat}
theorem SocQ.le (h : SocQ p s A1 n1 A2 n2 A3 n3 A4 n4) (hl : p.Le q) : SocQ q s A1 n1 A2 n2 A3 n3 A4 n4 :=
 ⟨h.clk.mono (slq_le hl) (fun _ _ => ClkR.mono (slq_le hl)), h.dom.mono (slq_le hl) (fun _ _ h => h), h.rst.mono (slq_le hl) (fun _ _ h => h), h.dev.mono (slq_le hl) (fun _ _ => DevR.mono (slq_le hl))⟩
theorem SocQ.W (h : SocQ p s A1 n1 A2 n2 A3 n3 A4 n4) (hl : p.Le (all w)) (hs : s.small) : SocW w s A1 n1 A2 n2 A3 n3 A4 n4 := ⟨(h.le hl).clk, (h.le hl).dom, (h.le hl).rst, (h.le hl).dev, hs⟩
theorem SocQ.len (h : SocQ p s A1 n1 A2 n2 A3 n3 A4 n4) : n1 = s.clocks.length ∧ n2 = s.domains.length ∧ n3 = s.resets.length ∧ n4 = s.devs.length := by
 obtain ⟨⟨_, _, h1, _⟩, ⟨_, _, h2, _⟩, ⟨_, _, h3, _⟩, ⟨_, _, h4, _⟩⟩ := h
 exact ⟨h1, h2, h3, h4⟩
theorem SocR.Q {cs : Array Value} (h : SocR (slq p) s cs) : ∃ A1 n1 k1 A2 n2 k2 A3 n3 k3 A4 n4 k4, cs = #[.slice A1 n1 k1, .slice A2 n2 k2, .slice A3 n3 k3, .slice A4 n4 k4] ∧ SocQ p s A1 n1 A2 n2 A3 n3 A4 n4 := by
 obtain ⟨A1, n1, k1, A2, n2, k2, A3, n3, k3, A4, n4, k4, h0, h1, h2, h3, h4⟩ := h
 exact ⟨A1, n1, k1, A2, n2, k2, A3, n3, k3, A4, n4, k4, h0, h1, h2, h3, h4⟩
end
theorem RsR.rowQ {α : Type} {p : Piece} {R : α → List Value → Prop} {t : TypeId} {sz n : Nat} {A : Option Addr} {es : List α} (h : RsR (slq p) R t sz A n es) {k : Nat} {e : α} (hk : es[k]? = some e) :
  ∃ b off r, A = some ⟨b, off, none⟩ ∧ p.Z b ∧ r.length = sz ∧ R e r ∧ ∀ f u, r[f]? = some u → p.w.cell? ⟨b, off + k * sz + f, none⟩ = some u := by
 obtain ⟨rows, h1, h2, h3⟩ := h
 have hlt : k < n := by
  rw [h2]
  rcases Nat.lt_or_ge k es.length with h | h
  ·exact h
  ·rw [List.getElem?_eq_none h] at hk; cases hk
 obtain ⟨b, off, hA, hb, hc⟩ := SlS.at_ h3 hlt
 obtain ⟨r, h4, h5, h6⟩ := h1.get hk
 refine ⟨b, off, r, hA, hb, h4, h5, fun f u hu => hc f u ?_⟩
 have hf : f < sz := by
  rw [← h4]
  rcases Nat.lt_or_ge f r.length with h | h
  ·exact h
  ·rw [List.getElem?_eq_none h] at hu; cases hu
 rw [h6 f hf, hu]
end
section
theorem XK.chunk0 {N : Frm} {w0 : World} {e : Env} {R : List Piece} {H : List HP} {K : Act → World → Prop} {p : HP} (hp : ∀ w, p.sat (fun _ => False) w) (h : XK N w0 K e R (p :: H)) : XK N w0 K e R H := fun a w hr st =>
 h a w hr (st.new (w' := w) (Below.refl _ _) (by
  rw [show (fresh w w).Z = fun _ => False from by funext b; simp only [fresh, eq_iff_iff, iff_false]; omega]
  exact hp w))
abbrev AC := Option Addr × Nat
def clkC (c : Clk) (a : AC) : List Value := [.int .u8 c.kind, .slice a.1 c.src.length a.2, .int .u64 c.rate, .int .i64 c.mul, .int .i64 c.div, .int .i64 c.lock]
def devC (d : Dev) (p : AC × AC) : List Value := [.int .i64 d.clock, .int .i64 d.domain, .int .i64 d.reset, .int .u32 d.clamp, .slice p.1.1 d.regs.length p.1.2, .slice p.2.1 d.needs.length p.2.2]
def clksR (s : Soc) (fa : List AC) : List (List Value) := List.zipWith clkC s.clocks fa
def devsR (s : Soc) (da : List (AC × AC)) : List (List Value) := List.zipWith devC s.devs da
section
variable {α β : Type} {f : α → β → List Value} {sz : Nat}
theorem zw_len {es : List α} {bs : List β} (hl : bs.length = es.length) (hf : ∀ e a, (f e a).length = sz) : (List.zipWith f es bs).length = es.length ∧ ∀ r ∈ List.zipWith f es bs, r.length = sz := by
 refine ⟨by simp; omega, fun r hr => ?_⟩
 obtain ⟨j, hj⟩ := List.getElem?_of_mem hr
 rw [List.getElem?_zipWith] at hj
 split at hj <;> cases hj
 exact hf _ _
theorem zw_get {es : List α} {bs : List β} {i : Nat} {e : α} {a : β} (he : es[i]? = some e) (ha : bs[i]? = some a) : (List.zipWith f es bs)[i]? = some (f e a) := by rw [List.getElem?_zipWith, he, ha]
theorem zw_set {es : List α} {bs : List β} {i : Nat} {e : α} {a : β} (he : es[i]? = some e) (hi : i < bs.length) : (List.zipWith f es bs).set i (f e a) = List.zipWith f es (bs.set i a) := by
 refine List.ext_getElem? fun j => ?_
 rw [List.getElem?_set]
 by_cases hj : i = j
 ·subst hj
  have h1 := (List.getElem?_eq_some_iff.1 he).1
  rw [if_pos rfl, zw_get he (List.getElem?_set_self hi), if_pos (by simp; omega)]
 ·rw [if_neg hj, List.getElem?_zipWith, List.getElem?_zipWith, List.getElem?_set_ne hj]
theorem zw_one {es : List α} {bs : List β} (hf : ∀ e a, ∀ u ∈ f e a, u.oneCell' = true) : ∀ u ∈ (List.zipWith f es bs).flatten, u.oneCell' = true := fun u hu => by
 obtain ⟨r, hr, hu⟩ := List.mem_flatten.1 hu
 obtain ⟨j, hj⟩ := List.getElem?_of_mem hr
 rw [List.getElem?_zipWith] at hj
 split at hj <;> cases hj
 exact hf _ _ u hu
end
theorem clkC_one (c : Clk) (a : AC) : ∀ u ∈ clkC c a, u.oneCell' = true := by simp [clkC, Value.oneCell']
theorem devC_one (d : Dev) (p : AC × AC) : ∀ u ∈ devC d p, u.oneCell' = true := by simp [devC, Value.oneCell']
theorem clk_rows {S : SlP} : ∀ {cl : List Clk} {rs : List (List Value)}, Rows (ClkR S) 6 cl rs → ∃ fa : List AC, fa.length = cl.length ∧ rs = List.zipWith clkC cl fa ∧ ∀ (i : Nat) (c : Clk) (a : AC), cl[i]? = some c → fa[i]? = some a → S 3 1 a.1 c.src.length (intCells c.src)
 | [], [], _ => ⟨[], rfl, rfl, fun i c a h => by simp at h⟩
 | e :: es, r :: rs, h => by
  obtain ⟨_, ⟨A, n, k, hr, hn, hS⟩, h3⟩ := h
  obtain ⟨fa, h4, h5, h6⟩ := clk_rows h3
  subst hn
  refine ⟨(A, k) :: fa, by simp [h4], by rw [hr, h5]; rfl, fun i c a hc ha => ?_⟩
  cases i with
  | zero => simp at hc ha; subst hc; subst ha; exact hS
  | succ i => exact h6 i c a (by simpa using hc) (by simpa using ha)
theorem rows_clk {S : SlP} : ∀ {cl : List Clk} {fa : List AC}, fa.length = cl.length → (∀ (i : Nat) (c : Clk) (a : AC), cl[i]? = some c → fa[i]? = some a → S 3 1 a.1 c.src.length (intCells c.src)) → Rows (ClkR S) 6 cl (List.zipWith clkC cl fa)
 | [], [], _, _ => trivial
 | c :: cl, a :: fa, hl, h => ⟨rfl, ⟨a.1, _, a.2, rfl, rfl, h 0 c a rfl rfl⟩, rows_clk (by simpa using hl) fun i c' a' hc ha => h (i + 1) c' a' (by simpa using hc) (by simpa using ha)⟩
theorem dev_rows {S : SlP} : ∀ {cl : List Dev} {rs : List (List Value)}, Rows (DevR S) 6 cl rs → ∃ da : List (AC × AC), da.length = cl.length ∧ rs = List.zipWith devC cl da ∧ ∀ (i : Nat) (d : Dev) (p : AC × AC), cl[i]? = some d → da[i]? = some p → S 92 2 p.1.1 d.regs.length (d.regs.flatMap Rg.cells) ∧ S 3 1 p.2.1 d.needs.length (intCells d.needs)
 | [], [], _ => ⟨[], rfl, rfl, fun i c a h => by simp at h⟩
 | e :: es, r :: rs, h => by
  obtain ⟨_, ⟨A, n, k, A', n', k', hr, hn, hn', hS, hS'⟩, h3⟩ := h
  obtain ⟨da, h4, h5, h6⟩ := dev_rows h3
  subst hn; subst hn'
  refine ⟨((A, k), (A', k')) :: da, by simp [h4], by rw [hr, h5]; rfl, fun i d p hc ha => ?_⟩
  cases i with
  | zero => simp at hc ha; subst hc; subst ha; exact ⟨hS, hS'⟩
  | succ i => exact h6 i d p (by simpa using hc) (by simpa using ha)
theorem rows_dev {S : SlP} : ∀ {cl : List Dev} {da : List (AC × AC)}, da.length = cl.length → (∀ (i : Nat) (d : Dev) (p : AC × AC), cl[i]? = some d → da[i]? = some p → S 92 2 p.1.1 d.regs.length (d.regs.flatMap Rg.cells) ∧ S 3 1 p.2.1 d.needs.length (intCells d.needs)) → Rows (DevR S) 6 cl (List.zipWith devC cl da)
 | [], [], _, _ => trivial
 | c :: cl, a :: da, hl, h => ⟨rfl, ⟨a.1.1, _, a.1.2, a.2.1, _, a.2.2, rfl, rfl, rfl, (h 0 c a rfl rfl).1, (h 0 c a rfl rfl).2⟩, rows_dev (by simpa using hl) fun i c' a' hc ha => h (i + 1) c' a' (by simpa using hc) (by simpa using ha)⟩
theorem dom_one {es : List Dom} {rs : List (List Value)} (h : Rows DomR 3 es rs) : ∀ u ∈ rs.flatten, u.oneCell' = true := fun u hu => by
 obtain ⟨r, hr, hu⟩ := List.mem_flatten.1 hu
 obtain ⟨j, hj⟩ := List.getElem?_of_mem hr
 obtain ⟨e, _, _, hR⟩ := h.at_ hj
 unfold DomR at hR
 subst hR
 simp only [List.mem_cons, List.not_mem_nil, or_false] at hu
 rcases hu with rfl | rfl | rfl <;> rfl
theorem rst_one {es : List Int} {rs : List (List Value)} (h : Rows RstR 1 es rs) : ∀ u ∈ rs.flatten, u.oneCell' = true := fun u hu => by
 obtain ⟨r, hr, hu⟩ := List.mem_flatten.1 hu
 obtain ⟨j, hj⟩ := List.getElem?_of_mem hr
 obtain ⟨e, _, _, hR⟩ := h.at_ hj
 unfold RstR at hR
 subst hR
 simp only [List.mem_cons, List.not_mem_nil, or_false] at hu
 subst hu
 rfl
def CkP (s : Soc) (fa : List AC) (i : Nat) (p : Piece) : Prop := ∀ (j : Nat) (c : Clk) (a : AC), j < i → s.clocks[j]? = some c → fa[j]? = some a → SlS p 1 a.1 c.src.length (intCells c.src)
theorem CkP.le {s : Soc} {fa : List AC} {i : Nat} (p q : Piece) (hl : p.Le q) (h : CkP s fa i p) : CkP s fa i q := fun j c a hj hc ha => (h j c a hj hc ha).le hl
def DvP (s : Soc) (da : List (AC × AC)) (i : Nat) (p : Piece) : Prop := ∀ (j : Nat) (d : Dev) (a : AC × AC), j < i → s.devs[j]? = some d → da[j]? = some a → SlS p 2 a.1.1 d.regs.length (d.regs.flatMap Rg.cells) ∧ SlS p 1 a.2.1 d.needs.length (intCells d.needs)
theorem DvP.le {s : Soc} {da : List (AC × AC)} {i : Nat} (p q : Piece) (hl : p.Le q) (h : DvP s da i p) : DvP s da i q := fun j c a hj hc ha => ⟨(h j c a hj hc ha).1.le hl, (h j c a hj hc ha).2.le hl⟩
end
section
section
variable {P : Program} {ops : Array Oper} {Q : Exit → Act → World → Prop} {S : World → Prop} {Z : List Nat}
def waitsB (ops : Array Oper) (Z : List Nat) (j : Nat) : Bool := match ops[j]? with
 | some o => Z.all fun z => (closeM ops ops.size (predM o)).testBit z
 | none => true
def moveB (ops : Array Oper) (j : Nat) : Bool := match ops[j]? with
 | some o => (match o.op with
  | .move _ => true
  | _ => false)
 | none => false
def wpAnyY (P : Program) (ops : Array Oper) (Q : Exit → Act → World → Prop) (S : World → Prop) (Z : List Nat) : Nat → Array Bool → Act → World → Prop
 | 0, listed, a, w => Region.ready .any ops listed = [] ∧ Q .normal a w
 | fuel + 1, listed, a, w => (Region.ready .any ops listed = [] → Q .normal a w) ∧
  ∀ i ∈ Region.ready .any ops listed, wpOp P ops Q i (fun a' w' => (waitsB ops Z i = false → (S w ∨ moveB ops i = false) → S w') ∧ wpAnyY P ops Q S Z fuel (listed.setIfInBounds i true) a' w') a w
theorem wpAny_of_y : ∀ (fuel : Nat) (listed : Array Bool) (a : Act) (w : World), wpAnyY P ops Q S Z fuel listed a w → wpAny P .any ops Q fuel listed a w
 | 0, _, _, _, h => h
 | fuel + 1, _, _, _, h => ⟨h.1, fun i hi => wpOp_mono (fun a' w' h' => wpAny_of_y fuel _ a' w' h'.2) (h.2 i hi)⟩
theorem wpAnyY_first {i : Nat} {oi : Oper} {v : Value} (hi : ops[i]? = some oi) (hsel : ∀ (j : Nat) (o : Oper) cs b, ops[j]? = some o → o.op ≠ .select cs b)
  (hQ : ∀ c a w, Q (.panic c) (a.put oi.dst v) w → Q (.panic c) a w) (him : i ∈ Z) :
  ∀ (fuel : Nat) (listed : Array Bool) (a : Act) (w : World), Down ops listed →
   (∀ j oj, ops[j]? = some oj → j ≠ i → listed.getD j true = false → (∀ e ∈ oj.after, Region.binds .any e = true → e.on ≠ i) → oi.apart ops oj = true) →
   i ∈ Region.ready .any ops listed → YieldsIf P ops S oi v a → S w →
   wpAnyY P ops Q S Z fuel (listed.setIfInBounds i true) (a.put oi.dst v) w → wpAnyY P ops Q S Z (fuel + 1) listed a w := by
 intro fuel
 induction fuel with
 | zero =>
  intro listed a w hdn _ hr hy hS H
  refine ⟨fun h => (by rw [h] at hr; cases hr), fun j hj => ?_⟩
  by_cases hji : j = i
  ·subst hji; exact hy.wpOp hi hS ⟨fun _ _ => hS, H⟩
  ·have := ready_mono hj hji
   rw [H.1] at this
   cases this
 | succ fuel ih =>
  intro listed a w hdn hfree hr hy hS H
  refine ⟨fun h => (by rw [h] at hr; cases hr), fun j hj => ?_⟩
  by_cases hji : j = i
  ·subst hji; exact hy.wpOp hi hS ⟨fun _ _ => hS, H⟩
  ·have h1 := H.2 j (ready_mono hj hji)
   obtain ⟨hjun, oj, hoj, hall⟩ := mem_ready.1 hj
   have hun : ∀ k, k ∈ Region.ready .any ops listed → listed.getD k false = true → False := fun k hk h => by
    have h0 := (mem_ready.1 hk).1
    rcases Nat.lt_or_ge k listed.size with h' | h'
    ·simp [h'] at h0 h; rw [h0] at h; cases h
    ·simp [Array.getElem?_eq_none h'] at h
   have hjm : waitsB ops Z j = false := by
    cases hw : waitsB ops Z j with
    | false => rfl
    | true =>
     exfalso
     unfold waitsB at hw
     rw [hoj] at hw
     exact hun i hr (closeM_spec hdn ops.size _ (predM_spec (P := fun k => listed.getD k false = true) fun x hx hb => hall x hx hb) i (List.all_eq_true.1 hw i him))
   have hnot : ∀ e ∈ oj.after, Region.binds .any e = true → e.on ≠ i := fun e he hb heq => hun i hr (heq ▸ hall e he hb)
   have h2 := wpOp_putIf hoj (hfree j oj hoj hji hjun hnot) (fun cs b => hsel i oi cs b hi) (fun cs b => hsel j oj cs b hoj) hQ hy h1
   have hfree' : ∀ k ok, ops[k]? = some ok → k ≠ i → (listed.setIfInBounds j true).getD k true = false →
     (∀ e ∈ ok.after, Region.binds .any e = true → e.on ≠ i) → oi.apart ops ok = true := fun k ok hk hki hun hno => by
    refine hfree k ok hk hki ?_ hno
    by_cases hjk : j = k
    ·subst hjk; exact hjun
    ·rw [getD_set_ne true hjk] at hun; exact hun
   refine wpOp_mono (fun a' w' h3 => ⟨h3.2.1, ih (listed.setIfInBounds j true) a' w' (hdn.set_ hj) hfree' (ready_mono hr (Ne.symm hji)) h3.1 (h3.2.1 hjm (.inl hS)) ?_⟩) h2
   rw [Array.setIfInBounds_comm _ _ hji]
   exact h3.2.2
theorem wpAnyY_pure {i : Nat} {oi : Oper} {v : Value} (hi : ops[i]? = some oi) (him : moveB ops i = true) (hsel : ∀ (j : Nat) (o : Oper) cs b, ops[j]? = some o → o.op ≠ .select cs b)
  (hQ : ∀ c a w, Q (.panic c) (a.put oi.dst v) w → Q (.panic c) a w) :
  ∀ (fuel : Nat) (listed : Array Bool) (a : Act) (w : World), Down ops listed →
   (∀ j oj, ops[j]? = some oj → j ≠ i → listed.getD j true = false → (∀ e ∈ oj.after, Region.binds .any e = true → e.on ≠ i) → oi.apart ops oj = true) →
   i ∈ Region.ready .any ops listed → YieldsIf P ops (fun _ => True) oi v a →
   wpAnyY P ops Q S Z fuel (listed.setIfInBounds i true) (a.put oi.dst v) w → wpAnyY P ops Q S Z (fuel + 1) listed a w := by
 intro fuel
 induction fuel with
 | zero =>
  intro listed a w hdn _ hr hy H
  refine ⟨fun h => (by rw [h] at hr; cases hr), fun j hj => ?_⟩
  by_cases hji : j = i
  ·subst hji; exact hy.wpOp hi trivial ⟨fun _ hw => hw.resolve_right (by rw [him]; decide), H⟩
  ·have := ready_mono hj hji
   rw [H.1] at this
   cases this
 | succ fuel ih =>
  intro listed a w hdn hfree hr hy H
  refine ⟨fun h => (by rw [h] at hr; cases hr), fun j hj => ?_⟩
  by_cases hji : j = i
  ·subst hji; exact hy.wpOp hi trivial ⟨fun _ hw => hw.resolve_right (by rw [him]; decide), H⟩
  ·have h1 := H.2 j (ready_mono hj hji)
   obtain ⟨hjun, oj, hoj, hall⟩ := mem_ready.1 hj
   have hun : ∀ k, k ∈ Region.ready .any ops listed → listed.getD k false = true → False := fun k hk h => by
    have h0 := (mem_ready.1 hk).1
    rcases Nat.lt_or_ge k listed.size with h' | h'
    ·simp [h'] at h0 h; rw [h0] at h; cases h
    ·simp [Array.getElem?_eq_none h'] at h
   have hnot : ∀ e ∈ oj.after, Region.binds .any e = true → e.on ≠ i := fun e he hb heq => hun i hr (heq ▸ hall e he hb)
   have h2 := wpOp_putIf hoj (hfree j oj hoj hji hjun hnot) (fun cs b => hsel i oi cs b hi) (fun cs b => hsel j oj cs b hoj) hQ hy h1
   have hfree' : ∀ k ok, ops[k]? = some ok → k ≠ i → (listed.setIfInBounds j true).getD k true = false →
     (∀ e ∈ ok.after, Region.binds .any e = true → e.on ≠ i) → oi.apart ops ok = true := fun k ok hk hki hun hno => by
    refine hfree k ok hk hki ?_ hno
    by_cases hjk : j = k
    ·subst hjk; exact hjun
    ·rw [getD_set_ne true hjk] at hun; exact hun
   refine wpOp_mono (fun a' w' h3 => ⟨h3.2.1, ih (listed.setIfInBounds j true) a' w' (hdn.set_ hj) hfree' (ready_mono hr (Ne.symm hji)) h3.1 ?_⟩) h2
   rw [Array.setIfInBounds_comm _ _ hji]
   exact h3.2.2
end
section
variable {P : Program} {N : Frm} {w0 : World} {e e' : Env} {R R' R0 : List Piece} {H H' H0 : List HP} {Q : Exit → Act → World → Prop} {ops : Array Oper} {Z : List Nat} {fuel : Nat} {listed : Array Bool}
structure Up2 (ops : Array Oper) (listed : Array Bool) : Prop where
 down : Down ops listed
 sel : Region.noSelect ops = true
theorem Up2.set_ {i : Nat} (h : Up2 ops listed) (hi : i ∈ Region.ready .any ops listed) : Up2 ops (listed.setIfInBounds i true) := ⟨h.down.set_ hi, h.sel⟩
def XB (P : Program) (N : Frm) (w0 : World) (ops : Array Oper) (Q : Exit → Act → World → Prop) (R0 : List Piece) (H0 : List HP) (Z : List Nat) (fuel : Nat) (listed : Array Bool) (e : Env) (R : List Piece) (H : List HP) : Prop :=
 Up2 ops listed → XK N w0 (wpAnyY P ops Q (St w0 R0 H0) Z fuel listed) e R H
def XBK (P : Program) (w0 : World) (ops : Array Oper) (Q : Exit → Act → World → Prop) (R0 : List Piece) (H0 : List HP) (Z : List Nat) (fuel : Nat) (listed : Array Bool) (i : Nat) : Act → World → Prop :=
 fun a' w' => (waitsB ops Z i = false → St w0 R0 H0 w') ∧ (Up2 ops (listed.setIfInBounds i true) → wpAnyY P ops Q (St w0 R0 H0) Z fuel (listed.setIfInBounds i true) a' w')
theorem XK.drawB (Z : List Nat) {id : Nat} {l : List Oper} (h : XB P N w0 l.toArray Q R H Z l.length (Array.replicate l.length false) e R H) (hm : P.follows .mixedOrders = true := by kernel_rfl) (hc : Region.noSelect l.toArray = true := by kernel_rfl) : XK N w0 ((Code.region id l.toArray true).wp P Q) e R H := fun a w hr st => by
 have := h ⟨Down.start _ _, hc⟩ a w.drew hr st.drew
 refine wp_region_any hm (wpAny_of_y (S := St w0 R H) (Z := Z) _ _ _ _ ?_)
 simpa using this
theorem XB.do_ (i : Nat) {oi : Oper} {v : Value} {d : Nat} (hi : ops[i]? = some oi) (hdst : oi.dst = some d) (hg : oi.guard = none) (hd : d < N.n) (hdo : Does P N w0 e R0 H0 oi v)
  (hc : (Region.free .any ops listed i && (Region.ready .any ops listed).contains i && Z.contains i) = true) (hQ : ∀ c a w, Q (.panic c) (a.put oi.dst v) w → Q (.panic c) a w)
  (hsub : ∀ w, St w0 R H w → St w0 R0 H0 w)
  (k : XB P N w0 ops Q R0 H0 Z fuel (listed.setIfInBounds i true) ((d, v) :: e) R H) : XB P N w0 ops Q R0 H0 Z (fuel + 1) listed e R H := by
 simp only [Bool.and_eq_true] at hc
 obtain ⟨⟨h2, h3⟩, h5⟩ := hc
 intro up a w hr st
 have hp := k (up.set_ (by simpa using h3)) (a.put oi.dst v) w (by rw [hdst]; exact hr.put hd v) st
 refine wpAnyY_first hi (Region.noSelect_spec up.sel) hQ (by simpa using h5) fuel listed a w up.down (Region.free_spec hi h2) (by simpa using h3) (.inl ⟨by simp [Region.wanted, hg], fun w' hw' => ?_⟩) (hsub w st) hp
 exact hdo a w' hr hw'
theorem XB.pure (i : Nat) (hmv : moveB ops i = true) {oi : Oper} {v : Value} {d : Nat} (hi : ops[i]? = some oi) (hdst : oi.dst = some d) (hg : oi.guard = none) (hd : d < N.n) (hdo : ∀ a w, Rep N e a → (execOp a.eval oi).run P w = .ok (.value v) w)
  (hc : (Region.free .any ops listed i && (Region.ready .any ops listed).contains i) = true) (hQ : ∀ c a w, Q (.panic c) (a.put oi.dst v) w → Q (.panic c) a w)
  (k : XB P N w0 ops Q R0 H0 Z fuel (listed.setIfInBounds i true) ((d, v) :: e) R H) : XB P N w0 ops Q R0 H0 Z (fuel + 1) listed e R H := by
 simp only [Bool.and_eq_true] at hc
 obtain ⟨h2, h3⟩ := hc
 intro up a w hr st
 have hp := k (up.set_ (by simpa using h3)) (a.put oi.dst v) w (by rw [hdst]; exact hr.put hd v) st
 refine wpAnyY_pure hi hmv (Region.noSelect_spec up.sel) hQ fuel listed a w up.down (Region.free_spec hi h2) (by simpa using h3) (.inl ⟨by simp [Region.wanted, hg], fun w' _ => ?_⟩) hp
 exact hdo a w' hr
theorem XB.next (i : Nat) {oi : Oper} (hi : ops[i]? = some oi) (hr : Region.ready .any ops listed = [i]) (k : XK N w0 (wpList P ops (Exit.then (XBK P w0 ops Q R0 H0 Z fuel listed i) Q) [oi]) e R H) : XB P N w0 ops Q R0 H0 Z (fuel + 1) listed e R H := by
 intro up a w hrp st
 refine ⟨fun h => (by rw [hr] at h; cases h), fun j hj => ?_⟩
 rw [hr] at hj
 simp at hj
 subst hj
 exact xa_step hi (fun a w h => ⟨fun hw _ => h.1 hw, h.2 (up.set_ (by rw [hr]; simp))⟩) (k a w hrp st)
theorem XB.either (i j : Nat) {oi oj : Oper} (hi : ops[i]? = some oi) (hj : ops[j]? = some oj) (hr : Region.ready .any ops listed = [i, j])
  (k1 : XK N w0 (wpList P ops (Exit.then (XBK P w0 ops Q R0 H0 Z fuel listed i) Q) [oi]) e R H) (k2 : XK N w0 (wpList P ops (Exit.then (XBK P w0 ops Q R0 H0 Z fuel listed j) Q) [oj]) e R H) : XB P N w0 ops Q R0 H0 Z (fuel + 1) listed e R H := by
 intro up a w hrp st
 refine ⟨fun h => (by rw [hr] at h; cases h), fun q hq => ?_⟩
 have hq' := hq
 rw [hr] at hq
 simp at hq
 rcases hq with rfl | rfl
 ·exact xa_step hi (fun a w h => ⟨fun hw _ => h.1 hw, h.2 (up.set_ hq')⟩) (k1 a w hrp st)
 ·exact xa_step hj (fun a w h => ⟨fun hw _ => h.1 hw, h.2 (up.set_ hq')⟩) (k2 a w hrp st)
theorem XB.back {i : Nat} (hS : ∀ w, St w0 R H w → St w0 R0 H0 w) (h : XB P N w0 ops Q R0 H0 Z fuel (listed.setIfInBounds i true) e R H) : XK N w0 (XBK P w0 ops Q R0 H0 Z fuel listed i) e R H := fun a w hr st => ⟨fun _ => hS w st, fun up => h up a w hr st⟩
theorem XB.done (hr : Region.ready .any ops listed = []) (h : XK N w0 (Q .normal) e R H) : XB P N w0 ops Q R0 H0 Z fuel listed e R H := by
 intro up a w hrp st
 cases fuel with
 | zero => exact ⟨hr, h a w hrp st⟩
 | succ fuel => exact ⟨fun _ => h a w hrp st, by rw [hr]; simp⟩
theorem XB.backT {i : Nat} (h : XB P N w0 ops Q R0 H0 Z fuel (listed.setIfInBounds i true) e R H) (hl : waitsB ops Z i = true := by kernel_rfl) : XK N w0 (XBK P w0 ops Q R0 H0 Z fuel listed i) e R H := fun a w hr st => ⟨(fun h2 => by rw [hl] at h2; cases h2), fun up => h up a w hr st⟩
theorem XB.bt {i : Nat} (h : XB P N w0 ops Q R0 H0 Z fuel (listed.setIfInBounds i true) e R H) (hl : waitsB ops Z i = true := by kernel_rfl) : XK N w0 (wpList P ops (Exit.then (XBK P w0 ops Q R0 H0 Z fuel listed i) Q) []) e R H := XK.nil (XK.thenN (XB.backT h hl))
theorem XB.bk {i : Nat} (h : XB P N w0 ops Q R0 H0 Z fuel (listed.setIfInBounds i true) e R H) (hS : ∀ w, St w0 R H w → St w0 R0 H0 w := by first | exact fun _ h => h | exact fun _ h => h.tail | exact fun _ h => h.tailR | exact fun _ h => h.tail.tail | exact fun _ h => h.tailR.tail | exact fun _ h => h.tailR.tailR | exact fun _ h => h.tailR.tail.tail | exact fun _ h => h.tail.tail.tail | exact fun _ h => h.tailR.tail.tailR.tail) : XK N w0 (wpList P ops (Exit.then (XBK P w0 ops Q R0 H0 Z fuel listed i) Q) []) e R H := XK.nil (XK.thenN (XB.back hS h))
end
section
variable {N : Frm} {w0 : World} {e : Env} {R R0 : List Piece} {H H0 : List HP} {Q : Exit → Act → World → Prop} {ops : Array Oper} {Z : List Nat} {fuel : Nat} {listed : Array Bool}
variable {d : Nat} {ty : TypeId} {pos : String} {aft : Array Edge} {op : Op} {v : Value}
theorem XB.q (i : Nat) (k : XB Tryz.prog N w0 ops Q R0 H0 Z fuel (listed.setIfInBounds i true) ((d, v) :: e) R H) (hi : ops[i]? = some ⟨some d, op, ty, pos, aft, none⟩ := by rfl) (hdo : Does Tryz.prog N w0 e R0 H0 ⟨some d, op, ty, pos, aft, none⟩ v := by
  first
  | ((with_reducible apply sh_move); exact does_move rfl)
  | ((with_reducible apply sh_assign); exact does_assign rfl)
  | ((with_reducible apply sh_load); (first | exact does_ld1 rfl | exact does_ldA rfl | exact does_ldS rfl))
  | ((with_reducible apply sh_fieldAddr); exact does_fd rfl)
  | ((with_reducible apply sh_nilCheck); exact does_nilC rfl)
  | ((with_reducible apply sh_pick); (first | exact does_pickT rfl rfl | exact does_pickF rfl rfl))
  | ((with_reducible apply sh_binOp); (first | exact does_lss rfl rfl | exact does_leq rfl rfl | exact does_gtr rfl rfl | exact does_geq rfl rfl | exact does_eql rfl rfl | exact does_neq rfl rfl | exact does_add rfl rfl (wrap_in (by omega)) | exact does_sub rfl rfl (wrap_in (by omega)) | exact does_pN rfl | exact does_pS rfl | exact does_pn rfl))
  | ((with_reducible apply sh_unOp); (first | exact does_notD rfl | exact does_not rfl))
  | ((with_reducible apply sh_len); exact does_ln rfl)
  | ((with_reducible apply sh_extract); exact does_extract rfl rfl)
  | ((with_reducible apply sh_field); exact does_f1 rfl rfl)) (hd : d < N.n := by decide)
  (hc : (Region.free .any ops listed i && (Region.ready .any ops listed).contains i && Z.contains i) = true := by kernel_rfl) (hQ : ∀ c a w, Q (.panic c) (a.put (some d) v) w → Q (.panic c) a w := by exact fun _ _ _ h => h)
  (hsub : ∀ w, St w0 R H w → St w0 R0 H0 w := by first | exact fun _ h => h | exact fun _ h => h.tail | exact fun _ h => h.tailR | exact fun _ h => h.tail.tail | exact fun _ h => h.tailR.tail | exact fun _ h => h.tailR.tailR) : XB Tryz.prog N w0 ops Q R0 H0 Z (fuel + 1) listed e R H := XB.do_ i hi rfl rfl hd hdo hc hQ hsub k
theorem XB.mv (i : Nat) {y : Operand} (k : XB Tryz.prog N w0 ops Q R0 H0 Z fuel (listed.setIfInBounds i true) ((d, v) :: e) R H) (hi : ops[i]? = some ⟨some d, .move y, ty, pos, aft, none⟩ := by rfl) (hx : e.ev y = some v := by rfl) (hd : d < N.n := by decide)
  (hc : (Region.free .any ops listed i && (Region.ready .any ops listed).contains i) = true := by kernel_rfl) (hQ : ∀ c a w, Q (.panic c) (a.put (some d) v) w → Q (.panic c) a w := by exact fun _ _ _ h => h)
  (hsub : ∀ w, St w0 R H w → St w0 R0 H0 w := by first | exact fun _ h => h | exact fun _ h => h.tail | exact fun _ h => h.tailR | exact fun _ h => h.tail.tail | exact fun _ h => h.tailR.tail | exact fun _ h => h.tailR.tailR | exact fun _ h => h.tailR.tail.tail | exact fun _ h => h.tail.tail.tail | exact fun _ h => h.tailR.tail.tailR.tail) : XB Tryz.prog N w0 ops Q R0 H0 Z (fuel + 1) listed e R H := XB.pure i (by simp [moveB, hi]) hi rfl rfl hd (fun a w hr => by simp [execOp, hr.ev hx]) hc hQ k
end
end
end Go.Proofs.YticjkhagldkejaaGreatDoor
