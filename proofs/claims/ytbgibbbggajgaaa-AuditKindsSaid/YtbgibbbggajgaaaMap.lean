/- The small logic: maps with integer keys; calls that write what they are handed. -/
import Derived.Test.YtbgibbbggajgaaaFun
namespace Go.Proofs.Ytbgibbbggajgaaa
set_option linter.all false
open Go.RowKit

/-- the map at r has these keys and values, in the order in which they came -/
def MapI (w : World) (r : Nat) (l : List (Int × Value)) : Prop := ∃ es clock, w.heap[r]? = some (.map es clock) ∧ es.toList.map (fun x => (x.key, x.val)) = l.map fun p => (Value.int .i64 p.1, p.2)
def mget (l : List (Int × Value)) (k : Int) : Option Value := (l.find? fun p => decide (p.1 = k)).map (·.2)
def mset : List (Int × Value) → Int → Value → List (Int × Value)
  | [], k, v => [(k, v)]
  | (a, b) :: r, k, v => if a = k then (k, v) :: r else (a, b) :: mset r k v
theorem mget_cons (a : Int) (b : Value) (l : List (Int × Value)) (k : Int) : mget ((a, b) :: l) k = if a = k then some b else mget l k := by
  unfold mget
  rw [List.find?_cons]
  by_cases h : a = k <;> simp [h]
theorem mget_mset : ∀ (l : List (Int × Value)) (k : Int) (v : Value) (j : Int), mget (mset l k v) j = if k = j then some v else mget l j
  | [], k, v, j => by rw [mset, mget_cons]
  | (a, b) :: r, k, v, j => by
    rw [mset]
    split
    · rename_i h
      subst h
      rw [mget_cons, mget_cons]
      split <;> rfl
    · rename_i h
      rw [mget_cons, mget_cons, mget_mset r]
      by_cases h1 : a = j
      · subst h1
        rw [if_pos rfl, if_neg (Ne.symm h), if_pos rfl]
      · simp [h1]
/-- the map at r -/
def HP.map (r : Nat) (l : List (Int × Value)) : HP := ⟨fun F w => F r ∧ MapI w r l, fun F w w' h hk => ⟨h.1, by
  obtain ⟨es, c, h1, h2⟩ := h.2
  exact ⟨es, c, (hk r h.1).trans h1, h2⟩⟩⟩
theorem MapI.lt {w : World} {r : Nat} {l : List (Int × Value)} (h : MapI w r l) : r < w.heap.size := by
  obtain ⟨es, c, h1, _⟩ := h
  rcases Nat.lt_or_ge r w.heap.size with h | h
  · exact h
  · rw [Array.getElem?_eq_none h] at h1; cases h1
theorem MapI.below {w w' : World} {r : Nat} {l : List (Int × Value)} (h : MapI w r l) (hb : Below w.heap.size w w') : MapI w' r l := by
  have hl := h.lt
  obtain ⟨es, c, h1, h2⟩ := h
  exact ⟨es, c, (hb.block r hl).trans h1, h2⟩
theorem St.map {w0 w : World} {R : List Piece} {H : List HP} (st : St w0 R H w) {i r : Nat} {l : List (Int × Value)} (hi : H[i]? = some (HP.map r l)) : MapI w r l := (st.sat hi).choose_spec.2
theorem findNow_int (kd : IntKind) : ∀ (es : List MapEntry) (l : List (Int × Value)) (k : Int) (i : Nat), es.map (fun x => (x.key, x.val)) = l.map (fun p => (Value.int .i64 p.1, p.2)) →
    ∃ r, Instr.findNow (.int kd) (.int .i64 k) es i = some r ∧ (r.map (·.2) = mget l k) ∧ (∀ j v, r = some (j, v) → i ≤ j ∧ (es.modify (j - i) fun x => { x with key := .int .i64 k, val := v }).map (fun x => (x.key, x.val)) = es.map fun x => (x.key, x.val)) ∧
      (∀ j v, r = some (j, v) → ∀ u, (es.modify (j - i) fun x => { x with key := .int .i64 k, val := u }).map (fun x => (x.key, x.val)) = (mset l k u).map fun p => (Value.int .i64 p.1, p.2)) ∧
      (r = none → ∀ u, l.map (fun p => (Value.int .i64 p.1, p.2)) ++ [(Value.int .i64 k, u)] = (mset l k u).map fun p => (Value.int .i64 p.1, p.2)) ∧ (∀ j v, r = some (j, v) → (es[j - i]?).map (·.key) = some (.int .i64 k))
  | [], [], k, i, _ => ⟨none, rfl, rfl, by simp, by simp, fun _ u => by simp [mset], by simp⟩
  | [], p :: l, k, i, h => by simp at h
  | e :: es, [], k, i, h => by simp at h
  | e :: es, (a, b) :: l, k, i, h => by
    simp only [List.map_cons, List.cons.injEq, Prod.mk.injEq] at h
    obtain ⟨⟨hk, hv⟩, hr⟩ := h
    unfold Instr.findNow
    rw [hk]
    simp only [Instr.sameNow, if_true]
    by_cases hak : k = a
    · subst hak
      simp only [beq_self_eq_true]
      refine ⟨_, rfl, ?_, ?_, ?_, by simp, ?_⟩
      · rw [mget_cons, if_pos rfl, hv]; rfl
      · intro j v hjv
        cases hjv
        refine ⟨Nat.le_refl _, ?_⟩
        simp [List.modify, hk]
      · intro j v hjv u
        cases hjv
        simp [List.modify, mset, hr]
      · intro j v hjv
        cases hjv
        simp [hk]
    · have hb : (k == a) = false := by simpa using hak
      simp only [hb]
      obtain ⟨r, h1, h2, h3, h4, h5, h6⟩ := findNow_int kd es l k (i + 1) hr
      refine ⟨r, h1, ?_, ?_, ?_, ?_, ?_⟩
      · rw [mget_cons, if_neg (Ne.symm hak)]; exact h2
      · intro j v hjv
        obtain ⟨hle, hm⟩ := h3 j v hjv
        refine ⟨by omega, ?_⟩
        rw [show j - i = (j - (i + 1)) + 1 by omega, List.modify_succ_cons, List.map_cons, hm]
        rfl
      · intro j v hjv u
        have hle := (h3 j v hjv).1
        rw [show j - i = (j - (i + 1)) + 1 by omega, List.modify_succ_cons, List.map_cons, h4 j v hjv u, mset, if_neg (Ne.symm hak), List.map_cons, hk, hv]
      · intro hn u
        rw [mset, if_neg (Ne.symm hak), List.map_cons, List.cons_append, h5 hn u, List.map_cons]
      · intro j v hjv
        have hle := (h3 j v hjv).1
        rw [show j - i = (j - (i + 1)) + 1 by omega, List.getElem?_cons_succ]
        exact h6 j v hjv
section
variable {P : Program} {w : World} {t kt et : TypeId} {r : Nat} {l : List (Int × Value)}
theorem run_getObj_map {es : Array MapEntry} {c : Nat} (h : w.heap[r]? = some (.map es c)) : (getObj r).run P w = .ok (.map es c) w := by simp [getObj, Sem.run, h]
theorem run_checkKey_int {kd : IntKind} (hk : P.underlying kt = some (.int kd)) (b : Bool) (k : Int) : (Instr.checkKey b 10000 kt (.int .i64 k)).run P w = .ok () w := by
  unfold Instr.checkKey
  simp [Sem.run_bind, run_underlying hk]
theorem run_lookup_int {kd : IntKind} {z : Value} (ht : P.underlying t = some (.map kt et)) (hk : P.underlying kt = some (.int kd)) (hz : ∀ w, (zeroValue et).run P w = .ok z w) (h : MapI w r l) (k : Int) (ok : Bool) :
    (Instr.lookup t (.map (some r)) (.int .i64 k) ok).run P w = .ok (if ok then .tuple #[(mget l k).getD z, .bool (mget l k).isSome] else (mget l k).getD z) w := by
  obtain ⟨es, c, h1, h2⟩ := h
  obtain ⟨q, hq1, hq2, _⟩ := findNow_int kd es.toList l k 0 h2
  have hf : (Instr.findKey kt (.int .i64 k) es.toList).run P w = .ok q w := by
    unfold Instr.findKey
    simp [Sem.run_bind, run_underlying hk, hq1]
  unfold Instr.lookup
  rw [← hq2]
  cases q with
  | none => cases ok <;> simp [Sem.run_bind, run_underlying ht, run_getObj_map h1, run_checkKey_int hk, hf, hz]
  | some x => obtain ⟨j, v⟩ := x; cases ok <;> simp [Sem.run_bind, run_underlying ht, run_getObj_map h1, run_checkKey_int hk, hf]
theorem run_mapUpdate_int {kd : IntKind} (ht : P.underlying t = some (.map kt et)) (hk : P.underlying kt = some (.int kd)) (h : MapI w r l) (k : Int) (v : Value) :
    ∃ es c, (Instr.mapUpdate t (.map (some r)) (.int .i64 k) v).run P w = .ok () { w with heap := w.heap.setIfInBounds r (.map es c) } ∧ es.toList.map (fun x => (x.key, x.val)) = (mset l k v).map fun p => (Value.int .i64 p.1, p.2) := by
  obtain ⟨es, c, h1, h2⟩ := h
  obtain ⟨q, hq1, _, hq3, hq4, hq5, hq6⟩ := findNow_int kd es.toList l k 0 h2
  have hf : (Instr.findKey kt (.int .i64 k) es.toList).run P w = .ok q w := by
    unfold Instr.findKey
    simp [Sem.run_bind, run_underlying hk, hq1]
  have hset : ∀ o, (setObj r o).run P w = .ok () { w with heap := w.heap.setIfInBounds r o } := fun o => by simp [setObj, Sem.run, h1]
  cases q with
  | none =>
    refine ⟨es.push { key := .int .i64 k, val := v, born := c }, c + 1, ?_, ?_⟩
    · unfold Instr.mapUpdate
      simp [Sem.run_bind, run_underlying ht, run_getObj_map h1, run_checkKey_int hk, hf, hset]
    · rw [Array.toList_push, List.map_append, h2]
      exact hq5 rfl v
  | some x =>
    obtain ⟨j, u⟩ := x
    have hkey := hq6 j u rfl
    rw [Nat.sub_zero] at hkey
    have hsame : (Instr.keyThatStays (((es[j]?).map (·.key)).getD (.int .i64 k)) (.int .i64 k)).run P w = .ok (.int .i64 k) w := by
      have : (es[j]?).map (·.key) = some (.int .i64 k) := by simpa using hkey
      rw [this]
      simp [Instr.keyThatStays, Instr.sameBits]
    refine ⟨es.modify j fun x => { x with key := .int .i64 k, val := v }, c, ?_, ?_⟩
    · unfold Instr.mapUpdate
      simp [Sem.run_bind, run_underlying ht, run_getObj_map h1, run_checkKey_int hk, hf, hset, hsame]
    · have := hq4 j u rfl v
      rw [Nat.sub_zero] at this
      rw [Array.toList_modify]
      exact this
end
section
variable {P : Program} {N : Nat} {w0 w : World} {e : Env} {R : List Piece} {H : List HP} {Q : Exit → Act → World → Prop} {ops : Array Oper} {rest : List Oper}
variable {d : Nat} {ty : TypeId} {pos : String} {aft : Array Edge}
theorem xk_makeMap {t : TypeId} (hd : d < N) (k : ∀ g, XK N w0 (wpList P ops Q rest) ((d, .map (some g)) :: e) R (HP.map g [] :: H)) : XK N w0 (wpList P ops Q (⟨some d, .makeMap t none, ty, pos, aft, none⟩ :: rest)) e R H :=
  xk_run rfl fun a w hr st => ⟨.map (some w.heap.size), w.alloc (.map #[] 0), by simp [execOp, Instr.makeMap], k w.heap.size _ _ (hr.put hd _) (st.new (alloc_below w _) ⟨⟨Nat.le_refl _, by simp⟩, #[], 0, heap_alloc_new w _, rfl⟩)⟩
theorem zeroV {t : TypeId} {z : Value} (h : (P.info? t).bind (·.zero) = some z) : ∀ w, (zeroValue t).run P w = .ok z w := fun w => by
  obtain ⟨i, hi, hz⟩ := Option.bind_eq_some_iff.1 h
  simp [zeroValue, typeInfo, hi, hz]
theorem xk_lookup {x y : Operand} {t kt et : TypeId} {kd : IntKind} {z : Value} {r : Nat} {l : List (Int × Value)} {k : Int} (ok : Bool) (ht : P.underlying t = some (.map kt et)) (hk : P.underlying kt = some (.int kd)) (hz : (P.info? et).bind (·.zero) = some z)
    (hx : e.ev x = some (.map (some r))) (hy : e.ev y = some (.int .i64 k)) (hm : ∀ w, St w0 R H w → MapI w r l) (hd : d < N)
    (kk : XK N w0 (wpList P ops Q rest) ((d, if ok then .tuple #[(mget l k).getD z, .bool (mget l k).isSome] else (mget l k).getD z) :: e) R H) : XK N w0 (wpList P ops Q (⟨some d, .lookup t x y ok, ty, pos, aft, none⟩ :: rest)) e R H :=
  xk_run rfl fun a w hr st => ⟨_, w, by simp only [execOp, hr.ev hx, hr.ev hy, Sem.run_bind, run_lookup_int ht hk (zeroV hz) (hm w st), Result.andThen_ok, Sem.run_pure], kk _ _ (hr.put hd _) st⟩
theorem does_lookup {x y : Operand} {t kt et : TypeId} {kd : IntKind} {z : Value} {r : Nat} {l : List (Int × Value)} {k : Int} (ok : Bool) (ht : P.underlying t = some (.map kt et)) (hk : P.underlying kt = some (.int kd)) (hz : (P.info? et).bind (·.zero) = some z)
    (hx : e.ev x = some (.map (some r))) (hy : e.ev y = some (.int .i64 k)) (hm : ∀ w, St w0 R H w → MapI w r l) : Does P N w0 e R H ⟨some d, .lookup t x y ok, ty, pos, aft, none⟩ (if ok then .tuple #[(mget l k).getD z, .bool (mget l k).isSome] else (mget l k).getD z) :=
  fun a w hr st => by simp only [execOp, hr.ev hx, hr.ev hy, Sem.run_bind, run_lookup_int ht hk (zeroV hz) (hm w st), Result.andThen_ok, Sem.run_pure]
theorem xk_mapUpdate (i : Nat) {x y u : Operand} {t kt et : TypeId} {kd : IntKind} {r : Nat} {l : List (Int × Value)} {k : Int} {v : Value} (ht : P.underlying t = some (.map kt et)) (hk : P.underlying kt = some (.int kd)) (hi : H[i]? = some (HP.map r l))
    (hx : e.ev x = some (.map (some r))) (hy : e.ev y = some (.int .i64 k)) (hu : e.ev u = some v) (kk : XK N w0 (wpList P ops Q rest) e R (H.set i (HP.map r (mset l k v)))) : XK N w0 (wpList P ops Q (⟨none, .mapUpdate t x y u, ty, pos, aft, none⟩ :: rest)) e R H :=
  xk_skip rfl rfl fun a w hr st => by
    have hm := st.map hi
    have hlt := hm.lt
    obtain ⟨es, c, hrun, hl⟩ := run_mapUpdate_int (P := P) ht hk hm k v
    refine ⟨{ w with heap := w.heap.setIfInBounds r (.map es c) }, by simp only [execOp, hr.ev hx, hr.ev hy, hr.ev hu, Sem.run_bind, hrun, Result.andThen_ok, Sem.run_pure], kk _ _ hr ?_⟩
    refine st.turn hi (by simp) rfl rfl rfl fun F hF hb => ⟨F, ⟨hF.1, es, c, by simp [Array.getElem?_setIfInBounds, hlt], hl⟩, fun b h => ⟨.inl h, by simpa using hb b h⟩, fun b hb hnb => ?_⟩
    rw [Array.getElem?_setIfInBounds]
    split
    · rename_i he; exact absurd (he ▸ hF.1) hnb
    · rfl
/-! calls that write -/
/-- from w to w' just what was in F has turned, into what is in F' -/
structure Turns (w w' : World) (F F' : Nat → Prop) : Prop where
  os : w'.os = w.os
  tape : w'.tape = w.tape
  output : w'.output = w.output
  size : w.heap.size ≤ w'.heap.size
  new : ∀ b, F' b → (F b ∨ w.heap.size ≤ b) ∧ b < w'.heap.size
  old : ∀ b, b < w.heap.size → ¬ F b → w'.heap[b]? = w.heap[b]?
/-- a call that writes chunk i -/
theorem xk_callM (i : Nat) {dst : Option Nat} {e' : Env} {f : FuncId} {x : Operand} {args : List Operand} {fi ca vs : List Value} {tys : Array TypeId} {p : HP} {v : Value} (q : HP) (hf : callB P f = true) (hx : e.ev x = some (.func (.func f) fi.toArray ca.toArray)) (ha : e.evs args = some vs) (hi : H[i]? = some p)
    (hd : match dst with | some d => d < N ∧ e' = (d, v) :: e | none => e' = e)
    (hc : ∀ w F, St w0 R H w → p.sat F w → (∀ b, F b → b < w.heap.size) → Calls P f (fi ++ vs ++ ca).toArray w fun y w' => y = .returned v ∧ ∃ F', q.sat F' w' ∧ Turns w w' F F')
    (k : XK N w0 (wpList P ops Q rest) e' R (H.set i q)) : XK N w0 (wpList P ops Q (⟨dst, .call { callee := .value x, args := args.toArray, argTypes := tys }, ty, pos, aft, none⟩ :: rest)) e R H := fun a w hr st => wpList_plain rfl fun K hK => by
  unfold callB at hf
  cases hq : P.funcs[f]? with
  | none => simp [hq] at hf
  | some fn =>
    simp [hq] at hf
    obtain ⟨hf1, hf2⟩ := hf
    have hrun : (execOp a.eval (⟨dst, .call { callee := .value x, args := args.toArray, argTypes := tys }, ty, pos, aft, none⟩ : Oper)).run P w = .ok (.enter f (fi ++ vs ++ ca).toArray) w := by
      cases hb : fn.body with
      | none => simp [hb] at hf2
      | some c => simp [execOp, resolve, hr.ev hx, Deferred.ofValue, invoke, callFunc, hq, hf1, hb, hr.evs ha]
    obtain ⟨Z, F, hz, hrr, hs, hff, hdd⟩ := st.ex
    unfold Oper.wp
    rw [hrun]
    refine (hc w (F i) st (hs i p hi) (fun b hb => (hff i b hb).2)).mono fun y w' ⟨hy, F', hq', ht⟩ => ?_
    subst hy
    have st' : St w0 R (H.set i q) w' := by
      have hlt : i < H.length := by
        rcases Nat.lt_or_ge i H.length with h | h
        · exact h
        · rw [List.getElem?_eq_none h] at hi; cases hi
      refine ⟨ht.os.trans st.os, ht.tape.trans st.tape, ht.output.trans st.output, Nat.le_trans st.size ht.size, Z, fun j => if j = i then F' else F j, fun b h => Nat.lt_of_lt_of_le (hz b h) ht.size, fun p hp b h => ?_, fun j r hj => ?_, fun j b h => ?_, fun j k b hjk h => ?_⟩
      · exact ⟨(hrr p hp b h).1, (ht.old b (hz b (hrr p hp b h).1) (fun hfb => (hff i b hfb).1 (hrr p hp b h).1)).trans (hrr p hp b h).2⟩
      · rw [List.getElem?_set] at hj
        split at hj
        · rename_i e; subst e
          first | (rw [if_pos hlt] at hj; cases hj) | cases hj
          simpa using hq'
        · rename_i e
          simp only [if_neg (Ne.symm e)]
          exact r.loc _ _ _ (hs j r hj) (fun b hb => ht.old b (hff j b hb).2 (hdd j i b (Ne.symm e) hb))
      · dsimp only at h
        split at h
        · refine ⟨fun hzb => ?_, (ht.new b h).2⟩
          rcases (ht.new b h).1 with h | h
          · exact (hff i b h).1 hzb
          · have := hz b hzb; omega
        · exact ⟨(hff j b h).1, Nat.lt_of_lt_of_le (hff j b h).2 ht.size⟩
      · dsimp only at h ⊢
        split at h <;> split
        · rename_i h1 h2; omega
        · rename_i e1 e2
          intro hk
          rcases (ht.new b h).1 with h | h
          · exact hdd i k b (by omega) h hk
          · have := (hff k b hk).2; omega
        · rename_i e1 e2
          intro hk
          rcases (ht.new b hk).1 with hk | hk
          · exact hdd j i b (by omega) h hk
          · have := (hff j b h).2; omega
        · exact hdd j k b hjk h
    cases dst with
    | none => dsimp only at hd; subst hd; exact hK _ _ (k _ _ hr st')
    | some d => dsimp only at hd; obtain ⟨hd, rfl⟩ := hd; exact hK _ _ (k _ _ (hr.put hd v) st')
/-- a call whose result is thrown away -/
theorem xk_call0 {f : FuncId} {x : Operand} {args : List Operand} {fi ca vs : List Value} {tys : Array TypeId} {v : Value} (hf : callB P f = true) (hx : e.ev x = some (.func (.func f) fi.toArray ca.toArray)) (ha : e.evs args = some vs)
    (hc : ∀ w, St w0 R H w → Calls P f (fi ++ vs ++ ca).toArray w (Rt v w)) (k : XK N w0 (wpList P ops Q rest) e R H) : XK N w0 (wpList P ops Q (⟨none, .call { callee := .value x, args := args.toArray, argTypes := tys }, ty, pos, aft, none⟩ :: rest)) e R H := fun a w hr st => wpList_plain rfl fun K hK => by
  unfold callB at hf
  cases hq : P.funcs[f]? with
  | none => simp [hq] at hf
  | some fn =>
    simp [hq] at hf
    obtain ⟨hf1, hf2⟩ := hf
    have hrun : (execOp a.eval (⟨none, .call { callee := .value x, args := args.toArray, argTypes := tys }, ty, pos, aft, none⟩ : Oper)).run P w = .ok (.enter f (fi ++ vs ++ ca).toArray) w := by
      cases hb : fn.body with
      | none => simp [hb] at hf2
      | some c => simp [execOp, resolve, hr.ev hx, Deferred.ofValue, invoke, callFunc, hq, hf1, hb, hr.evs ha]
    unfold Oper.wp
    rw [hrun]
    refine (hc w st).mono fun y w' ⟨hy, hb⟩ => ?_
    subst hy
    exact hK _ _ (k _ _ hr (st.call hb))
/-- the beginning of a function that writes p -/
theorem St.startM {F : Nat → Prop} {p : HP} (h : p.sat F w) (hF : ∀ b, F b → b < w.heap.size) : St w [⟨w, fun b => b < w.heap.size ∧ ¬ F b⟩] [p] w :=
  ⟨rfl, rfl, rfl, Nat.le_refl _, fun b => b < w.heap.size ∧ ¬ F b, fun i b => i = 0 ∧ F b, fun b h => h.1, fun p hp b hb => by simp at hp; subst hp; exact ⟨hb, rfl⟩,
    fun i q hi => by cases i with
      | zero => simp at hi; subst hi; show p.sat (fun b => 0 = 0 ∧ F b) w; rw [show (fun b => 0 = 0 ∧ F b) = F by funext b; simp]; exact h
      | succ i => simp at hi,
    fun i b hb => ⟨fun h => h.2 hb.2, hF b hb.2⟩, fun i j b hij hi hj => by have := hi.1; have := hj.1; omega⟩
theorem XK.enterM {F : Nat → Prop} {p : HP} {f : FuncId} {fn : Func} {c : Code} {vs : List Value} {Post : Ending → World → Prop} (hf : P.funcs[f]? = some fn) (hb : fn.body = some c) (hN : fn.ntmps = N) (hl : vs.length ≤ N) (hp : p.sat F w) (hF : ∀ b, F b → b < w.heap.size)
    (h : XK N w (c.wp P (bodyPost P fn Post)) (argEnv 0 vs) [⟨w, fun b => b < w.heap.size ∧ ¬ F b⟩] [p]) : Calls P f vs.toArray w Post := by
  refine calls_of_wp hf hb (h _ _ ⟨?_, rfl, fun t v hv => ?_⟩ (St.startM hp hF))
  · simp; omega
  · obtain ⟨_, h2⟩ := argEnv_get vs 0 t v hv
    rw [Nat.sub_zero] at h2
    have hlt : t < vs.length := by
      rcases Nat.lt_or_ge t vs.length with h | h
      · exact h
      · rw [List.getElem?_eq_none h] at h2; cases h2
    rw [Array.getElem?_append_left (by simpa using hlt)]
    simpa using h2
/-- its end -/
theorem St.turns {F : Nat → Prop} {q : HP} (st : St w0 R H w) (hF : ∀ b, F b → b < w0.heap.size) (hR : ⟨w0, fun b => b < w0.heap.size ∧ ¬ F b⟩ ∈ R) {i : Nat} (hi : H[i]? = some q) : ∃ F', q.sat F' w ∧ Turns w0 w F F' := by
  obtain ⟨Z, G, hz, hr, hs, hf, hd⟩ := st.ex
  refine ⟨G i, hs i q hi, st.os, st.tape, st.output, st.size, fun b hb => ⟨?_, (hf i b hb).2⟩, fun b hb hnb => (hr _ hR b ⟨hb, hnb⟩).2⟩
  rcases Nat.lt_or_ge b w0.heap.size with h | h
  · refine .inl (Classical.byContradiction fun hn => (hf i b hb).1 (hr _ hR b ⟨h, hn⟩).1)
  · exact .inr h
end
end Go.Proofs.Ytbgibbbggajgaaa
