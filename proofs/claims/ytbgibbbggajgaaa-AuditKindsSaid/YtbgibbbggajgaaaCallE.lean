/- A call that writes a chunk, and reads the pieces; cuts and draws in rounds; two results in variables. -/
import Derived.Test.YtbgibbbggajgaaaNear
import Derived.Test.YtbgibbbggajgaaaDrawIn
import Derived.Test.YtbgibbbggajgaaaMaybe
import Derived.Test.YtbgibbbggajgaaaEx
namespace Go.Proofs.Ytbgibbbggajgaaa
set_option linter.all false
open Go.RowKit
section
variable {P : Program} {w : World} {t kt et : TypeId} {r : Nat} {l : List (Int × Value)}
variable {P : Program} {N : Nat} {w0 w : World} {e : Env} {R : List Piece} {H : List HP} {Q : Exit → Act → World → Prop} {ops : Array Oper} {rest : List Oper}
variable {d : Nat} {ty : TypeId} {pos : String} {aft : Array Edge}
/-- a call that writes chunk i, and reads the pieces; what it hands back is known by a relation -/
theorem xk_callE (i : Nat) {dst : Option Nat} {e' : Env} {f : FuncId} {x : Operand} {args : List Operand} {fi ca vs : List Value} {tys : Array TypeId} {p : HP} {v : Value} (q : HP) (hf : callB P f = true) (hx : e.ev x = some (.func (.func f) fi.toArray ca.toArray)) (ha : e.evs args = some vs) (hi : H[i]? = some p)
    (hd : match dst with | some d => d < N ∧ e' = (d, v) :: e | none => e' = e)
    (hc : ∀ w F, St w0 R H w → p.sat F w → (∀ b, F b → b < w.heap.size) → (∀ q ∈ R, q.Le ⟨w, fun b => b < w.heap.size ∧ ¬ F b⟩) → Calls P f (fi ++ vs ++ ca).toArray w fun y w' => y = .returned v ∧ ∃ F', q.sat F' w' ∧ Turns w w' F F')
    (k : XK N w0 (wpList P ops Q rest) e' R (H.set i q)) : XK N w0 (wpList P ops Q (⟨dst, .call { callee := .value x, args := args.toArray, argTypes := tys }, ty, pos, aft, none⟩ :: rest)) e R H := fun a w hr st => wpList_plain rfl fun K hK => by
  unfold callB at hf
  cases hq : P.funcs[f]? with
  | none => simp [hq] at hf
  | some fn =>
    simp [hq] at hf
    obtain ⟨hf1, hf2⟩ := hf
    have hrun : (execOp a.eval (⟨dst, .call { callee := .value x, args := args.toArray, argTypes := tys }, ty, pos, aft, none⟩ : Oper)).run P w = .ok (.enter f (fi ++ vs ++ ca).toArray) w := by
      cases hb : fn.body with
      | none => simp [hb] at hf2
      | some c => simp [execOp, resolve, hr.ev hx, Deferred.ofValue, invoke, callFunc, hq, hf1, hb, hr.evs ha]
    obtain ⟨Z, F, hz, hrr, hs, hff, hdd⟩ := st.ex
    unfold Oper.wp
    rw [hrun]
    refine (hc w (F i) st (hs i p hi) (fun b hb => (hff i b hb).2) (fun q hqR b hb => ⟨⟨hz b (hrr q hqR b hb).1, fun hfb => (hff i b hfb).1 (hrr q hqR b hb).1⟩, (hrr q hqR b hb).2⟩)).mono fun y w' ⟨hy, F', hq', ht⟩ => ?_
    subst hy
    have st' : St w0 R (H.set i q) w' := by
      have hlt : i < H.length := by
        rcases Nat.lt_or_ge i H.length with h | h
        · exact h
        · rw [List.getElem?_eq_none h] at hi; cases hi
      refine ⟨ht.os.trans st.os, ht.tape.trans st.tape, ht.output.trans st.output, Nat.le_trans st.size ht.size, Z, fun j => if j = i then F' else F j, fun b h => Nat.lt_of_lt_of_le (hz b h) ht.size, fun p hp b h => ?_, fun j r hj => ?_, fun j b h => ?_, fun j k b hjk h => ?_⟩
      · exact ⟨(hrr p hp b h).1, (ht.old b (hz b (hrr p hp b h).1) (fun hfb => (hff i b hfb).1 (hrr p hp b h).1)).trans (hrr p hp b h).2⟩
      · rw [List.getElem?_set] at hj
        split at hj
        · rename_i e; subst e
          first | (rw [if_pos hlt] at hj; cases hj) | cases hj
          simpa using hq'
        · rename_i e
          simp only [if_neg (Ne.symm e)]
          exact r.loc _ _ _ (hs j r hj) (fun b hb => ht.old b (hff j b hb).2 (hdd j i b (Ne.symm e) hb))
      · dsimp only at h
        split at h
        · refine ⟨fun hzb => ?_, (ht.new b h).2⟩
          rcases (ht.new b h).1 with h | h
          · exact (hff i b h).1 hzb
          · have := hz b hzb; omega
        · exact ⟨(hff j b h).1, Nat.lt_of_lt_of_le (hff j b h).2 ht.size⟩
      · dsimp only at h ⊢
        split at h <;> split
        · rename_i h1 h2; omega
        · rename_i e1 e2
          intro hk
          rcases (ht.new b h).1 with h | h
          · exact hdd i k b (by omega) h hk
          · have := (hff k b hk).2; omega
        · rename_i e1 e2
          intro hk
          rcases (ht.new b hk).1 with hk | hk
          · exact hdd j i b (by omega) h hk
          · have := (hff j b h).2; omega
        · exact hdd j k b hjk h
    cases dst with
    | none => dsimp only at hd; subst hd; exact hK _ _ (k _ _ hr st')
    | some d => dsimp only at hd; obtain ⟨hd, rfl⟩ := hd; exact hK _ _ (k _ _ (hr.put hd v) st')
end

/-- a pure fact, as a chunk -/
def HP.pure (p : Prop) : HP := ⟨fun _ _ => p, fun _ _ _ h _ => h⟩
section
variable {P : Program} {N : Nat} {w0 : World} {e e0 : Env} {R R0 : List Piece} {H H0 : List HP} {Q : Exit → Act → World → Prop} {r : Option Nat} {L : List Nat} {K : Act → World → Prop}
theorem XK.fact (i : Nat) {p : Prop} (hi : H[i]? = some (HP.pure p)) (h : p → XK N w0 K e R H) : XK N w0 K e R H := fun a w hr st => by
  obtain ⟨F, hF⟩ := st.sat hi
  exact h hF a w hr st
theorem XK.setFact (i : Nat) {p q : Prop} (hi : H[i]? = some (HP.pure p)) (hq : q) (h : XK N w0 K e R (H.set i (HP.pure q))) : XK N w0 K e R H := fun a w hr st =>
  h a w hr (st.turn hi (Nat.le_refl _) rfl rfl rfl fun F _ hlt => ⟨F, hq, fun b hb => ⟨.inl hb, hlt b hb⟩, fun _ _ _ => rfl⟩)
theorem XK.newFact {q : Prop} (hq : q) (h : XK N w0 K e R (HP.pure q :: H)) : XK N w0 K e R H := fun a w hr st =>
  h a w hr (st.new (w' := w) (Below.refl _ _) hq)
theorem XC.cutB {x y : Code} (u : Nat) (p : Prop) [Decidable p] (h : XK N w0 (KC r L P x (Exit.then (fun a' w' => ∃ b, a' = mk L b ∧ Rep N ((u, .bool (decide p)) :: e) b ∧ St w0 R H w') Q)) e R H)
    (hy : XK N w0 (KC r L P y Q) ((u, .bool (decide p)) :: e) R H) : XK N w0 (KC r L P (Code.seq x y) Q) e R H := fun a w hr st => by
  refine wpIn_seq (wpIn_mono (h a w hr st) fun x a' w' hq => ?_)
  cases x with
  | normal =>
    obtain ⟨b, rfl, h1, h2⟩ := hq
    exact hy b w' h1 h2
  | _ => exact hq
theorem XC.meetB {u : Nat} {p : Prop} [Decidable p] (hs : e0.Sub e) (hu : e.get u = some (.bool (decide p))) : XK N w0 (KQ L (Exit.then (fun a' w' => ∃ b, a' = mk L b ∧ Rep N ((u, .bool (decide p)) :: e0) b ∧ St w0 R H w') Q) .normal) e R H := fun a _ hr st => ⟨a, rfl, hr.sub_cons hs hu, st⟩
/-- .. what is known ahead of each of the first m: R0, H0 -/
theorem XC.draw1 (R0 : List Piece) (H0 : List HP) (m : Nat) {id : Nat} {l : List Oper} (hm : P.follows .mixedOrders = true) (hc : (Region.noSelect (l.take m).toArray && edgesB l.toArray && tlB l.toArray m && tlB (l.take m).toArray m && guardsB l m && (l.take m).all plainOp && decide (m ≤ l.length)) = true)
    (h : XA P N w0 (l.take m).toArray (Fx (KI r L P l.toArray Q (l.drop m))) R0 H0 m m (Array.replicate m false) e R H) : XK N w0 (KC r L P (Code.region id l.toArray true) Q) e R H := fun a w hr st => by
  simp only [Bool.and_eq_true, decide_eq_true_eq] at hc
  obtain ⟨⟨⟨⟨⟨⟨c1, c2⟩, c3⟩, c4⟩, c5⟩, c6⟩, c7⟩ := hc
  have h1 := h ⟨Down.start _ _, c1, c4⟩ a w.drew hr st.drew
  have h2 := any_sound (r := r) (L := L) (Q := Q) c7 c2 c3 c5 c6 m (Array.replicate l.length false) _ a w.drew ⟨fun i hi => by simp [hi, Nat.lt_of_lt_of_le hi c7], fun i hi => by simp [Array.getElem?_replicate]; split <;> rfl, by simp, by simp, by simpa using c7⟩ (Down.start _ _) (wpAny_of_x _ _ _ _ h1)
  unfold KC
  refine wpIn_region_any hm ?_
  rw [show m + (l.length - m) = l.length by omega] at h2
  simpa using h2
theorem XC.retC2 {fn : Func} {Post : Ending → World → Prop} {Hs : List HP} {t1 t2 b1 b2 : Nat} {s1 s2 : TypeId} {v1 v2 : Value} (hr : fn.results = #[.cell t1 s1, .cell t2 s2]) (h1 : oneB P s1 = true) (h2 : oneB P s2 = true) (ht1 : e.get t1 = some (.pointer (some ⟨b1, 0, none⟩))) (ht2 : e.get t2 = some (.pointer (some ⟨b2, 0, none⟩)))
    (r1 : Rd w0 R Hs b1 0 v1) (r2 : Rd w0 R Hs b2 0 v2) (h : ∀ w, St w0 R Hs w → Post (.returned (.tuple #[v1, v2])) w) : XK N w0 (KQ L (bodyPostM Fence.wide 9 P fn Post) .ret) e R (Hs ++ [HP.marks L]) := fun a w hrp st => by
  have := leaves_marks (P := P) (fn := fn) (tmps := a.tmps) (v := .tuple #[v1, v2]) L Hs w st (fun w st => ⟨by
    have l1 := run_load_one (P := P) h1 (r1 w st)
    have l2 := run_load_one (P := P) h2 (r2 w st)
    have a1 := hrp.get t1 _ ht1
    have a2 := hrp.get t2 _ ht2
    simp only [Instr.loadAt, Instr.sureAddr, Sem.run_bind, Sem.run_pure, Result.andThen_ok] at l1 l2
    simp only [results, hr]
    simp [a1, a2, asAddr, l1, l2], h w st⟩)
  unfold KQ mk; rw [hrp.defers]; exact this
end
end Go.Proofs.Ytbgibbbggajgaaa
