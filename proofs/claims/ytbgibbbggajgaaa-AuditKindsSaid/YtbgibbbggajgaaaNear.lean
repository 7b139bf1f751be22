/- The small logic: pieces that hold nothing but a given one, and what is new. -/
import Derived.Test.YtbgibbbggajgaaaPlan3
import Derived.Test.YtbgibbbggajgaaaSlices
namespace Go.Proofs.Ytbgibbbggajgaaa
set_option linter.all false
open Go.RowKit
/-- nothing but p0, and what is new since w0 -/
def Near (p0 : Piece) (w0 : World) (q : Piece) : Prop := ∀ b, q.Z b → p0.Z b ∨ w0.heap.size ≤ b
section
variable {P : Program} {N : Nat} {w0 w : World} {e : Env} {R : List Piece} {H H' : List HP} {Q : Exit → Act → World → Prop} {ops : Array Oper} {rest : List Oper} {K : Act → World → Prop}
variable {d : Nat} {ty : TypeId} {pos : String} {aft : Array Edge}
theorem St.piece {p : Piece} (st : St w0 R H w) (hR : all w0 ∈ R) (hp : p.Le (all w0)) : St w0 (p :: R) H w := by
  obtain ⟨Z, F, hz, hr, hs, hf, hd⟩ := st.ex
  refine ⟨st.os, st.tape, st.output, st.size, Z, F, hz, fun q hq b hb => ?_, hs, hf, hd⟩
  simp only [List.mem_cons] at hq
  rcases hq with rfl | hq
  · have h1 := hr _ hR b (hp b hb).1
    exact ⟨h1.1, h1.2.trans (hp b hb).2⟩
  · exact hr q hq b hb
theorem XK.piece (p : Piece) (hR : all w0 ∈ R) (hp : p.Le (all w0)) (h : XK N w0 K e (p :: R) H) : XK N w0 K e R H := fun a w hr st => h a w hr (st.piece hR hp)
theorem near_le {p0 qs q2 : Piece} {w1 : World} (st : St w0 R H w1) (hq : qs ∈ R) (hn : Near p0 w0 qs) (h0 : p0.Le qs) (h1 : p0.Le q2) (h2 : (fresh w0 w1).Le q2) : qs.Le q2 := fun b hb => by
  rcases hn b hb with h | h
  · obtain ⟨h3, h4⟩ := h1 b h
    exact ⟨h3, h4.trans (h0 b h).2.symm⟩
  · obtain ⟨h3, h4⟩ := h2 b ⟨h, st.ro_lt hq hb⟩
    exact ⟨h3, h4.trans (st.ro hq hb)⟩
theorem xk_callP (p q0 : Piece) {f : FuncId} {x : Operand} {args : List Operand} {fi ca vs : List Value} {tys : Array TypeId} (hf : callB P f = true) (hx : e.ev x = some (.func (.func f) fi.toArray ca.toArray)) (ha : e.evs args = some vs) (hd : d < N) (hps : q0 ∈ R) (hn : Near p w0 q0)
    (R' : Value → World → World → Prop) (hc : ∀ w, St w0 R H w → Calls P f (fi ++ vs ++ ca).toArray w fun y w' => (∃ v, y = .returned v ∧ R' v w w') ∧ Below w.heap.size w w')
    (k : ∀ v w q, R' v w q.w → (fresh w q.w).Le q → q0.Le q → Near p w0 q → XK N w0 (wpList P ops Q rest) ((d, v) :: e) (q :: R) H) :
    XK N w0 (wpList P ops Q (⟨some d, .call { callee := .value x, args := args.toArray, argTypes := tys }, ty, pos, aft, none⟩ :: rest)) e R H := fun a w hr st => wpList_plain rfl fun K hK => by
  unfold callB at hf
  cases hq : P.funcs[f]? with
  | none => simp [hq] at hf
  | some fn =>
    simp [hq] at hf
    obtain ⟨hf1, hf2⟩ := hf
    have hrun : (execOp a.eval (⟨some d, .call { callee := .value x, args := args.toArray, argTypes := tys }, ty, pos, aft, none⟩ : Oper)).run P w = .ok (.enter f (fi ++ vs ++ ca).toArray) w := by
      cases hb : fn.body with
      | none => simp [hb] at hf2
      | some c =>
        simp [execOp, resolve, hr.ev hx, Deferred.ofValue, invoke, callFunc, hq, hf1, hb, hr.evs ha]
    unfold Oper.wp
    rw [hrun]
    refine (hc w st).mono fun y w' ⟨⟨v, hy, hR⟩, hb⟩ => ?_
    subst hy
    refine hK _ _ (k v w ⟨w', fun b => (fresh w w').Z b ∨ q0.Z b⟩ hR (fun b h => ⟨.inl h, rfl⟩) (fun b h => ⟨.inr h, ?_⟩) (fun b hb => ?_) _ _ (hr.put hd v) (st.seen hb (fun b h => h.imp id fun hz => ⟨q0, hps, hz⟩)))
    · exact (hb.block b (st.ro_lt hps h)).trans (st.ro hps h)
    · rcases hb with hb | hb
      · exact .inr (Nat.le_trans st.size hb.1)
      · exact hn b hb
/-- blocks of the call's own are written no more; what is seen is near p -/
theorem XK.stillP (p q0 : Piece) (fs is : List Nat) (hq0 : q0 ∈ R) (hR : all w0 ∈ R) (hn : Near p w0 q0) (hH : selB is H = some H') (hnd : is.Nodup) (hf : ∀ i ∈ fs, i ∉ is)
    (h : ∀ q : Piece, (∀ (i : Nat) (p : HP), i ∈ fs → H[i]? = some p → ∃ F, p.sat F q.w ∧ ∀ b, F b → q.Z b) → q0.Le q → Near p w0 q → XK N w0 K e (q :: R) H') : XK N w0 K e R H := fun a w hr st => by
  obtain ⟨Z, F, hz, hrr, hs, hff, hd⟩ := st.ex
  have hlen := selB_len hH
  have hinj := nodup_inj hnd
  have hget := selB_get hH
  refine h ⟨w, fun b => q0.Z b ∨ ∃ i, i ∈ fs ∧ F i b⟩ (fun i p hi hp => ⟨F i, hs i p hp, fun b hb => .inr ⟨i, hi, hb⟩⟩) (fun b hb => ⟨.inl hb, (hrr q0 hq0 b hb).2⟩) (fun b hb => ?_) a w hr
    ⟨st.os, st.tape, st.output, st.size, fun b => Z b ∨ ∃ i, i ∈ fs ∧ F i b, fun i b => i < H'.length ∧ F (is.getD i 0) b, ?_, ?_, ?_, ?_, ?_⟩
  · rcases hb with hb | ⟨i, hi, hb⟩
    · exact hn b hb
    · refine .inr ?_
      rcases Nat.lt_or_ge b w0.heap.size with h | h
      · exact absurd (hrr _ hR b h).1 (hff i b hb).1
      · exact h
  · rintro b (h | ⟨i, _, h⟩)
    · exact hz b h
    · exact (hff i b h).2
  · intro p hp b hb
    simp only [List.mem_cons] at hp
    rcases hp with rfl | hp
    · refine ⟨?_, rfl⟩
      rcases hb with hb | hb
      · exact .inl (hrr q0 hq0 b hb).1
      · exact .inr hb
    · exact ⟨.inl (hrr p hp b hb).1, (hrr p hp b hb).2⟩
  · intro i p hi
    have hlt : i < H'.length := by
      rcases Nat.lt_or_ge i H'.length with h | h
      · exact h
      · rw [List.getElem?_eq_none h] at hi; cases hi
    show p.sat (fun b => i < H'.length ∧ F (is.getD i 0) b) w
    rw [show (fun b => i < H'.length ∧ F (is.getD i 0) b) = F (is.getD i 0) by funext b; simp [hlt]]
    exact hs _ p (hget i p hi)
  · rintro i b ⟨hi, h⟩
    refine ⟨?_, (hff _ b h).2⟩
    rintro (hzb | ⟨j, hj, hjb⟩)
    · exact (hff _ b h).1 hzb
    · have hi' : i < is.length := by omega
      have hmem : is.getD i 0 ∈ is := by simp [List.getD_eq_getElem?_getD, List.getElem?_eq_getElem hi']
      exact hd (is.getD i 0) j b (fun e => hf j hj (e ▸ hmem)) h hjb
  · exact fun i j b hij h hj => hd (is.getD i 0) (is.getD j 0) b (fun e => hij (hinj i j (by omega) (by omega) e)) h.2 hj.2
end
end Go.Proofs.Ytbgibbbggajgaaa
