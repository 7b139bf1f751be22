/- The small logic for code that ranges over functions, and for iterators: rounds, marks, yield. -/
import Derived.Test.YtbgibbbggajgaaaRange
import Derived.Test.YtbgibbbggajgaaaMore
namespace Go.Proofs.Ytbgibbbggajgaaa
set_option linter.all false
open Go.RowKit

abbrev Fr (r : Option Nat) : Fence := { Fence.wide with round := r }
def markD (D : Nat) : Deferred := { target := .collected D, args := #[] }
/-- an activation with these marks besides -/
def mk (L : List Nat) (a : Act) : Act := { tmps := a.tmps, defers := a.defers ++ L.map markD }
theorem mk_eval (L : List Nat) (a : Act) : (mk L a).eval = a.eval := by funext x; cases x <;> rfl
theorem mk_put (L : List Nat) (a : Act) (d : Option Nat) (v : Value) : (mk L a).put d v = mk L (a.put d v) := by cases d <;> rfl
theorem mk_nil (a : Act) : mk [] a = a := by cases a; simp [mk]
def KI (r : Option Nat) (L : List Nat) (P : Program) (ops : Array Oper) (Q : Exit → Act → World → Prop) (l : List Oper) : Act → World → Prop := fun a w => wpListIn (Fr r) 9 P ops Q l (mk L a) w
def KC (r : Option Nat) (L : List Nat) (P : Program) (c : Code) (Q : Exit → Act → World → Prop) : Act → World → Prop := fun a w => c.wpIn (Fr r) 9 P Q (mk L a) w
def KQ (L : List Nat) (Q : Exit → Act → World → Prop) (x : Exit) : Act → World → Prop := fun a w => Q x (mk L a) w
/-- no end but the normal one -/
def Fx (K : Act → World → Prop) : Exit → Act → World → Prop := Exit.then K fun _ _ _ => False
def plainOp (o : Oper) : Bool := match o.op with | .defer _ => false | _ => true
section
variable {P : Program} {N : Nat} {w0 w : World} {e : Env} {R : List Piece} {H : List HP} {Q : Exit → Act → World → Prop} {ops : Array Oper} {rest : List Oper} {r : Option Nat} {L : List Nat}
theorem semAt_r (r : Option Nat) (ρ : Operand → Value) {o : Oper} (h : plainOp o = true) : Oper.semAt (Fr r).round ρ o = execOp ρ o := by
  have hd : ∀ c, o.op ≠ .defer c := fun c e => by unfold plainOp at h; rw [e] at h; cases h
  cases r with
  | none => exact Oper.semAt_none ρ o
  | some l => exact Oper.semAt_some l ρ o hd
theorem callsIn_r {n m : Nat} {f : FuncId} {args : Array Value} {w : World} {A B : Ending → World → Prop} (h : Calls P f args w A) (hr : ∀ e w', A e w' → B e w') : CallsIn (Fr r) n P f args w B := by
  have h2 : CallsIn Fence.wide n P f args w B := callsIn_wide.2 (h.mono hr)
  cases r with
  | none => exact h2
  | some l => exact CallsIn.inRound l h2
theorem rowsIn_r {n : Nat} {row : String} {args : Array Value} {w : World} {A B : Value → World → Prop} (h : Go.Rows P row args w A) (hr : ∀ v w', A v w' → B v w') : RowsIn (Fr r) n P row args w B := fun c cs _ => by
  obtain ⟨v, w', h1, h2⟩ := h c cs
  exact ⟨v, w', hr _ _ h1, stepsIn_wide.2 h2⟩
theorem operIn {o : Oper} {a : Act} {w : World} {K K' : Act → World → Prop} {Q' : Exit → Act → World → Prop} (hp : plainOp o = true) (hK : ∀ a w, K a w → K' (mk L a) w) (h : o.wp P a w K (Fx K)) : o.wpIn (Fr r) 9 P (mk L a) w K' Q' := by
  refine ⟨fun _ _ => trivial, ?_⟩
  rw [semAt_r r _ hp, mk_eval]
  unfold Oper.wp at h
  generalize (execOp a.eval o).run P w = res at h ⊢
  cases res with
  | ok n w' =>
    cases n with
    | value v => show K' ((mk L a).put o.dst v) w'; rw [mk_put]; exact hK _ _ h
    | skip => show K' ((mk L a).put o.dst undef) w'; rw [mk_put]; exact hK _ _ h
    | defer d =>
      have := hK _ _ h
      rw [← mk_put] at this
      exact this
    | enter f args => exact ⟨fun _ => by omega, callsIn_r (m := 0) h fun e w'' he => by
        cases e with
        | returned v => show K' ((mk L a).put o.dst v) w''; rw [mk_put]; exact hK _ _ he
        | panicked c => exact he.elim
        | outgrown => obtain ⟨_, _, hf⟩ := he; exact hf.elim⟩
    | row row args => exact ⟨fun _ => by omega, rowsIn_r h fun v w'' he => by show K' ((mk L a).put o.dst v) w''; rw [mk_put]; exact hK _ _ he⟩
    | _ => exact h.elim
  | halt x w' =>
    cases x with
    | panic v => exact (show False from h).elim
    | _ => exact h.elim
/-! operations, one by one -/
theorem XI.op {o : Oper} (hp : plainOp o = true) (h : XK N w0 (wpList P ops (Fx (KI r L P ops Q rest)) [o]) e R H) : XK N w0 (KI r L P ops Q (o :: rest)) e R H := fun a w hr st => by
  have h := h a w hr st
  unfold wpList at h
  show wpListIn (Fr r) 9 P ops Q (o :: rest) (mk L a) w
  unfold wpListIn
  by_cases hw : Region.wanted o (yielded ops a.tmps) = true
  · rw [if_pos hw] at h
    rw [if_pos (show Region.wanted o (yielded ops (mk L a).tmps) = true from hw)]
    rcases h with h | ⟨_, _, _, h⟩
    · exact operIn hp (K := wpList P ops (Fx (KI r L P ops Q rest)) []) (fun a w h => h) (by
        unfold Oper.wp at h ⊢
        generalize (execOp a.eval o).run P w = res at h ⊢
        cases res with
        | ok n w' => cases n <;> first | exact h | exact Calls.mono h (fun x w'' hx => by cases x <;> first | exact hx | exact hx.elim | (obtain ⟨_, _, hf⟩ := hx; exact hf.elim))
        | halt x w' => cases x <;> exact h)
    · exact h.elim
  · rw [if_neg hw] at h
    rw [if_neg (show ¬ Region.wanted o (yielded ops (mk L a).tmps) = true from hw)]
    refine ⟨fun _ _ => trivial, ?_⟩
    rw [mk_put]
    exact h
theorem XI.back {K : Act → World → Prop} (h : XK N w0 K e R H) : XK N w0 (wpList P ops (Fx K) []) e R H := h
theorem XI.nil (h : XK N w0 (KQ L Q .normal) e R H) : XK N w0 (KI r L P ops Q []) e R H := h
theorem XI.guardT {dst : Option Nat} {op : Op} {j t : Nat} {want : Bool} {ty : TypeId} {pos : String} {aft : Array Edge} (hj : (ops[j]?).bind (·.dst) = some t) (ht : e.get t = some (.bool want))
    (k : XK N w0 (KI r L P ops Q (⟨dst, op, ty, pos, aft, none⟩ :: rest)) e R H) : XK N w0 (KI r L P ops Q (⟨dst, op, ty, pos, aft, some (j, want)⟩ :: rest)) e R H := fun a w hr st => by
  have h : wpListIn (Fr r) 9 P ops Q (⟨dst, op, ty, pos, aft, none⟩ :: rest) (mk L a) w := k a w hr st
  have hw : Region.wanted (⟨dst, op, ty, pos, aft, some (j, want)⟩ : Oper) (yielded ops a.tmps) = true := by
    simp only [Region.wanted, yielded, hj, Option.bind_some, hr.get t _ ht]
    simp
  show wpListIn (Fr r) 9 P ops Q _ (mk L a) w
  unfold wpListIn at h ⊢
  rw [if_pos (show Region.wanted (⟨dst, op, ty, pos, aft, some (j, want)⟩ : Oper) (yielded ops (mk L a).tmps) = true from hw)]
  rw [if_pos (by simp [Region.wanted])] at h
  exact h
/-- a whole region, that calls no yield -/
theorem XC.region {id : Nat} {l : List Oper} (h : XK N w0 (KI r L P l.toArray Q l) e R H) : XK N w0 (KC r L P (Code.region id l.toArray false) Q) e R H := fun a w hr st => wpIn_region_lit (h a w hr st)
theorem wpListIn_all : ∀ (l : List Oper) (a : Act) (w : World), (l.all plainOp) = true → wpList P ops (Fx (KQ L Q .normal)) l a w → wpListIn (Fr r) 9 P ops Q l (mk L a) w
  | [], a, w, _, h => h
  | o :: l, a, w, hp, h => by
    simp only [List.all_cons, Bool.and_eq_true] at hp
    unfold wpList at h
    unfold wpListIn
    by_cases hw : Region.wanted o (yielded ops a.tmps) = true
    · rw [if_pos hw] at h
      rw [if_pos (show Region.wanted o (yielded ops (mk L a).tmps) = true from hw)]
      rcases h with h | ⟨_, _, _, h⟩
      · exact operIn hp.1 (K := wpList P ops (Fx (KQ L Q .normal)) l) (fun a w h => wpListIn_all l a w hp.2 h) (by
          unfold Oper.wp at h ⊢
          generalize (execOp a.eval o).run P w = res at h ⊢
          cases res with
          | ok n w' => cases n <;> first | exact h | exact Calls.mono h (fun x w'' hx => by cases x <;> first | exact hx | exact hx.elim | (obtain ⟨_, _, hf⟩ := hx; exact hf.elim))
          | halt x w' => cases x <;> exact h)
      · exact h.elim
    · rw [if_neg hw] at h
      rw [if_neg (show ¬ Region.wanted o (yielded ops (mk L a).tmps) = true from hw)]
      refine ⟨fun _ _ => trivial, ?_⟩
      rw [mk_put]
      exact wpListIn_all l _ _ hp.2 h
theorem XC.regionW {id : Nat} {l : List Oper} (hp : l.all plainOp = true) (h : XK N w0 (wpList P l.toArray (Fx (KQ L Q .normal)) l) e R H) : XK N w0 (KC r L P (Code.region id l.toArray false) Q) e R H := fun a w hr st => wpIn_region_lit (wpListIn_all l a w hp (h a w hr st))
theorem XC.endW {K : Act → World → Prop} (h : XK N w0 K e R H) : XK N w0 (wpList P ops (Fx K) []) e R H := h
/-! control -/
theorem XC.seq {x y : Code} (h : XK N w0 (KC r L P x (Exit.then (y.wpIn (Fr r) 9 P Q) Q)) e R H) : XK N w0 (KC r L P (Code.seq x y) Q) e R H := fun a w hr st => wpIn_seq (h a w hr st)
theorem XC.skip (h : XK N w0 (KQ L Q .normal) e R H) : XK N w0 (KC r L P Code.skip Q) e R H := fun a w hr st => wpIn_skip (h a w hr st)
theorem XC.exit {id : Nat} (h : XK N w0 (KQ L Q (.exit id)) e R H) : XK N w0 (KC r L P (Code.exit id) Q) e R H := fun a w hr st => wpIn_exit (h a w hr st)
theorem XC.ret (h : XK N w0 (KQ L Q .ret) e R H) : XK N w0 (KC r L P Code.ret Q) e R H := fun a w hr st => wpIn_ret (h a w hr st)
theorem XC.block {id : Nat} {c : Code} (h : XK N w0 (KC r L P c (Exit.inBlock id Q)) e R H) : XK N w0 (KC r L P (Code.block id c) Q) e R H := fun a w hr st => wpIn_block (h a w hr st)
theorem XC.cond {c : Operand} {x y : Code} {b : Bool} (hc : e.ev c = some (.bool b)) (ht : b = true → XK N w0 (KC r L P x Q) e R H) (hf : b = false → XK N w0 (KC r L P y Q) e R H) : XK N w0 (KC r L P (Code.cond c x y) Q) e R H :=
  fun a w hr st => wpIn_cond_split (by rw [mk_eval]; exact hr.ev hc) (fun h => ht h a w hr st) (fun h => hf h a w hr st)
theorem XC.if_ {c : Operand} {x y : Code} {p : Prop} [Decidable p] (hc : e.ev c = some (.bool (decide p))) (ht : p → XK N w0 (KC r L P x Q) e R H) (hf : ¬ p → XK N w0 (KC r L P y Q) e R H) : XK N w0 (KC r L P (Code.cond c x y) Q) e R H :=
  XC.cond hc (fun h => ht (of_decide_eq_true h)) (fun h => hf (of_decide_eq_false h))
theorem XC.thenN {y : Code} (h : XK N w0 (KC r L P y Q) e R H) : XK N w0 (KQ L (Exit.then (y.wpIn (Fr r) 9 P Q) Q) .normal) e R H := h
theorem XC.thenE {K : Act → World → Prop} {id : Nat} (h : XK N w0 (KQ L Q (.exit id)) e R H) : XK N w0 (KQ L (Exit.then K Q) (.exit id)) e R H := h
theorem XC.thenR {K : Act → World → Prop} (h : XK N w0 (KQ L Q .ret) e R H) : XK N w0 (KQ L (Exit.then K Q) .ret) e R H := h
theorem XC.inN {id : Nat} (h : XK N w0 (KQ L Q .normal) e R H) : XK N w0 (KQ L (Exit.inBlock id Q) .normal) e R H := h
theorem XC.inR {id : Nat} (h : XK N w0 (KQ L Q .ret) e R H) : XK N w0 (KQ L (Exit.inBlock id Q) .ret) e R H := h
theorem XC.inE {id : Nat} (h : XK N w0 (KQ L Q .normal) e R H) : XK N w0 (KQ L (Exit.inBlock id Q) (.exit id)) e R H := fun a w hr st => by
  show Exit.inBlock id Q (.exit id) (mk L a) w
  simp only [Exit.inBlock, if_true]
  exact h a w hr st
theorem XC.inF {id id' : Nat} (hne : Nat.beq id' id = false) (h : XK N w0 (KQ L Q (.exit id')) e R H) : XK N w0 (KQ L (Exit.inBlock id Q) (.exit id')) e R H := fun a w hr st => by
  have : ¬ id' = id := fun h => by subst h; simp at hne
  show Exit.inBlock id Q (.exit id') (mk L a) w
  simp only [Exit.inBlock, if_neg this]
  exact h a w hr st
/-- a loop; the marks are part of what is known -/
theorem XC.loop {c : Code} (I : Nat → List Nat → Env → List Piece → List HP → Prop) (n : Nat) (h0 : I n L e R H)
    (h : ∀ n L e R H, I n L e R H → XK N w0 (KC none L P c (Exit.then (fun a' w' => ∃ m L' a e' R' H', (m < n ∧ I m L' e' R' H') ∧ a' = mk L' a ∧ Rep N e' a ∧ St w0 R' H' w') Q)) e R H) : XK N w0 (KC none L P (Code.loop c) Q) e R H := fun a w hr st => by
  refine wpIn_wide.2 (wp_loop_ix (fun n a' w => ∃ L a e R H, I n L e R H ∧ a' = mk L a ∧ Rep N e a ∧ St w0 R H w) n ⟨L, a, e, R, H, h0, rfl, hr, st⟩ fun n a' w ⟨L, a, e, R, H, hI, ha, hr, st⟩ => ?_)
  subst ha
  refine wp_mono (wpIn_wide.1 (h n L e R H hI a w hr st)) fun x a' w' hq => ?_
  cases x with
  | normal =>
    obtain ⟨m, L2, a2, e2, R2, H2, ⟨hlt, hI2⟩, ha2, hr2, st2⟩ := hq
    exact ⟨m, hlt, L2, a2, e2, R2, H2, hI2, ha2, hr2, st2⟩
  | _ => exact hq
theorem XC.round {I : Nat → List Nat → Env → List Piece → List HP → Prop} {n : Nat} (m : Nat) (hm : m < n) (hI : I m L e R H) :
    XK N w0 (KQ L (Exit.then (fun a' w' => ∃ m L' a e' R' H', (m < n ∧ I m L' e' R' H') ∧ a' = mk L' a ∧ Rep N e' a ∧ St w0 R' H' w') Q) .normal) e R H := fun a _ hr st => ⟨m, L, a, e, R, H, ⟨hm, hI⟩, rfl, hr, st⟩
end
end Go.Proofs.Ytbgibbbggajgaaa
