/- A region that draws its order, in which one alloc may come up at any time: the rest is walked once, whether it has come or not. -/
import Derived.Laws.StructEq
import Derived.Test.YtbcfbafpeidifaaTableTwiceK2
namespace Go.Proofs.Ytbcfbafpeidifaa
set_option linter.all false
open Go.RowKit
/-- the alloc has come (its block is g), or not yet -/
def emM (M : Option Nat) (d : Nat) (e : Env) : Env := match M with
  | none => e
  | some g => (d, .pointer (some ⟨g, 0, none⟩)) :: e
def hmM (M : Option Nat) (t : TypeId) (cs : List Value) (H : List HP) : List HP := match M with
  | none => H
  | some g => HP.blk g t cs :: H
def lmM (M : Option Nat) (j : Nat) (l : Array Bool) : Array Bool := match M with
  | none => l
  | some _ => l.setIfInBounds j true
def fmM (M : Option Nat) (f : Nat) : Nat := match M with
  | none => f + 1
  | some _ => f
def neB (d : Nat) : Operand → Bool
  | .tmp t => !(Nat.beq d t)
  | _ => true
theorem get_M (M : Option Nat) {d t : Nat} {e : Env} {v : Value} (h : e.get t = some v) (hn : Nat.beq d t = false) : (emM M d e).get t = some v := by
  cases M with
  | none => exact h
  | some g =>
    show Env.get ((d, _) :: e) t = some v
    unfold Env.get
    rw [hn]
    exact h
theorem ev_M (M : Option Nat) {d : Nat} {e : Env} {x : Operand} {v : Value} (h : e.ev x = some v) (hn : neB d x = true) : (emM M d e).ev x = some v := by
  cases x with
  | tmp t => exact get_M M h (by simpa [neB] using hn)
  | _ => exact h
theorem evs_M (M : Option Nat) {d : Nat} {e : Env} : ∀ {xs : List Operand} {vs : List Value}, e.evs xs = some vs → xs.all (neB d) = true → (emM M d e).evs xs = some vs
  | [], vs, h, _ => by cases h; rfl
  | x :: xs, vs, h, hn => by
    simp only [List.all_cons, Bool.and_eq_true] at hn
    unfold Env.evs at h ⊢
    split at h
    · rename_i v r h1 h2
      cases h
      rw [ev_M M h1 hn.1, evs_M M h2 hn.2]
    · cases h
section
variable {P : Program} {N : Nat} {w0 w : World} {e : Env} {R R' R0 : List Piece} {H H0 : List HP} {Q : Exit → Act → World → Prop} {ops : Array Oper} {m fuel : Nat} {listed : Array Bool} {K : Act → World → Prop}
variable {d dA : Nat} {t ty : TypeId} {pos : String} {aft : Array Edge} {cs : List Value} {v : Value}
theorem XK.weakR (hR : ∀ p ∈ R', p ∈ R) (h : XK N w0 K e R' H) : XK N w0 K e R H := fun a w hr st => h a w hr (st.weak hR id (fun _ _ _ _ h => h) (fun _ _ h => h))
theorem St.unM {M : Option Nat} (h : St w0 R (hmM M t cs H) w) : St w0 R H w := by
  cases M with
  | none => exact h
  | some g => exact h.tail
theorem Rep.putM {M : Option Nat} {a : Act} (h : Rep N ((d, v) :: emM M dA e) a) (hd : Nat.beq d dA = false) : Rep N (emM M dA ((d, v) :: e)) a := by
  cases M with
  | none => exact h
  | some g =>
    refine ⟨h.size, h.defers, fun u x hu => h.get u x ?_⟩
    show Env.get ((d, v) :: (dA, _) :: e) u = some x
    have hu : Env.get ((dA, .pointer (some ⟨g, 0, none⟩)) :: (d, v) :: e) u = some x := hu
    unfold Env.get at hu ⊢
    cases h1 : Nat.beq d u with
    | true =>
      have := Nat.eq_of_beq_eq_true h1
      subst this
      rw [show Nat.beq dA d = false from (by rw [← hd]; cases h2 : Nat.beq dA d with
        | true => have := Nat.eq_of_beq_eq_true h2; subst this; rw [Nat.beq_refl] at hd; cases hd
        | false => exact hd.symm)] at hu
      unfold Env.get at hu
      rw [h1] at hu
      exact hu
    | false =>
      dsimp only
      unfold Env.get
      cases h2 : Nat.beq dA u with
      | true => rw [h2] at hu; exact hu
      | false =>
        rw [h2] at hu
        unfold Env.get at hu
        rw [h1] at hu
        exact hu
theorem XA.maybe (i j : Nat) {oi : Oper} {M : Option Nat} (hi : ops[i]? = some oi) (hj : ops[j]? = some ⟨some dA, .alloc t, ty, pos, aft, none⟩) (ht : zeroB P t cs) (hd : dA < N)
    (hr0 : Region.ready .any ops listed = [i, j]) (hr1 : Region.ready .any ops (listed.setIfInBounds j true) = [i]) (hS : ∀ w, St w0 R H w → St w0 R0 H0 w)
    (step : ∀ M, XK N w0 (wpList P ops (Exit.then (XAK P w0 ops Q R0 H0 m (fmM M fuel) (lmM M j listed) i) Q) [oi]) (emM M dA e) R (hmM M t cs H)) :
    XA P N w0 ops Q R0 H0 m (fmM M (fuel + 1)) (lmM M j listed) (emM M dA e) R (hmM M t cs H) := by
  cases M with
  | some g => exact XA.next i hi hr1 (step (some g))
  | none => exact XA.either i j hi hj hr0 (step none) (xk_alloc ht hd fun g => XK.nil (XK.thenN (XA.back (fun w h => hS w h.tail) (XA.next i hi hr1 (step (some g))))))
theorem XA.maybe0 {j : Nat} (dA : Nat) (t : TypeId) (cs : List Value) (h : ∀ M : Option Nat, XA P N w0 ops Q R0 H0 m (fmM M fuel) (lmM M j listed) (emM M dA e) R (hmM M t cs H)) : XA P N w0 ops Q R0 H0 m (fuel + 1) listed e R H := h none
theorem XA.backM {i j : Nat} {M : Option Nat} (hij : i ≠ j) (hd : Nat.beq d dA = false) (hS : ∀ w, St w0 R H w → St w0 R0 H0 w)
    (h : XA P N w0 ops Q R0 H0 m (fmM M fuel) (lmM M j (listed.setIfInBounds i true)) (emM M dA ((d, v) :: e)) R (hmM M t cs H)) : XK N w0 (XAK P w0 ops Q R0 H0 m (fmM M fuel) (lmM M j listed) i) ((d, v) :: emM M dA e) R (hmM M t cs H) := by
  refine XA.back (fun w h => hS w h.unM) ?_
  have hl : (lmM M j listed).setIfInBounds i true = lmM M j (listed.setIfInBounds i true) := by
    cases M with
    | none => rfl
    | some g => exact Array.setIfInBounds_comm _ _ (Ne.symm hij)
  rw [hl]
  exact fun up a w hr st => h up a w (hr.putM hd) st
/-! a bool that was reckoned by parts -/
theorem get_iff {p q : Prop} [Decidable p] [Decidable q] {u : Nat} (h : e.get u = some (.bool (decide p))) (hpq : p ↔ q) : e.get u = some (.bool (decide q)) := by
  rw [h, decide_eq_decide.2 hpq]
theorem get_false {q : Prop} [Decidable q] {u : Nat} (h : e.get u = some (.bool false)) (hq : ¬ q) : e.get u = some (.bool (decide q)) := by rw [h, decide_eq_false hq]
theorem get_true {q : Prop} [Decidable q] {u : Nat} (h : e.get u = some (.bool true)) (hq : q) : e.get u = some (.bool (decide q)) := by rw [h, decide_eq_true hq]
theorem get_bool {q : Prop} [Decidable q] {u : Nat} {b : Bool} (h : e.get u = some (.bool b)) (hb : b = true ↔ q) : e.get u = some (.bool (decide q)) := by
  rw [h]
  congr 2
  by_cases hq : q
  · rw [decide_eq_true hq, hb.2 hq]
  · rw [decide_eq_false hq]
    cases b
    · rfl
    · exact absurd (hb.1 rfl) hq
theorem Rep.sub_cons {e0 : Env} {a : Act} {u : Nat} {x : Value} (h : Rep N e a) (hs : e0.Sub e) (hu : e.get u = some x) : Rep N ((u, x) :: e0) a := h.sub (e' := (u, x) :: e0) ⟨hu, hs⟩
theorem XK.cutB {x y : Code} {Q : Exit → Act → World → Prop} (u : Nat) (p : Prop) [Decidable p] (h : XK N w0 (x.wp P (Exit.then (fun a' w' => Rep N ((u, .bool (decide p)) :: e) a' ∧ St w0 R H w') Q)) e R H)
    (hy : XK N w0 (y.wp P Q) ((u, .bool (decide p)) :: e) R H) : XK N w0 ((Code.seq x y).wp P Q) e R H := fun a w hr st => by
  refine wp_seq (wp_mono (h a w hr st) fun x a' w' hq => ?_)
  cases x with
  | normal => exact hy a' w' hq.1 hq.2
  | _ => exact hq
theorem XK.meetB {e0 : Env} {u : Nat} {p : Prop} [Decidable p] (hs : e0.Sub e) (hu : e.get u = some (.bool (decide p))) : XK N w0 (fun a' w' => Rep N ((u, .bool (decide p)) :: e0) a' ∧ St w0 R H w') e R H := fun _ _ hr st => ⟨hr.sub_cons hs hu, st⟩
end
end Go.Proofs.Ytbcfbafpeidifaa
/- The small logic: a chunk that is one of many, not told which. -/
namespace Go.Proofs.Ytbcfbafpeidifaa
set_option linter.all false
open Go.RowKit
def HP.ex {α : Type} (f : α → HP) : HP := ⟨fun F w => ∃ a, (f a).sat F w, fun F w w' ⟨a, h⟩ hk => ⟨a, (f a).loc F w w' h hk⟩⟩
section
variable {N : Nat} {w0 : World} {e : Env} {R : List Piece} {H : List HP} {K : Act → World → Prop}
end
end Go.Proofs.Ytbcfbafpeidifaa
/- A graph in which all sources are lesser ones: its order is 0, 1, 2, .. No program in sight. -/
namespace Go.Proofs.Ytbcfbafpeidifaa
set_option linter.all false
def LessG (g : List (List Int)) : Prop := ∀ (k : Nat) (l : List Int), g[k]? = some l → ∀ u ∈ l, 0 ≤ u ∧ u < (k : Int)
theorem LessG.in {g : List (List Int)} (h : LessG g) : InG g := by
  intro l hl u hu
  obtain ⟨k, hk⟩ := List.getElem?_of_mem hl
  have := h k l hk u hu
  have := (List.getElem?_eq_some_iff.1 hk).1
  omega
theorem LessG.next {g : List (List Int)} (h : LessG g) {k : Nat} (hk : k < g.length) : nextG g (List.range k) = some k := by
  refine nextG_some hk (fun j hj => okN_met (by simpa using hj)) ?_
  unfold okN
  obtain ⟨l, hl⟩ : ∃ l, g[k]? = some l := ⟨_, List.getElem?_eq_getElem hk⟩
  rw [hl]
  simp only [Option.getD_some, Bool.and_eq_true, Bool.not_eq_true', List.all_eq_true]
  refine ⟨by simp, fun u hu => ?_⟩
  have := h k l hl u hu
  simp; omega
theorem LessG.order {g : List (List Int)} (h : LessG g) : ∀ (m k : Nat), k + m = g.length → orderG g m (List.range k) = some (List.range g.length)
  | 0, k, hk => by rw [orderG]; simp at hk; rw [hk]
  | m + 1, k, hk => by
    rw [orderG, h.next (by omega)]
    have := LessG.order h m (k + 1) (by omega)
    rw [List.range_succ] at this
    exact this
theorem LessG.orderE {g : List (List Int)} (h : LessG g) (hl : g.length ≤ 100) : orderE g = (0, List.range g.length) := by
  have h1 : badG g = false := badG_no fun k l hk j u hj => by
    have := h.in l (List.mem_of_getElem? hk) u (List.mem_of_getElem? hj)
    exact this
  have h2 : numbersG g = 0 := by unfold numbersG; rw [if_neg (by omega), h1]; rfl
  have h3 := h.order g.length 0 (by omega)
  unfold Go.Proofs.Ytbcfbafpeidifaa.orderE
  rw [if_neg (by simp [h2])]
  simp only [List.range_zero] at h3
  rw [h3]
end Go.Proofs.Ytbcfbafpeidifaa
/- A chip that is made is right; its orders are 0, 1, 2, .. No walk in sight. -/
namespace Go.Proofs.Ytbcfbafpeidifaa
set_option linter.all false
theorem firstE_all {es : List Int} (h : ∀ e ∈ es, e = 0) : firstE es = 0 := firstE_none fun j hj => by rw [List.getElem?_eq_getElem hj, h _ (List.getElem_mem hj)]
theorem withinB_of {n lo hi : Int} (h1 : lo ≤ n) (h2 : n ≤ hi) : withinB n lo hi = true := by simp [withinB, h1, h2]
theorem whenE_of {b : Bool} {e : Int} (h : b = false) : whenE b e = 0 := by rw [h]; rfl
section
variable {s : Soc} (h : s.made)
include h
theorem made_clocks : LessG (clocksG s) := by
  intro k l hl u hu
  simp only [clocksG, List.getElem?_map, Option.map_eq_some_iff] at hl
  obtain ⟨c, hc, rfl⟩ := hl
  exact (h.clocks k c hc).1 u hu
theorem made_doms : LessG (domsG s) := by
  intro k l hl u hu
  simp only [domsG, List.getElem?_map, Option.map_eq_some_iff] at hl
  obtain ⟨d, hd, rfl⟩ := hl
  have := (h.domains k d hd).1
  split at hu
  · cases hu
  · rename_i hne
    simp at hu
    subst hu
    exact this.resolve_left hne
theorem made_needs : LessG (needsG s) := by
  intro k l hl u hu
  simp only [needsG, List.getElem?_map, Option.map_eq_some_iff] at hl
  obtain ⟨d, hd, rfl⟩ := hl
  obtain ⟨_, _, _, _, _, _, _, _, _, _, _, h1⟩ := h.devs k d hd
  exact h1 u hu
theorem made_small : s.small := by
  refine ⟨by have := h.nc; omega, by have := h.nd; omega, by have := h.nr; omega, by have := h.nv; omega, fun c hc => ?_, fun d hd => ?_⟩
  · obtain ⟨k, hk⟩ := List.getElem?_of_mem hc
    rcases (h.clocks k c hk).2 with h1 | h1 | h1 | h1 | h1
    · rw [h1.2.1]; simp
    all_goals (have := h1.2.1; omega)
  · obtain ⟨k, hk⟩ := List.getElem?_of_mem hd
    obtain ⟨_, _, _, _, _, _, _, _, _, _, h1, _⟩ := h.devs k d hk
    omega
theorem made_orders : orderE (clocksG s) = (0, List.range s.clocks.length) ∧ orderE (domsG s) = (0, List.range s.domains.length) ∧ orderE (needsG s) = (0, List.range s.devs.length) := by
  refine ⟨?_, ?_, ?_⟩
  · have := (made_clocks h).orderE (by simp [clocksG]; have := h.nc; omega)
    simpa [clocksG] using this
  · have := (made_doms h).orderE (by simp [domsG]; have := h.nd; omega)
    simpa [domsG] using this
  · have := (made_needs h).orderE (by simp [needsG]; have := h.nv; omega)
    simpa [needsG] using this
theorem made_clock {k : Nat} {c : Clk} (hc : s.clocks[k]? = some c) : clockE s.clocks.length c = 0 := by
  have hk := (List.getElem?_eq_some_iff.1 hc).1
  obtain ⟨h1, h2⟩ := h.clocks k c hc
  refine firstE_all fun e he => ?_
  simp only [List.mem_cons, List.not_mem_nil, or_false] at he
  rcases he with rfl | rfl | rfl
  · refine whenE_of ?_
    rcases h2 with h2 | h2 | h2 | h2 | h2
    · simp [shapeB, h2.1, h2.2.1]
    · simp [shapeB, h2.1, h2.2.1]
    · simp [shapeB, h2.1, h2.2.1]
    · simp [shapeB, h2.1, h2.2.1]
    · simp [shapeB, h2.1, h2.2.1, withinB]
  · refine firstE_all fun e he => ?_
    simp only [List.mem_map] at he
    obtain ⟨f, hf, rfl⟩ := he
    have := h1 f hf
    exact whenE_of (by rw [withinB_of (by omega) (by omega)]; rfl)
  · refine whenE_of ?_
    rcases h2 with h2 | h2 | h2 | h2 | h2
    · obtain ⟨h3, _, h4, h5, _⟩ := h2
      simp [numbersB, h3]; omega
    · obtain ⟨h3, _, _, h4, h5, h6, h7, h8, h9⟩ := h2
      simp [numbersB, h3, withinB]; omega
    · obtain ⟨h3, _, _, _, h4, h5, _⟩ := h2
      simp [numbersB, h3, withinB]; omega
    · simp [numbersB, h2.1]
    · simp [numbersB, h2.1]
theorem made_domain {k : Nat} {d : Dom} (hd : s.domains[k]? = some d) : domainE s.domains.length d = 0 := by
  have hk := (List.getElem?_eq_some_iff.1 hd).1
  obtain ⟨h1, h2, h3⟩ := h.domains k d hd
  refine firstE_all fun e he => ?_
  simp only [List.mem_cons, List.not_mem_nil, or_false] at he
  rcases he with rfl | rfl
  · refine whenE_of ?_
    rcases h1 with h1 | h1
    · simp [h1]
    · rw [withinB_of (by omega) (by omega)]; simp
  · exact whenE_of (by rw [withinB_of (by omega) (by omega)]; rfl)
theorem made_device {k : Nat} {d : Dev} (hd : s.devs[k]? = some d) : deviceE s.clocks.length s.domains.length s.resets.length s.devs.length d = 0 ∧ manyE d = 0 := by
  have hk := (List.getElem?_eq_some_iff.1 hd).1
  obtain ⟨a1, a2, a3, a4, a5, a6, _, _, a7, _, a8, a9⟩ := h.devs k d hd
  refine ⟨firstE_all fun e he => ?_, ?_⟩
  · simp only [List.mem_cons, List.not_mem_nil, or_false] at he
    rcases he with rfl | rfl | rfl | rfl
    · exact whenE_of (by rw [withinB_of (by omega) (by omega)]; rfl)
    · exact whenE_of (by rw [withinB_of (by omega) (by omega)]; rfl)
    · exact whenE_of (by rw [withinB_of (by omega) (by omega)]; rfl)
    · refine firstE_all fun e he => ?_
      simp only [List.mem_map] at he
      obtain ⟨f, hf, rfl⟩ := he
      have := a9 f hf
      exact whenE_of (by rw [withinB_of (by omega) (by omega)]; rfl)
  · refine whenE_of ?_
    simp
    omega
theorem made_check : checkS s = 0 := by
  obtain ⟨o1, o2, o3⟩ := made_orders h
  refine firstE_all fun e he => ?_
  simp only [checkL, List.mem_cons, List.not_mem_nil, or_false] at he
  have h1 := h.nc
  have h2 := h.nd
  have h3 := h.nr
  have h4 := h.nv
  rcases he with rfl | rfl | rfl | rfl | rfl | rfl | rfl | rfl
  · rw [fullE, if_neg (by omega)]
    refine firstE_all fun e he => ?_
    obtain ⟨d, hd, rfl⟩ := List.mem_map.1 he
    obtain ⟨k, hk⟩ := List.getElem?_of_mem hd
    exact (made_device h hk).2
  · refine firstE_all fun e he => ?_
    obtain ⟨d, hd, rfl⟩ := List.mem_map.1 he
    obtain ⟨k, hk⟩ := List.getElem?_of_mem hd
    exact made_clock h hk
  · rw [cycE, o1]; rfl
  · refine firstE_all fun e he => ?_
    obtain ⟨d, hd, rfl⟩ := List.mem_map.1 he
    obtain ⟨k, hk⟩ := List.getElem?_of_mem hd
    exact made_domain h hk
  · rw [cycE, o2]; rfl
  · refine firstE_all fun e he => ?_
    obtain ⟨d, hd, rfl⟩ := List.mem_map.1 he
    have := h.resets d hd
    exact whenE_of (by rw [withinB_of (by omega) (by omega)]; rfl)
  · refine firstE_all fun e he => ?_
    obtain ⟨d, hd, rfl⟩ := List.mem_map.1 he
    obtain ⟨k, hk⟩ := List.getElem?_of_mem hd
    exact (made_device h hk).1
  · rw [cycE, o3]; rfl
end
/-- what the table asks of a chip -/
structure Soc.okT (s : Soc) : Prop where
  clocks : Fits Clk.fit s.clocks
  devs : Fits (Dev.fit s.clocks.length s.domains.length s.resets.length) s.devs
  nc : s.clocks.length ≤ 9
  nd : s.domains.length ≤ 4
  nr : s.resets.length ≤ 3
  nv : s.devs.length ≤ 4
  chk : checkS s = 0
  small : s.small
theorem Soc.made.okT {s : Soc} (h : s.made) : s.okT := ⟨h.clocks, h.devs, h.nc.2, h.nd.2, h.nr.2, h.nv.2, made_check h, made_small h⟩
end Go.Proofs.Ytbcfbafpeidifaa
/- The small logic: bools, and structs of plain cells, are the same. -/
namespace Go.Proofs.Ytbcfbafpeidifaa
set_option linter.all false
open Go.RowKit
def eqV : Value → Value → Bool
  | .int _ a, .int _ b => a == b
  | .bool a, .bool b => a == b
  | _, _ => false
def eqVs : List Value → List Value → Bool
  | [], [] => true
  | x :: xs, y :: ys => eqV x y && eqVs xs ys
  | _, _ => false
/-- the cells of a struct, each an int or a bool, one behind the other -/
def flatFs (P : Program) : List Field → Nat → List Value → List Value → Bool
  | [], _, [], [] => true
  | f :: fs, i, x :: xs, y :: ys => f.name != "_" && f.offset == i && (match P.underlying f.type, x, y with
      | some (.int _), .int kx _, .int ky _ => decide (kx = ky)
      | some .bool, .bool _, .bool _ => true
      | _, _, _ => false) && flatFs P fs (i + 1) xs ys
  | _, _, _, _ => false
section
variable {P : Program} {w : World}
theorem run_part_one {t : TypeId} {cs : Array Value} {i : Nat} {v : Value} {d : TypeDesc} (hu : P.underlying t = some d) (hd : (∃ k, d = .int k) ∨ d = .bool) (hx : cs[i]? = some v) : (part t cs i).run P w = .ok v w := by
  rcases hd with ⟨k, rfl⟩ | rfl <;> simp [part, isAgg, run_underlying hu, hx]
theorem run_eqFlat (d : Nat) (xs ys : Array Value) : ∀ (fs : List Field) (i : Nat), flatFs P fs i (xs.toList.drop i) (ys.toList.drop i) = true → (Op.eqFields (d + 1) xs ys fs).run P w = .ok (eqVs (xs.toList.drop i) (ys.toList.drop i)) w
  | [], i, h => by
    cases hx : xs.toList.drop i with
    | nil => cases hy : ys.toList.drop i with
      | nil => simp [Op.eqFields, eqVs]
      | cons y yr => rw [hx, hy] at h; simp [flatFs] at h
    | cons x xr => rw [hx] at h; simp [flatFs] at h
  | f :: fs, i, h => by
    cases hx : xs.toList.drop i with
    | nil => rw [hx] at h; simp [flatFs] at h
    | cons x xr =>
      cases hy : ys.toList.drop i with
      | nil => rw [hx, hy] at h; simp [flatFs] at h
      | cons y yr =>
        rw [hx, hy] at h
        simp only [flatFs, Bool.and_eq_true, bne_iff_ne, beq_iff_eq] at h
        obtain ⟨⟨⟨h1, h2⟩, h3⟩, h4⟩ := h
        have ex : xs[i]? = some x := by
          have : (xs.toList.drop i)[0]? = some x := by rw [hx]; rfl
          simpa using this
        have ey : ys[i]? = some y := by
          have : (ys.toList.drop i)[0]? = some y := by rw [hy]; rfl
          simpa using this
        have dx : xr = xs.toList.drop (i + 1) := by rw [← List.tail_drop, hx]; rfl
        have dy : yr = ys.toList.drop (i + 1) := by rw [← List.tail_drop, hy]; rfl
        subst dx
        subst dy
        have ih := run_eqFlat d xs ys fs (i + 1) h4
        have key : ∃ u, P.underlying f.type = some u ∧ ((∃ k, u = .int k) ∨ u = .bool) ∧ (Op.equalIn (d + 1) f.type x y).run P w = .ok (eqV x y) w := by
          split at h3
          · rename_i k kx a ky b hu
            have := of_decide_eq_true h3
            subst this
            exact ⟨_, hu, .inl ⟨_, rfl⟩, run_equalIn_int w d f.type kx _ a b hu⟩
          · rename_i a b hu
            exact ⟨_, hu, .inr rfl, run_equalIn_bool' w d f.type a b hu⟩
          · cases h3
        obtain ⟨u, hu, hk, he⟩ := key
        simp only [Op.eqFields, if_pos h1, Sem.run_bind, h2, run_part_one hu hk ex, run_part_one hu hk ey, Result.andThen_ok, he, Sem.run_ite, Sem.run_pure, ih, eqVs]
        cases eqV x y <;> simp
variable {N : Nat} {w0 : World} {e : Env} {R : List Piece} {H : List HP} {Q : Exit → Act → World → Prop} {ops : Array Oper} {rest : List Oper}
variable {d : Nat} {ty : TypeId} {pos : String} {aft : Array Edge}
def flatB (P : Program) (t : TypeId) (xs ys : List Value) : Bool := (match P.underlying t with
  | some (.struct fs) => flatFs P fs.toList 0 xs ys
  | _ => false) && !P.stoodInHeld t && !P.eqGuardType P.depth t
theorem run_eqS {t : TypeId} {xs ys : List Value} (h : flatB P t xs ys = true) : (Op.equal t (.agg xs.toArray) (.agg ys.toArray)).run P w = .ok (eqVs xs ys) w ∧ ∀ op x y, (eqGuard op t x y (.agg xs.toArray) (.agg ys.toArray)).run P w = .ok () w := by
  unfold flatB at h
  simp only [Bool.and_eq_true, Bool.not_eq_true'] at h
  obtain ⟨⟨h1, h2⟩, h3⟩ := h
  refine ⟨?_, fun op x y => run_eqGuard_agg w op t x y _ _ h3⟩
  split at h1
  · rename_i fs hu
    have hf : P.fieldsOf t = fs := by unfold Program.fieldsOf; rw [hu]
    have := run_equalIn_struct (P := P) w 9999 t xs.toArray ys.toArray (by rw [hf]; exact hu) h2
    unfold Op.equal Op.maxDepth
    rw [this, hf]
    have := run_eqFlat (P := P) (w := w) 9998 xs.toArray ys.toArray fs.toList 0 (by simpa using h1)
    simpa using this
  · cases h1
theorem xk_eqlS {x y : Operand} {t u : TypeId} {xs ys : List Value} (hf : flatB P t xs ys = true) (hx : e.ev x = some (.agg xs.toArray)) (hy : e.ev y = some (.agg ys.toArray)) (hd : d < N) (k : XK N w0 (wpList P ops Q rest) ((d, .bool (eqVs xs ys)) :: e) R H) :
    XK N w0 (wpList P ops Q (⟨some d, .binOp .eql t x y u, ty, pos, aft, none⟩ :: rest)) e R H := xk_pure hd (fun a w hr => by
  obtain ⟨h1, h2⟩ := run_eqS (w := w) hf
  simp [execOp, hr.ev hx, hr.ev hy, binOp, h1, h2]) k
theorem xk_neqS {x y : Operand} {t u : TypeId} {xs ys : List Value} (hf : flatB P t xs ys = true) (hx : e.ev x = some (.agg xs.toArray)) (hy : e.ev y = some (.agg ys.toArray)) (hd : d < N) (k : XK N w0 (wpList P ops Q rest) ((d, .bool (!eqVs xs ys)) :: e) R H) :
    XK N w0 (wpList P ops Q (⟨some d, .binOp .neq t x y u, ty, pos, aft, none⟩ :: rest)) e R H := xk_pure hd (fun a w hr => by
  obtain ⟨h1, h2⟩ := run_eqS (w := w) hf
  simp [execOp, hr.ev hx, hr.ev hy, binOp, h1, h2]) k
theorem xk_eqlB {x y : Operand} {t u : TypeId} {b c : Bool} (ht : P.underlying t = some .bool) (hx : e.ev x = some (.bool b)) (hy : e.ev y = some (.bool c)) (hd : d < N) (k : XK N w0 (wpList P ops Q rest) ((d, .bool (b == c)) :: e) R H) :
    XK N w0 (wpList P ops Q (⟨some d, .binOp .eql t x y u, ty, pos, aft, none⟩ :: rest)) e R H := xk_pure hd (fun a w hr => by
  simp [execOp, hr.ev hx, hr.ev hy, eqGuard, binOp, run_equal_bool w t b c ht]) k
end
end Go.Proofs.Ytbcfbafpeidifaa
/- wishes: rows of raw bits; whether wishes are the same; as the reference has them. -/
namespace Go.Proofs.Ytbcfbafpeidifaa
set_option linter.all false
open Go.RowKit
structure Wsh where
  d : List Bool
  c : List Bool
  l : List Bool
/-- wishes, as they lie in a piece -/
def WshR (p : Piece) (x : Wsh) (v : Value) : Prop := ∃ A1 k1 A2 k2 A3 k3, v = .agg #[.slice A1 x.d.length k1, .slice A2 x.c.length k2, .slice A3 x.l.length k3] ∧
  SlS p 1 A1 x.d.length (boolCells x.d) ∧ SlS p 1 A2 x.c.length (boolCells x.c) ∧ SlS p 1 A3 x.l.length (boolCells x.l)
theorem WshR.le {p q : Piece} {x : Wsh} {v : Value} (h : WshR p x v) (hl : p.Le q) : WshR q x v := by
  obtain ⟨A1, k1, A2, k2, A3, k3, h0, h1, h2, h3⟩ := h
  exact ⟨A1, k1, A2, k2, A3, k3, h0, h1.le hl, h2.le hl, h3.le hl⟩
/-- the call returns what R says, and leaves all that there was -/
def RtW (Rl : Value → World → World → Prop) (w : World) : Ending → World → Prop := fun y w' => (∃ v, y = .returned v ∧ Rl v w w') ∧ Below w.heap.size w w'
def sameB (a b : List Bool) : Bool := decide (a = b)
def Wsh.same (x y : Wsh) : Bool := sameB x.d y.d && sameB x.c y.c && sameB x.l y.l
end Go.Proofs.Ytbcfbafpeidifaa
/- wishes: whether they are alike; what is wished behind a step, and the reference's answer. -/
namespace Go.Proofs.Ytbcfbafpeidifaa
set_option linter.all false
open Go.RowKit
structure Wsh.sm (x : Wsh) : Prop where
  d : x.d.length ≤ 1000000
  c : x.c.length ≤ 1000000
  l : x.l.length ≤ 1000000
theorem boolCells_one (l : List Bool) : ∀ u ∈ boolCells l, u.oneCell' = true := by
  intro u hu
  simp only [boolCells, List.mem_map] at hu
  obtain ⟨x, _, rfl⟩ := hu
  rfl
structure Stp.ok (p : Stp) : Prop where
  pr : -9223372036854775808 ≤ p.pr ∧ p.pr ≤ 9223372036854775807
  msg : -9223372036854775808 ≤ p.msg ∧ p.msg ≤ 9223372036854775807
  id : 0 ≤ p.id ∧ p.id < 4294967296
  v : 0 ≤ p.v ∧ p.v < 4294967296

end Go.Proofs.Ytbcfbafpeidifaa
/- chapter 17's laws: their head; the steps of a chip that is made. -/
namespace Go.Proofs.Ytbcfbafpeidifaa
set_option linter.all false
open Go.RowKit
/-- a chip that a piece shows -/
structure SocP (p : Piece) (s : Soc) (A1 : Option Addr) (n1 : Nat) (A2 : Option Addr) (n2 : Nat) (A3 : Option Addr) (n3 : Nat) (A4 : Option Addr) (n4 : Nat) : Prop where
  clk : RsR (slq p) (ClkR (slq p)) 60 6 A1 n1 s.clocks
  dom : RsR (slq p) DomR 57 3 A2 n2 s.domains
  rst : RsR (slq p) RstR 64 1 A3 n3 s.resets
  dev : RsR (slq p) (DevR (slq p)) 67 6 A4 n4 s.devs
section
variable {p q : Piece} {w : World} {s : Soc} {A1 A2 A3 A4 : Option Addr} {n1 n2 n3 n4 : Nat}
theorem SocP.le (h : SocP p s A1 n1 A2 n2 A3 n3 A4 n4) (hl : p.Le q) : SocP q s A1 n1 A2 n2 A3 n3 A4 n4 :=
  ⟨h.clk.mono (slq_le hl) (fun _ _ => ClkR.mono (slq_le hl)), h.dom.mono (slq_le hl) (fun _ _ h => h), h.rst.mono (slq_le hl) (fun _ _ h => h), h.dev.mono (slq_le hl) (fun _ _ => DevR.mono (slq_le hl))⟩
theorem SocP.W (h : SocP p s A1 n1 A2 n2 A3 n3 A4 n4) (hl : p.Le (all w)) (hs : s.small) : SocW w s A1 n1 A2 n2 A3 n3 A4 n4 := ⟨(h.le hl).clk, (h.le hl).dom, (h.le hl).rst, (h.le hl).dev, hs⟩
theorem SocP.len (h : SocP p s A1 n1 A2 n2 A3 n3 A4 n4) : n1 = s.clocks.length ∧ n2 = s.domains.length ∧ n3 = s.resets.length ∧ n4 = s.devs.length := by
  obtain ⟨⟨_, _, h1, _⟩, ⟨_, _, h2, _⟩, ⟨_, _, h3, _⟩, ⟨_, _, h4, _⟩⟩ := h
  exact ⟨h1, h2, h3, h4⟩
theorem SocR.P {cs : Array Value} (h : SocR (slq p) s cs) : ∃ A1 n1 k1 A2 n2 k2 A3 n3 k3 A4 n4 k4, cs = #[.slice A1 n1 k1, .slice A2 n2 k2, .slice A3 n3 k3, .slice A4 n4 k4] ∧ SocP p s A1 n1 A2 n2 A3 n3 A4 n4 := by
  obtain ⟨A1, n1, k1, A2, n2, k2, A3, n3, k3, A4, n4, k4, h0, h1, h2, h3, h4⟩ := h
  exact ⟨A1, n1, k1, A2, n2, k2, A3, n3, k3, A4, n4, k4, h0, h1, h2, h3, h4⟩
end
def soc1 : Soc := ⟨[], [⟨-1, 0, false⟩], [], []⟩
theorem soc1_check : checkS soc1 = 0 := by rfl
theorem soc1_W {w : World} {g : Nat} (h : SlS (all w) 3 (some ⟨g, 0, none⟩) 1 [.int .i64 (-1), .int .i64 0, .bool false]) : SocW w soc1 none 0 (some ⟨g, 0, none⟩) 1 none 0 none 0 :=
  ⟨⟨[], trivial, rfl, SlS.nil _ _⟩, ⟨[[.int .i64 (-1), .int .i64 0, .bool false]], ⟨rfl, rfl, trivial⟩, rfl, h⟩, ⟨[], trivial, rfl, SlS.nil _ _⟩, ⟨[], trivial, rfl, SlS.nil _ _⟩,
    ⟨by decide, by decide, by decide, by decide, (fun c hc => by cases hc), (fun c hc => by cases hc)⟩⟩

end Go.Proofs.Ytbcfbafpeidifaa
/- The steps of a chip that is made: which stands ahead of which. No walk in sight; and rows, as a piece shows them. -/
namespace Go.Proofs.Ytbcfbafpeidifaa
set_option linter.all false
open Go.RowKit
/-- element k of a row that a piece shows -/
theorem RsR.rowP {α : Type} {p : Piece} {R : α → List Value → Prop} {t : TypeId} {sz n : Nat} {A : Option Addr} {es : List α} (h : RsR (slq p) R t sz A n es) {k : Nat} {e : α} (hk : es[k]? = some e) :
    ∃ b off r, A = some ⟨b, off, none⟩ ∧ p.Z b ∧ r.length = sz ∧ R e r ∧ ∀ f u, r[f]? = some u → p.w.cell? ⟨b, off + k * sz + f, none⟩ = some u := by
  obtain ⟨rows, h1, h2, h3⟩ := h
  have hlt : k < n := by
    rw [h2]
    rcases Nat.lt_or_ge k es.length with h | h
    · exact h
    · rw [List.getElem?_eq_none h] at hk; cases hk
  obtain ⟨b, off, hA, hb, hc⟩ := SlS.at_ h3 hlt
  obtain ⟨r, h4, h5, h6⟩ := h1.get hk
  refine ⟨b, off, r, hA, hb, h4, h5, fun f u hu => hc f u ?_⟩
  have hf : f < sz := by
    rw [← h4]
    rcases Nat.lt_or_ge f r.length with h | h
    · exact h
    · rw [List.getElem?_eq_none h] at hu; cases hu
  rw [h6 f hf, hu]
theorem Stp.cells_len (p : Stp) : p.cells.length = 4 := rfl
/-- step k of a row of steps -/
theorem SlS.step {p : Piece} {A : Option Addr} {L : List Stp} (h : SlS p 4 A L.length (L.flatMap Stp.cells)) {k : Nat} {x : Stp} (hk : L[k]? = some x) :
    ∃ b off, A = some ⟨b, off, none⟩ ∧ p.Z b ∧ ∀ f u, x.cells[f]? = some u → p.w.cell? ⟨b, off + k * 4 + f, none⟩ = some u := by
  have hlt := (List.getElem?_eq_some_iff.1 hk).1
  obtain ⟨b, off, hA, hb, hc⟩ := SlS.at_ h hlt
  refine ⟨b, off, hA, hb, fun f u hu => hc f u ?_⟩
  have hf : f < 4 := by
    rw [← Stp.cells_len x]
    rcases Nat.lt_or_ge f x.cells.length with h | h
    · exact h
    · rw [List.getElem?_eq_none h] at hu; cases hu
  rw [flat_get Stp.cells 4 L (fun _ _ => rfl) k f x hk hf, hu]
end Go.Proofs.Ytbcfbafpeidifaa
/- The steps from some wishes to others lead there, and are as many as those back. No walk in sight. -/
namespace Go.Proofs.Ytbcfbafpeidifaa
set_option linter.all false
open Go.RowKit
structure Wsh.of (x : Wsh) (s : Soc) : Prop where
  d : x.d.length = s.domains.length
  c : x.c.length = s.clocks.length
  l : x.l.length = s.resets.length
end Go.Proofs.Ytbcfbafpeidifaa
/- The small logic: several new blocks, in whatever order they come up. -/
namespace Go.Proofs.Ytbcfbafpeidifaa
set_option linter.all false
open Go.RowKit
/-- an operation that makes a block: its slot, the block's type and cells, what it yields -/
structure AL where
  d : Nat
  t : TypeId
  cs : List Value
  val : Nat → Value
def envA (al : Nat → AL) (g : Nat → Nat) (ds : List Nat) (e : Env) : Env := ds.map (fun i => ((al i).d, (al i).val (g i))) ++ e
def hpA (al : Nat → AL) (g : Nat → Nat) (ds : List Nat) (H : List HP) : List HP := ds.map (fun i => HP.blk (g i) (al i).t (al i).cs) ++ H
def markA (ds : List Nat) (l : Array Bool) : Array Bool := ds.foldr (fun i a => a.setIfInBounds i true) l
def subsN : List Nat → List (List Nat)
  | [] => [[]]
  | i :: l => (subsN l).map (i :: ·) ++ subsN l
theorem subsN_filter (p : Nat → Bool) : ∀ l : List Nat, l.filter p ∈ subsN l
  | [] => by simp [subsN]
  | i :: l => by
    unfold subsN
    rw [List.filter_cons]
    split
    · exact List.mem_append_left _ (List.mem_map_of_mem (subsN_filter p l))
    · exact List.mem_append_right _ (subsN_filter p l)
def readyA (ops : Array Oper) (idx : List Nat) (ex : List (List Nat)) (listed : Array Bool) : Bool :=
  (subsN idx).all fun sub => ex.contains sub || (!(Region.ready .any ops (markA sub listed)).isEmpty && (Region.ready .any ops (markA sub listed)).all fun j => idx.contains j && !sub.contains j)
theorem markA_perm {l1 l2 : List Nat} (h : l1.Perm l2) (l : Array Bool) : markA l1 l = markA l2 l := by
  induction h with
  | nil => rfl
  | cons x _ ih => show (markA _ l).setIfInBounds x true = _; rw [ih]; rfl
  | swap x y s =>
    show ((markA s l).setIfInBounds x true).setIfInBounds y true = ((markA s l).setIfInBounds y true).setIfInBounds x true
    by_cases hxy : x = y
    · rw [hxy]
    · exact Array.setIfInBounds_comm _ _ hxy
  | trans _ _ h1 h2 => exact h1.trans h2
section
variable {P : Program} {N : Nat} {w0 w : World} {e : Env} {R R0 : List Piece} {H H0 : List HP} {Q : Exit → Act → World → Prop} {ops : Array Oper} {m fuel : Nat} {listed : Array Bool} {K : Act → World → Prop}
variable {al : Nat → AL} {g g' : Nat → Nat}
theorem get_cons (k : Nat) (v : Value) (e : Env) (t : Nat) : Env.get ((k, v) :: e) t = if k = t then some v else e.get t := by
  show (match Nat.beq k t with | true => some v | false => Env.get e t) = _
  by_cases h : k = t
  · subst h; rw [if_pos rfl, Nat.beq_refl]
  · rw [if_neg h]
    cases hb : Nat.beq k t with
    | true => exact absurd (Nat.eq_of_beq_eq_true hb) h
    | false => rfl
theorem envA_perm {l1 l2 : List Nat} (h : l1.Perm l2) (hn : (l1.map fun i => (al i).d).Nodup) (t : Nat) : (envA al g l1 e).get t = (envA al g l2 e).get t := by
  induction h with
  | nil => rfl
  | cons x _ ih =>
    show Env.get ((_, _) :: envA al g _ e) t = Env.get ((_, _) :: envA al g _ e) t
    rw [get_cons, get_cons, ih (List.nodup_cons.1 (show ((al x).d :: List.map (fun i => (al i).d) _).Nodup from hn)).2]
  | swap x y s =>
    show Env.get ((_, _) :: (_, _) :: envA al g s e) t = Env.get ((_, _) :: (_, _) :: envA al g s e) t
    have hne : (al y).d ≠ (al x).d := fun he => (List.nodup_cons.1 (show ((al y).d :: (al x).d :: List.map (fun i => (al i).d) s).Nodup from hn)).1 (by rw [he]; exact List.mem_cons_self)
    simp only [get_cons]
    by_cases h1 : (al x).d = t
    · rw [if_pos h1, if_neg (fun h2 => hne (h2.trans h1.symm)), if_pos h1]
    · rw [if_neg h1, if_neg h1]
  | trans h1 h2 i1 i2 => exact (i1 hn).trans (i2 ((h1.map _).nodup_iff.1 hn))
theorem hpA_perm {l1 l2 : List Nat} (h : l1.Perm l2) : ∀ pre : List HP, St w0 R (pre ++ hpA al g l1 H) w → St w0 R (pre ++ hpA al g l2 H) w := by
  induction h with
  | nil => exact fun _ h => h
  | cons x _ ih =>
    intro pre st
    have := ih (pre ++ [HP.blk (g x) (al x).t (al x).cs]) (by rw [List.append_assoc]; exact st)
    rw [List.append_assoc] at this
    exact this
  | swap x y s =>
    intro pre st
    refine st.weak (fun _ hp => hp) (fun i => if i = pre.length then pre.length + 1 else if i = pre.length + 1 then pre.length else i) (fun i j _ _ he => ?_) (fun i p hi => ?_)
    · split at he <;> split at he <;> (try split at he) <;> (try split at he) <;> omega
    · change (pre ++ HP.blk (g x) (al x).t (al x).cs :: HP.blk (g y) (al y).t (al y).cs :: hpA al g s H)[i]? = some p at hi
      show (pre ++ HP.blk (g y) (al y).t (al y).cs :: HP.blk (g x) (al x).t (al x).cs :: hpA al g s H)[_]? = some p
      rcases Nat.lt_or_ge i pre.length with h | h
      · rw [if_neg (by omega), if_neg (by omega), List.getElem?_append_left h]
        rwa [List.getElem?_append_left h] at hi
      · obtain ⟨k, rfl⟩ : ∃ k, i = pre.length + k := ⟨i - pre.length, by omega⟩
        rw [List.getElem?_append_right (by omega), Nat.add_sub_cancel_left] at hi
        match k, hi with
        | 0, hi =>
          rw [if_pos (by omega), List.getElem?_append_right (by omega), Nat.add_sub_cancel_left]
          exact hi
        | 1, hi =>
          rw [if_neg (by omega), if_pos rfl, List.getElem?_append_right (by omega), Nat.sub_self]
          exact hi
        | k + 2, hi =>
          rw [if_neg (by omega), if_neg (by omega), List.getElem?_append_right (by omega), Nat.add_sub_cancel_left]
          exact hi
  | trans _ _ i1 i2 => exact fun pre st => i2 pre (i1 pre st)
/-- the operation makes the block, wherever the slots are so -/
def Makes (P : Program) (N : Nat) (e : Env) (o : Oper) (x : AL) : Prop := ∀ a w, Rep N e a → (execOp a.eval o).run P w = .ok (.value (x.val w.heap.size)) (w.alloc (.cells x.cs.toArray x.t))
theorem makes_make (bytes : Nat) {x y : Operand} {t el ty : TypeId} {d n : Nat} {z : Value} {pos : String} {aft : Array Edge} {kd kd' : IntKind} (ht : P.underlying t = some (.slice el)) (hT : (P.info? el).map (fun i => (i.zero, i.size, i.bytes)) = some (some z, 1, bytes)) (hzc : z.cells = #[z]) (hx : e.ev x = some (.int kd (n : Int))) (hy : e.ev y = some (.int kd' (n : Int)))
    (hb : bytes * n ≤ 281474976710656) (hn : (n : Int) ≤ 9223372036854775807) : Makes P N e ⟨some d, .makeSlice t x y, ty, pos, aft, none⟩ ⟨d, el, List.replicate n z, fun g => .slice (some ⟨g, 0, none⟩) n n⟩ := fun a w hr => by
  obtain ⟨i, hi, he⟩ := Option.map_eq_some_iff.1 hT
  simp only [Prod.mk.injEq] at he
  obtain ⟨h1, h2, rfl⟩ := he
  have := run_make (P := P) w t el i z ht hi h1 kd kd' n n (by omega) (Int.le_refl _) (by rw [← Int.natCast_mul]; omega) hn
  have hm : madeCells z.cells (n * i.size) = (List.replicate n z).toArray := by
    rw [h2, Nat.mul_one, hzc]
    unfold madeCells
    apply Array.ext
    · simp
    · intro j h1 h2
      simp
      rw [Nat.mod_one]
      rfl
  simp only [Int.toNat_natCast, hm] at this
  simp only [execOp, hr.ev hx, hr.ev hy, Sem.run_bind, this, Result.andThen_ok, Sem.run_pure]
structure ALok (P : Program) (N : Nat) (ops : Array Oper) (e : Env) (x : AL) (i : Nat) : Prop where
  ok : ∃ o, ops[i]? = some o ∧ o.guard = none ∧ o.dst = some x.d ∧ Makes P N e o x
  lt : x.d < N
  new : e.get x.d = none
theorem ALok.of {o : Oper} {x : AL} {i : Nat} (h1 : ops[i]? = some o) (h2 : o.guard = none) (h3 : o.dst = some x.d) (h4 : Makes P N e o x) (h5 : x.d < N) (h6 : e.get x.d = none) : ALok P N ops e x i := ⟨⟨o, h1, h2, h3, h4⟩, h5, h6⟩
theorem envA_old {ds : List Nat} (hn : ∀ i ∈ ds, e.get (al i).d = none) {t : Nat} {v : Value} (h : e.get t = some v) : (envA al g ds e).get t = some v := by
  induction ds with
  | nil => exact h
  | cons i ds ih =>
    show Env.get ((_, _) :: envA al g ds e) t = some v
    rw [get_cons, if_neg (fun he => by have := hn i (by simp); rw [he, h] at this; cases this)]
    exact ih fun j hj => hn j (by simp [hj])
theorem Rep.envA_base {a : Act} {ds : List Nat} (hn : ∀ i ∈ ds, e.get (al i).d = none) (h : Rep N (envA al g ds e) a) : Rep N e a := ⟨h.size, h.defers, fun t v ht => h.get t v (envA_old hn ht)⟩
theorem St.unA {ds : List Nat} (h : St w0 R (hpA al g ds H) w) : St w0 R H w := h.weak (fun _ hp => hp) (fun i => i + ds.length) (fun i j _ _ he => by omega) (fun i p hi => by
  show (ds.map _ ++ H)[i + ds.length]? = some p
  rw [List.getElem?_append_right (by simp)]
  simpa using hi)
theorem XA.allocs (idx : List Nat) (ex : List (List Nat)) (al : Nat → AL) (hok : ∀ i ∈ idx, ALok P N ops e (al i) i) (hd : (idx.map fun i => (al i).d).Nodup) (hr : readyA ops idx ex listed = true) (hS : ∀ w, St w0 R H w → St w0 R0 H0 w)
    (k : ∀ sub ∈ subsN idx, ex.contains sub = true → ∀ g : Nat → Nat, XA P N w0 ops Q R0 H0 m (fuel + (idx.length - sub.length)) (markA sub listed) (envA al g sub e) R (hpA al g sub H)) : XA P N w0 ops Q R0 H0 m (fuel + idx.length) listed e R H := by
  have hni : idx.Nodup := (List.pairwise_map.1 hd).imp fun h e => h (by rw [e])
  have key : ∀ (n : Nat) (ds : List Nat) (g : Nat → Nat), ds.Nodup → (∀ i ∈ ds, i ∈ idx) → ds.length + n = idx.length → XA P N w0 ops Q R0 H0 m (fuel + n) (markA ds listed) (envA al g ds e) R (hpA al g ds H) := by
    intro n
    induction n with
    | zero =>
      intro ds g hn hin hl
      have hperm : (idx.filter fun i => ds.contains i).Perm ds := by
        rw [List.perm_iff_count]
        intro a
        rw [(hni.sublist List.filter_sublist).count, hn.count]
        by_cases ha : a ∈ ds
        · rw [if_pos ha, if_pos (by simp [ha, hin a ha])]
        · rw [if_neg ha, if_neg (by simp [ha])]
      have hlen := hperm.length_eq
      have heq : (idx.filter fun i => ds.contains i) = idx := List.filter_sublist.eq_of_length (by omega)
      have hr1 := List.all_eq_true.1 hr _ (subsN_filter (fun i => ds.contains i) idx)
      rw [Bool.or_eq_true] at hr1
      rcases hr1 with hc | hc
      · have h := k _ (subsN_filter _ idx) hc g
        rw [markA_perm hperm, show fuel + (idx.length - (idx.filter fun i => ds.contains i).length) = fuel + 0 by omega] at h
        exact fun up a w hrp st => h up a w ⟨hrp.size, hrp.defers, fun t v ht => hrp.get t v (by rw [← envA_perm hperm (by rw [heq]; exact hd)]; exact ht)⟩ (hpA_perm hperm.symm [] st)
      · exfalso
        rw [Bool.and_eq_true, List.all_eq_true] at hc
        obtain ⟨h1, h2⟩ := hc
        rw [heq] at h1 h2
        cases hrd : Region.ready .any ops (markA idx listed) with
        | nil => rw [hrd] at h1; cases h1
        | cons j js =>
          rw [hrd] at h2
          have := h2 j (by simp)
          simp at this
    | succ n ih =>
      intro ds g hn hin hl
      have hperm : (idx.filter fun i => ds.contains i).Perm ds := by
        rw [List.perm_iff_count]
        intro a
        rw [(hni.sublist List.filter_sublist).count, hn.count]
        by_cases ha : a ∈ ds
        · rw [if_pos ha, if_pos (by simp [ha, hin a ha])]
        · rw [if_neg ha, if_neg (by simp [ha])]
      have hlen := hperm.length_eq
      have hr1 := List.all_eq_true.1 hr _ (subsN_filter (fun i => ds.contains i) idx)
      rw [Bool.or_eq_true] at hr1
      rcases hr1 with hc | hc
      · have h := k _ (subsN_filter _ idx) hc g
        rw [markA_perm hperm, show fuel + (idx.length - (idx.filter fun i => ds.contains i).length) = fuel + (n + 1) by omega] at h
        have hnd : ((idx.filter fun i => ds.contains i).map fun i => (al i).d).Nodup := hd.sublist (List.filter_sublist.map _)
        exact fun up a w hrp st => h up a w ⟨hrp.size, hrp.defers, fun t v ht => hrp.get t v (by rw [← envA_perm hperm hnd]; exact ht)⟩ (hpA_perm hperm.symm [] st)
      · rw [Bool.and_eq_true, List.all_eq_true, markA_perm hperm] at hc
        obtain ⟨h1, h2⟩ := hc
        intro up a w hrp st
        show wpAnyX P ops Q (St w0 R0 H0) m ((fuel + n) + 1) (markA ds listed) a w
        refine ⟨(fun h => by rw [h] at h1; exact absurd h1 (by decide)), fun j hj => ?_⟩
        have hj2 := h2 j hj
        simp only [Bool.and_eq_true, Bool.not_eq_true', List.contains_eq_mem, decide_eq_true_eq, decide_eq_false_iff_not, List.mem_filter, not_and] at hj2
        have hjd : j ∉ ds := hj2.2 hj2.1
        obtain ⟨⟨o, ho, hog, hod, hmk⟩, hlt, hnew⟩ := hok j hj2.1
        have hrun := hmk a w (hrp.envA_base fun i hi => (hok i (hin i hi)).new)
        let g' : Nat → Nat := fun i => if i = j then w.heap.size else g i
        have hg1 : envA al g' (j :: ds) e = ((al j).d, (al j).val w.heap.size) :: envA al g ds e := by
          show ((al j).d, (al j).val (g' j)) :: (ds.map _ ++ e) = _
          rw [show g' j = w.heap.size from if_pos rfl]
          congr 1
          unfold envA
          congr 1
          refine List.map_congr_left fun i hi => ?_
          rw [show g' i = g i from if_neg (fun he : i = j => hjd (he ▸ hi))]
        have hg2 : hpA al g' (j :: ds) H = HP.blk w.heap.size (al j).t (al j).cs :: hpA al g ds H := by
          show HP.blk (g' j) _ _ :: (ds.map _ ++ H) = _
          rw [show g' j = w.heap.size from if_pos rfl]
          congr 1
          unfold hpA
          congr 1
          refine List.map_congr_left fun i hi => ?_
          rw [show g' i = g i from if_neg (fun he : i = j => hjd (he ▸ hi))]
        have st' : St w0 R (hpA al g' (j :: ds) H) (w.alloc (.cells (al j).cs.toArray (al j).t)) := by
          rw [hg2]
          exact st.new (alloc_below w _) (fresh_blk w _ _)
        have h := ih (j :: ds) g' (List.nodup_cons.2 ⟨hjd, hn⟩) (fun i hi => by
          rcases List.mem_cons.1 hi with rfl | hi
          · exact hj2.1
          · exact hin i hi) (by simp only [List.length_cons]; omega)
        rw [hg1] at h
        have hfin := h (up.set_ hj) (a.put (some (al j).d) ((al j).val w.heap.size)) _ (hrp.put hlt _) st'
        unfold wpOp
        simp only [ho]
        have hw : Region.wanted o (yielded ops a.tmps) = true := by simp [Region.wanted, hog]
        simp only [hw, if_true, Oper.wp, hrun, Oper.upon, hod]
        exact .inl ⟨fun _ => hS _ st'.unA, hfin⟩
  have := key idx.length [] (fun _ => 0) List.nodup_nil (fun i hi => by cases hi) (by simp)
  exact this
end
end Go.Proofs.Ytbcfbafpeidifaa
/- What devices in use want, in plain words. No walk in sight. -/
namespace Go.Proofs.Ytbcfbafpeidifaa
set_option linter.all false
open Go.RowKit
/-- a clock, and what it comes from -/
def chainN (s : Soc) : Nat → Nat → List Nat
  | 0, _ => []
  | k + 1, c => match s.clocks[c]? with
    | some x => c :: (match x.src with
      | [] => []
      | f :: _ => chainN s k f.toNat)
    | none => []
def chainL (s : Soc) (c : Nat) : List Nat := chainN s s.clocks.length c
theorem chainN_len (s : Soc) : ∀ (k c : Nat), (chainN s k c).length ≤ k
  | 0, c => by simp [chainN]
  | k + 1, c => by
    unfold chainN
    split
    · rename_i x hx
      split
      · simp
      · rename_i f fs hs
        have := chainN_len s k f.toNat
        simp only [List.length_cons]
        omega
    · simp
theorem chainN_cons {s : Soc} {k c : Nat} {x : Clk} (h : s.clocks[c]? = some x) : chainN s (k + 1) c = c :: (match x.src with
      | [] => []
      | f :: _ => chainN s k f.toNat) := by
  show (match s.clocks[c]? with | some x => _ | none => _) = _
  rw [h]
def UpsR (s : Soc) : Int → List Nat → Prop
  | d, [] => d = -1
  | d, i :: r => d = (i : Int) ∧ ∃ x, s.domains[i]? = some x ∧ UpsR s x.above r
/-- what is above one of the row is of the row -/
theorem UpsR.up {s : Soc} : ∀ {l : List Nat} {d : Int}, UpsR s d l → ∀ i ∈ l, ∀ x, s.domains[i]? = some x → 0 ≤ x.above → x.above.toNat ∈ l
  | [], _, _, i, h, _, _, _ => by cases h
  | j :: l, _, ⟨_, y, hy, hr⟩, i, h, x, hx, h0 => by
    rcases List.mem_cons.1 h with rfl | h
    · rw [hy] at hx
      cases hx
      cases l with
      | nil => have h2 : y.above = -1 := hr; omega
      | cons k l =>
        have h2 : y.above = (k : Int) := hr.1
        rw [h2]
        simp
    · exact List.mem_cons_of_mem _ (hr.up i h x hx h0)
def zeroW (s : Soc) : Wsh := ⟨List.replicate s.domains.length false, List.replicate s.clocks.length false, List.replicate s.resets.length false⟩
theorem Wsh.of.sm {x : Wsh} {s : Soc} (h : x.of s) (hm : s.made) : x.sm := by
  have h1 := hm.nc; have h2 := hm.nd; have h3 := hm.nr
  exact ⟨by rw [h.d]; omega, by rw [h.c]; omega, by rw [h.l]; omega⟩
end Go.Proofs.Ytbcfbafpeidifaa
/- The small logic: parts of structs and arrays that are values. -/
namespace Go.Proofs.Ytbcfbafpeidifaa
set_option linter.all false
open Go.RowKit
/-- a part that is itself many cells: where, and how many -/
def aggP (P : Program) (t : TypeId) : Option Nat := match P.underlying t with
  | some (.struct _) => (P.info? t).map (·.size)
  | some (.array _ _) => (P.info? t).map (·.size)
  | _ => none
def arrI (P : Program) (t : TypeId) : Option (Nat × Nat) := match P.underlying t with
  | some (.array len el) => (aggP P el).map fun n => (len, n)
  | _ => none
section
variable {P : Program} {N : Nat} {w0 w : World} {e : Env} {R : List Piece} {H : List HP} {Q : Exit → Act → World → Prop} {ops : Array Oper} {rest : List Oper}
variable {d : Nat} {ty : TypeId} {pos : String} {aft : Array Edge}
theorem run_partA {t : TypeId} {n off : Nat} {cs : Array Value} (h : aggP P t = some n) : (part t cs off).run P w = .ok (.agg (cs.extract off (off + n))) w := by
  unfold aggP at h
  split at h
  · rename_i hu
    obtain ⟨i, hi, rfl⟩ := Option.map_eq_some_iff.1 h
    simp [part, isAgg, run_underlying hu, sizeOf, typeInfo, hi]
  · rename_i hu
    obtain ⟨i, hi, rfl⟩ := Option.map_eq_some_iff.1 h
    simp [part, isAgg, run_underlying hu, sizeOf, typeInfo, hi]
  · cases h
theorem run_indexA {t : TypeId} {len n k : Nat} {kd : IntKind} {j : Int} {cs : Array Value} (h : arrI P t = some (len, n)) (hj : j = (k : Int)) (hk : k < len) : (Instr.index t (.agg cs) (.int kd j)).run P w = .ok (.agg (cs.extract (k * n) (k * n + n))) w := by
  subst hj
  unfold arrI at h
  split at h
  · rename_i l el hu
    obtain ⟨m, hm, he⟩ := Option.map_eq_some_iff.1 h
    simp only [Prod.mk.injEq] at he
    obtain ⟨rfl, rfl⟩ := he
    have hsz : (sizeOf el).run P w = .ok m w := by
      unfold aggP at hm
      split at hm
      · obtain ⟨i, hi, rfl⟩ := Option.map_eq_some_iff.1 hm; simp [sizeOf, typeInfo, hi]
      · obtain ⟨i, hi, rfl⟩ := Option.map_eq_some_iff.1 hm; simp [sizeOf, typeInfo, hi]
      · cases hm
    simp [Instr.index, asIntOf, run_underlying hu, hk, hsz, run_partA hm]
  · cases h
theorem xk_indexA (k : Nat) {x ix : Operand} {t : TypeId} {len n : Nat} {kd : IntKind} {j : Int} {cs vs : List Value} (h : arrI P t = some (len, n)) (hx : e.ev x = some (.agg cs.toArray)) (hi : e.ev ix = some (.int kd j)) (hj : j = (k : Int)) (hk : k < len) (hv : (cs.drop (k * n)).take n = vs) (hd : d < N) (kk : XK N w0 (wpList P ops Q rest) ((d, .agg vs.toArray) :: e) R H) :
    XK N w0 (wpList P ops Q (⟨some d, .index t x ix, ty, pos, aft, none⟩ :: rest)) e R H := xk_pure hd (fun a w hr => by
  simp only [execOp, hr.ev hx, hr.ev hi, Sem.run_bind, run_indexA h hj hk, Result.andThen_ok, Sem.run_pure]
  simp [← hv, List.extract_toArray, List.extract_eq_take_drop]) kk
end
end Go.Proofs.Ytbcfbafpeidifaa
/- table.Start: no wishes. -/
namespace Go.Proofs.Ytbcfbafpeidifaa
set_option linter.all false
open Go.RowKit
/-- what both agents wish, as it lies in a piece -/
def StR (p : Piece) (x y : Wsh) (v : Value) : Prop := ∃ A1 k1 A2 k2 A3 k3 B1 m1 B2 m2 B3 m3, v = .agg #[.slice A1 x.d.length k1, .slice A2 x.c.length k2, .slice A3 x.l.length k3, .slice B1 y.d.length m1, .slice B2 y.c.length m2, .slice B3 y.l.length m3] ∧
  SlS p 1 A1 x.d.length (boolCells x.d) ∧ SlS p 1 A2 x.c.length (boolCells x.c) ∧ SlS p 1 A3 x.l.length (boolCells x.l) ∧ SlS p 1 B1 y.d.length (boolCells y.d) ∧ SlS p 1 B2 y.c.length (boolCells y.c) ∧ SlS p 1 B3 y.l.length (boolCells y.l)
theorem StR.le {p q : Piece} {x y : Wsh} {v : Value} (h : StR p x y v) (hl : p.Le q) : StR q x y v := by
  obtain ⟨A1, k1, A2, k2, A3, k3, B1, m1, B2, m2, B3, m3, h0, h1, h2, h3, h4, h5, h6⟩ := h
  exact ⟨A1, k1, A2, k2, A3, k3, B1, m1, B2, m2, B3, m3, h0, h1.le hl, h2.le hl, h3.le hl, h4.le hl, h5.le hl, h6.le hl⟩
/-- the first i agents' wishes are none -/
def StC (s : Soc) (p : Piece) : Nat → List Value → Prop
  | 0, cs => cs = [.slice none 0 0, .slice none 0 0, .slice none 0 0, .slice none 0 0, .slice none 0 0, .slice none 0 0]
  | 1, cs => ∃ a b c, cs = [a, b, c, .slice none 0 0, .slice none 0 0, .slice none 0 0] ∧ WshR p (zeroW s) (.agg #[a, b, c])
  | _, cs => ∃ a b c a' b' c', cs = [a, b, c, a', b', c'] ∧ WshR p (zeroW s) (.agg #[a, b, c]) ∧ WshR p (zeroW s) (.agg #[a', b', c'])
theorem StC.len {s : Soc} {p : Piece} : ∀ {i : Nat} {cs : List Value}, StC s p i cs → cs.length = 6
  | 0, _, h => by rw [show _ = _ from h]; rfl
  | 1, _, ⟨_, _, _, h, _⟩ => by rw [h]; rfl
  | _ + 2, _, ⟨_, _, _, _, _, _, h, _⟩ => by rw [h]; rfl
theorem StC.next {s : Soc} {p q : Piece} (hl : p.Le q) {a b c : Value} (hw : WshR q (zeroW s) (.agg #[a, b, c])) {i : Nat} {cs : List Value} (hi : i < 2) (h : StC s p i cs) : StC s q (i + 1) (putN cs (i * 3) [a, b, c]) := by
  obtain rfl | rfl : i = 0 ∨ i = 1 := by omega
  · have h0 : cs = [.slice none 0 0, .slice none 0 0, .slice none 0 0, .slice none 0 0, .slice none 0 0, .slice none 0 0] := h
    subst h0
    exact ⟨a, b, c, rfl, hw⟩
  · obtain ⟨a1, b1, c1, h0, h1⟩ := h
    subst h0
    exact ⟨a1, b1, c1, a, b, c, rfl, WshR.le h1 hl, hw⟩

theorem start_any (s : Soc) (A1 A2 A3 A4 : Option Addr) (k1 k2 k3 k4 : Nat) (w : World) (hm : s.okT) :
    Calls Try.prog 8 #[.agg #[.slice A1 s.clocks.length k1, .slice A2 s.domains.length k2, .slice A3 s.resets.length k3, .slice A4 s.devs.length k4]] w (RtW (fun v w w' => StR (fresh w w') (zeroW s) (zeroW s) v) w) := by
  have hn9 := hm.nc
  have hn4 := hm.nd
  have hn3 := hm.nr
  refine XK.enter (vs := [.agg #[.slice A1 s.clocks.length k1, .slice A2 s.domains.length k2, .slice A3 s.resets.length k3, .slice A4 s.devs.length k4]]) Try.func8 rfl Try.ntmps8 (by simp) ?_
  refine XK.seq ?_

  refine XK.region ?_
  refine xk_box rfl (by decide) fun g1 => ?_
  refine xk_alloc (cs := [.slice none 0 0, .slice none 0 0, .slice none 0 0, .slice none 0 0, .slice none 0 0, .slice none 0 0]) (zeroB_of (by kernel_rfl)) (by decide) fun g2 => ?_
  refine XK.nilN ?_
  refine XK.seq ?_

  refine XK.region ?_
  refine xk_alloc (cs := [.slice none 0 0, .slice none 0 0, .slice none 0 0, .slice none 0 0, .slice none 0 0, .slice none 0 0]) (zeroB_of (by kernel_rfl)) (by decide) fun g3 => ?_
  refine XK.nilN ?_
  refine XK.seq ?_
  refine XK.seq ?_

  refine XK.region ?_
  refine xk_move rfl (by decide) ?_
  refine XK.nilN ?_
  refine XK.envS [(5, .int .i64 0), (3, .pointer (some ⟨g3, 0, none⟩)), (2, .pointer (some ⟨g2, 0, none⟩)), (1, .pointer (some ⟨g1, 0, none⟩))] ?_
  refine XK.piece ⟨w, fun _ => False⟩ (by simp) (fun _ h => h.elim) ?_
  refine XK.block ?_
  refine XK.loop (fun m e R H => ∃ (i : Nat) (cs : List Value) (qs : Piece), i ≤ 2 ∧ m = 2 - i ∧ StC s qs i cs ∧ Fresh w qs ∧ e = [(5, .int .i64 i), (3, .pointer (some ⟨g3, 0, none⟩)), (2, .pointer (some ⟨g2, 0, none⟩)), (1, .pointer (some ⟨g1, 0, none⟩))] ∧ R = [qs, all w] ∧ H = [HP.blk g3 37 cs, HP.blk g2 37 [.slice none 0 0, .slice none 0 0, .slice none 0 0, .slice none 0 0, .slice none 0 0, .slice none 0 0], HP.blk g1 30 [.slice A1 s.clocks.length k1, .slice A2 s.domains.length k2, .slice A3 s.resets.length k3, .slice A4 s.devs.length k4]]) 2 ⟨0, _, ⟨w, fun _ => False⟩, by omega, rfl, rfl, (fun _ h => h.elim), rfl, rfl, rfl⟩ fun m e R H hI => ?_
  obtain ⟨i, cs, qs, hi2, rfl, hcs, hfrs, rfl, rfl, rfl⟩ := hI
  refine XK.seq ?_

  refine XK.region ?_
  refine xk_lss rfl rfl (by decide) ?_
  refine XK.nilN ?_
  refine XK.seq ?_
  refine XK.if_ rfl (fun h => ?_) (fun h => ?_)
  ·
    refine XK.skip ?_
    refine XK.norm ?_
    refine XK.seq ?_
    refine XK.block ?_
    refine XK.seq ?_

    refine XK.region ?_
    refine xk_move rfl (by decide) ?_
    refine xk_assign rfl (by decide) ?_
    refine XK.nilN ?_

    refine XK.draw 15 (by kernel_rfl) (by kernel_rfl) ?_
    refine XA.dA 0 rfl rfl rfl (does_move rfl) ?_
    refine XA.dA 1 rfl rfl rfl (does_field (off := 1) (by kernel_rfl) rfl) ?_
    refine XA.dA 2 rfl rfl rfl (does_ld rfl) ?_
    refine XA.dA 3 rfl rfl rfl (does_len (el := 57) (by kernel_rfl) rfl) ?_
    refine XA.dA 5 rfl rfl rfl (does_field (off := 0) (by kernel_rfl) rfl) ?_
    refine XA.dA 6 rfl rfl rfl (does_ld rfl) ?_
    refine XA.dA 7 rfl rfl rfl (does_len (el := 60) (by kernel_rfl) rfl) ?_
    refine XA.dA 9 rfl rfl rfl (does_field (off := 2) (by kernel_rfl) rfl) ?_
    refine XA.dA 10 rfl rfl rfl (does_ld rfl) ?_
    refine XA.dA 11 rfl rfl rfl (does_len (el := 64) (by kernel_rfl) rfl) ?_
    refine XA.dA 14 rfl rfl rfl (does_field (off := 0) (by kernel_rfl) rfl) ?_
    refine XA.allocs (fuel := 3) [4, 8, 12] [[4, 8, 12]] (fun i => match i with | 4 => ⟨12, 4, List.replicate s.domains.length (.bool false), fun g => .slice (some ⟨g, 0, none⟩) s.domains.length s.domains.length⟩ | 8 => ⟨16, 4, List.replicate s.clocks.length (.bool false), fun g => .slice (some ⟨g, 0, none⟩) s.clocks.length s.clocks.length⟩ | _ => ⟨20, 4, List.replicate s.resets.length (.bool false), fun g => .slice (some ⟨g, 0, none⟩) s.resets.length s.resets.length⟩) (fun i hi => ?_) (by show [12, 16, 20].Nodup; decide) (by kernel_rfl) (fun _ h => h) (fun sub hsub hex g => ?_)
    · simp only [List.mem_cons, List.not_mem_nil, or_false] at hi
      rcases hi with rfl | rfl | rfl
      · exact ALok.of rfl rfl rfl (makes_make 1 (el := 4) (z := .bool false) (by kernel_rfl) (by kernel_rfl) rfl rfl rfl (by omega) (by omega)) (Nat.le_of_ble_eq_true rfl) rfl
      · exact ALok.of rfl rfl rfl (makes_make 1 (el := 4) (z := .bool false) (by kernel_rfl) (by kernel_rfl) rfl rfl rfl (by omega) (by omega)) (Nat.le_of_ble_eq_true rfl) rfl
      · exact ALok.of rfl rfl rfl (makes_make 1 (el := 4) (z := .bool false) (by kernel_rfl) (by kernel_rfl) rfl rfl rfl (by omega) (by omega)) (Nat.le_of_ble_eq_true rfl) rfl
    have hs2 : sub = [4, 8, 12] := by simpa using hex
    have er : ∀ n : Nat, List.replicate n (Value.bool false) = boolCells (List.replicate n false) := fun n => by simp [boolCells]
    have hi : i < 2 := by have h' : (i : Int) < 2 := h; omega
    have hlen := hcs.len
    subst hs2
    dsimp only [envA, hpA, markA, List.map, List.foldr, List.cons_append, List.nil_append, List.length_cons, List.length_nil, Nat.reduceAdd, Nat.reduceSub]
    refine XA.do_ 13 rfl rfl rfl (by decide) (does_buildS (zs := [.slice none 0 0, .slice none 0 0, .slice none 0 0]) (L := [(0, 1), (1, 1), (2, 1)]) (zeroB_of (by kernel_rfl)) (by kernel_rfl) rfl (by simp [fillL, setN, Value.cells]; rfl)) (by kernel_rfl) (fun _ _ _ h => h) (fun _ h => h.tail.tail.tail) ?_
    refine XA.next 15 rfl (by kernel_rfl) ?_
    refine xk_atA i (i * 3) (el := 34) (sz := 3) (by kernel_rfl) (by kernel_rfl) rfl rfl rfl hi (by omega) (by decide) ?_
    refine XA.bt ?_
    refine XA.next 16 rfl (by kernel_rfl) ?_
    refine xk_storeN 3 rfl rfl rfl (by kernel_rfl) (by simp [Value.cells, Value.oneCell']) (by simp [Value.cells]; omega) ?_
    dsimp only [List.set]
    rw [show (Value.agg [.slice (some ⟨g 4, 0, none⟩) s.domains.length s.domains.length, .slice (some ⟨g 8, 0, none⟩) s.clocks.length s.clocks.length, .slice (some ⟨g 12, 0, none⟩) s.resets.length s.resets.length].toArray).cells.toList = [.slice (some ⟨g 4, 0, none⟩) s.domains.length s.domains.length, .slice (some ⟨g 8, 0, none⟩) s.clocks.length s.clocks.length, .slice (some ⟨g 12, 0, none⟩) s.resets.length s.resets.length] from rfl]
    refine XA.bt ?_
    refine XA.done (by kernel_rfl) ?_
    refine XK.norm ?_
    refine XK.region ?_
    refine xk_add rfl rfl (wrap_in (by omega)) (by decide) ?_
    refine xk_move rfl (by decide) ?_
    refine XK.nilN ?_
    refine XK.still [qs] [0, 1, 2] [3, 4, 5] (by simp) rfl (by decide) (by decide) fun qn hqn hle hfr => ?_
    have hfn := hfr (by simp) (fun p hp => by simp only [List.mem_cons, List.not_mem_nil, or_false] at hp; subst hp; exact hfrs)
    have b1 : SlS qn 1 (some ⟨g 4, 0, none⟩) (s.domains.length) (List.replicate (s.domains.length) (Value.bool false)) := SlS.of_blk (n := s.domains.length) (sz := 1) (c := 0) (hqn 0 _ (by simp) rfl).choose_spec.1 (hqn 0 _ (by simp) rfl).choose_spec.2 (by simp)
    have b2 : SlS qn 1 (some ⟨g 8, 0, none⟩) (s.clocks.length) (List.replicate (s.clocks.length) (Value.bool false)) := SlS.of_blk (n := s.clocks.length) (sz := 1) (c := 0) (hqn 1 _ (by simp) rfl).choose_spec.1 (hqn 1 _ (by simp) rfl).choose_spec.2 (by simp)
    have b3 : SlS qn 1 (some ⟨g 12, 0, none⟩) (s.resets.length) (List.replicate (s.resets.length) (Value.bool false)) := SlS.of_blk (n := s.resets.length) (sz := 1) (c := 0) (hqn 2 _ (by simp) rfl).choose_spec.1 (hqn 2 _ (by simp) rfl).choose_spec.2 (by simp)
    rw [er] at b1 b2 b3
    have hww : WshR qn (zeroW s) (.agg #[.slice (some ⟨g 4, 0, none⟩) s.domains.length s.domains.length, .slice (some ⟨g 8, 0, none⟩) s.clocks.length s.clocks.length, .slice (some ⟨g 12, 0, none⟩) s.resets.length s.resets.length]) := by
      unfold WshR zeroW
      simp only [List.length_replicate]
      exact ⟨_, _, _, _, _, _, rfl, b1, b2, b3⟩
    refine XK.weakR (R' := [qn, all w]) (by simp) ?_
    exact XK.envS [(5, .int .i64 ((i : Int) + 1)), (3, .pointer (some ⟨g3, 0, none⟩)), (2, .pointer (some ⟨g2, 0, none⟩)), (1, .pointer (some ⟨g1, 0, none⟩))] (XK.round (2 - (i + 1)) (by omega) ⟨i + 1, _, qn, by omega, rfl, StC.next (hle qs (by simp)) hww hi hcs, hfn, rfl, rfl, rfl⟩)

  ·
    refine XK.exit ?_
    refine XK.norm ?_
    refine XK.seq ?_
    have hie : i = 2 := by have h' : ¬ (i : Int) < 2 := h; omega
    subst hie
    obtain ⟨a, b, c, a', b', c', rfl, hw1, hw2⟩ := hcs
    obtain ⟨D1, d1, D2, d2, D3, d3, e1, x1, x2, x3⟩ := hw1
    obtain ⟨F1, f1, F2, f2, F3, f3, e2, y1, y2, y3⟩ := hw2
    cases e1
    cases e2

    refine XK.region ?_
    refine xk_ldN 6 rfl ?_
    (first | (refine xk_storeN 0 rfl rfl rfl (by kernel_rfl) (by simp [Value.cells, Value.oneCell']) (by simp [Value.cells]) ?_) | (refine xk_storeN 1 rfl rfl rfl (by kernel_rfl) (by simp [Value.cells, Value.oneCell']) (by simp [Value.cells]) ?_) | (refine xk_storeN 2 rfl rfl rfl (by kernel_rfl) (by simp [Value.cells, Value.oneCell']) (by simp [Value.cells]) ?_) | (refine xk_storeN 3 rfl rfl rfl (by kernel_rfl) (by simp [Value.cells, Value.oneCell']) (by simp [Value.cells]) ?_) | (refine xk_storeN 4 rfl rfl rfl (by kernel_rfl) (by simp [Value.cells, Value.oneCell']) (by simp [Value.cells]) ?_) | (refine xk_storeN 5 rfl rfl rfl (by kernel_rfl) (by simp [Value.cells, Value.oneCell']) (by simp [Value.cells]) ?_) | (refine xk_storeN 6 rfl rfl rfl (by kernel_rfl) (by simp [Value.cells, Value.oneCell']) (by simp [Value.cells]) ?_) | (refine xk_storeN 7 rfl rfl rfl (by kernel_rfl) (by simp [Value.cells, Value.oneCell']) (by simp [Value.cells]) ?_) | (refine xk_storeN 8 rfl rfl rfl (by kernel_rfl) (by simp [Value.cells, Value.oneCell']) (by simp [Value.cells]) ?_)); simp only [putN, Value.cells, List.set, List.take, List.drop, List.nil_append, List.append_nil, List.length_cons, List.length_nil, List.cons_append, Nat.reduceAdd]
    refine XK.nilN ?_
    refine XK.ret ?_
    refine XK.norm ?_
    exact XK.retC rfl (by kernel_rfl) rfl rfl (RdN.whole 1 rfl) fun w1 st => ⟨⟨_, rfl, by
      have hl := st.fresh_le (by simp) hfrs
      exact ⟨_, _, _, _, _, _, _, _, _, _, _, _, rfl, x1.le hl, x2.le hl, x3.le hl, y1.le hl, y2.le hl, y3.le hl⟩⟩, st.below (by simp)⟩

end Go.Proofs.Ytbcfbafpeidifaa
/- Events, as they lie in memory; what an audit counts and finds of them, in plain words; dead and each, walked. -/
namespace Go.Proofs.Ytbcfbafpeidifaa
set_option linter.all false
open Go.RowKit Go.Shelf
/-- an event: its cells, one by one; wA, wc: the slice of its words ws -/
structure Ev where
  kind : Int
  task : Int
  ck : Int
  dev : Int
  reg : Int
  cv : Int
  err : Int
  rv : Int
  aid : Int
  adev : Int
  adead : Bool
  av : Int
  alive : Bool
  wA : Option Addr
  wc : Nat
  ws : List Int
def Ev.cells (e : Ev) : List Value :=
  [.int .u8 e.kind, .int .i64 e.task, .int .u8 e.ck, .int .i64 e.dev, .int .i64 e.reg, .int .u32 e.cv, .int .i64 e.err, .int .u32 e.rv, .int .i64 e.aid, .int .i64 e.adev, .bool e.adead, .int .u32 e.av, .bool e.alive, .slice e.wA e.ws.length e.wc]
theorem Ev.cells_len (e : Ev) : e.cells.length = 14 := rfl
/-- the event at a place -/
def EvAt (w : World) (b o : Nat) (e : Ev) : Prop := ∀ f u, e.cells[f]? = some u → w.cell? ⟨b, o + f, none⟩ = some u
/-- words as cells -/
def u32Cells (zs : List Int) : List Value := zs.map (Value.int .u32)
def EvWs (w : World) (B : Nat) (e : Ev) : Prop := Sl w B 1 e.wA e.ws.length (u32Cells e.ws)
/-- events in memory: a slice of 14 cells an element; their words -/
def Evs (w : World) (B : Nat) (A : Option Addr) (evs : List Ev) : Prop := Sl w B 14 A evs.length (evs.flatMap Ev.cells) ∧ ∀ e ∈ evs, EvWs w B e
theorem Evs.at_ {w : World} {B : Nat} {A : Option Addr} {evs : List Ev} (h : Evs w B A evs) {k : Nat} {e : Ev} (hk : evs[k]? = some e) :
    ∃ b off, A = some ⟨b, off, none⟩ ∧ b < B ∧ EvAt w b (off + k * 14) e := by
  have hlt : k < evs.length := by
    rcases Nat.lt_or_ge k evs.length with h | h
    · exact h
    · rw [List.getElem?_eq_none h] at hk; cases hk
  obtain ⟨b, off, hA, hb, hc⟩ := Sl.at_ h.1 hlt
  refine ⟨b, off, hA, hb, fun f u hu => ?_⟩
  have hf : f < 14 := by
    rcases Nat.lt_or_ge f 14 with h | h
    · exact h
    · rw [List.getElem?_eq_none (by rw [Ev.cells_len]; exact h)] at hu; cases hu
  exact hc f u (by rw [flat_get Ev.cells 14 evs (fun _ _ => rfl) k f e hk hf]; exact hu)
theorem Evs.below {w w' : World} {B : Nat} {A : Option Addr} {evs : List Ev} (h : Evs w B A evs) (hb : Below B w w') : Evs w' B A evs := ⟨h.1.below hb, fun e he => (h.2 e he).below hb⟩
theorem Evs.thn {w w' : World} {A : Option Addr} {evs : List Ev} (h : Evs w w.heap.size A evs) (hb : Below w.heap.size w w') : Evs w' w'.heap.size A evs := ⟨h.1.thn hb, fun e he => (h.2 e he).thn hb⟩

end Go.Proofs.Ytbcfbafpeidifaa
/- The small logic: pointers that are not nil, parts of slices, maps of counts; events that a piece shows. -/
namespace Go.Proofs.Ytbcfbafpeidifaa
set_option linter.all false
open Go.RowKit
section
variable {P : Program} {N : Nat} {w0 : World} {e : Env} {R : List Piece} {H : List HP} {Q : Exit → Act → World → Prop} {ops : Array Oper} {rest : List Oper}
variable {d : Nat} {ty : TypeId} {pos : String} {aft : Array Edge}
theorem xk_nilC {x : Operand} {a : Addr} (hx : e.ev x = some (.pointer (some a))) (hd : d < N) (k : XK N w0 (wpList P ops Q rest) ((d, .pointer (some a)) :: e) R H) : XK N w0 (wpList P ops Q (⟨some d, .nilCheck x, ty, pos, aft, none⟩ :: rest)) e R H :=
  xk_pure hd (fun b w hr => by simp [execOp, hr.ev hx]) k
end
/-- events that a piece shows -/
def EvS (p : Piece) (A : Option Addr) (evs : List Ev) : Prop := SlS p 14 A evs.length (evs.flatMap Ev.cells)
theorem EvS.le {p q : Piece} {A : Option Addr} {evs : List Ev} (h : EvS p A evs) (hl : p.Le q) : EvS q A evs := SlS.le h hl
theorem EvS.ev {p : Piece} {b off : Nat} {evs : List Ev} (h : EvS p (some ⟨b, off, none⟩) evs) {k : Nat} {x : Ev} (hk : evs[k]? = some x) : p.Z b ∧ ∀ f u, x.cells[f]? = some u → p.w.cell? ⟨b, off + k * 14 + f, none⟩ = some u := by
  have hlt := (List.getElem?_eq_some_iff.1 hk).1
  obtain ⟨b', off', hA, hb, hc⟩ := SlS.at_ h hlt
  cases hA
  refine ⟨hb, fun f u hu => hc f u ?_⟩
  have hf : f < 14 := by
    rw [← Ev.cells_len x]
    rcases Nat.lt_or_ge f x.cells.length with h | h
    · exact h
    · rw [List.getElem?_eq_none h] at hu; cases hu
  rw [flat_get Ev.cells 14 evs (fun _ _ => Ev.cells_len _) k f x hk hf, hu]
/-! counts, as a map -/
end Go.Proofs.Ytbcfbafpeidifaa
/- package table: what agents wish. -/
namespace Go.Proofs.Ytbcfbafpeidifaa
set_option linter.all false
open Go.RowKit
def onB (k : Int) : Prop := k = 117 ∨ k = 99 ∨ k = 114
instance (k : Int) : Decidable (onB k) := by unfold onB; infer_instance
def numF (s : Soc) (p : Int) : Nat := if p = 17 then s.domains.length else if p = 20 then s.clocks.length else if p = 22 then s.resets.length else 0
def listV (k : Int) (v0 v1 v2 : Value) : Value := if k = 117 ∨ k = 100 ∨ k = 107 then v0 else if k = 99 ∨ k = 111 then v1 else if k = 114 ∨ k = 97 then v2 else .slice none 0 0
def kindL (k : Int) (x : Wsh) : List Bool := if k = 117 ∨ k = 100 ∨ k = 107 then x.d else if k = 99 ∨ k = 111 then x.c else if k = 114 ∨ k = 97 then x.l else []
def wishF (x : Wsh) (k id : Int) : Bool := decide (0 ≤ id) && hasB (kindL k x) id.toNat
theorem ROc.thn {w w' : World} {g o : Nat} {v : Value} (h : ROc w g o v) (hb : Below w.heap.size w w') : ROc w' g o v := ⟨Nat.lt_of_lt_of_le h.1 hb.size, (hb.cell (p := ⟨g, o, none⟩) h.1).trans h.2⟩
/-- the wishes of an agent, at a place -/
def WshM (w : World) (g o : Nat) (x : Wsh) : Prop := ∃ A1 k1 A2 k2 A3 k3, ROc w g o (.slice A1 x.d.length k1) ∧ ROc w g (o + 1) (.slice A2 x.c.length k2) ∧ ROc w g (o + 2) (.slice A3 x.l.length k3) ∧
  SlS (all w) 1 A1 x.d.length (boolCells x.d) ∧ SlS (all w) 1 A2 x.c.length (boolCells x.c) ∧ SlS (all w) 1 A3 x.l.length (boolCells x.l)
theorem listV_S {w : World} {x : Wsh} {A1 A2 A3 : Option Addr} {k1 k2 k3 : Nat} (h1 : SlS (all w) 1 A1 x.d.length (boolCells x.d)) (h2 : SlS (all w) 1 A2 x.c.length (boolCells x.c)) (h3 : SlS (all w) 1 A3 x.l.length (boolCells x.l)) (k : Int) :
    ∃ A c, listV k (.slice A1 x.d.length k1) (.slice A2 x.c.length k2) (.slice A3 x.l.length k3) = .slice A (kindL k x).length c ∧ SlS (all w) 1 A (kindL k x).length (boolCells (kindL k x)) := by
  unfold listV kindL
  split
  · exact ⟨_, _, rfl, h1⟩
  · split
    · exact ⟨_, _, rfl, h2⟩
    · split
      · exact ⟨_, _, rfl, h3⟩
      · exact ⟨_, _, rfl, SlS.nil _ _⟩

theorem on_any (k : Int) (w : World) :
    Calls Try.prog 17 #[.int .u8 k] w (Rt (.bool (decide (onB k))) w) := by
  refine XK.enter (vs := [.int .u8 k]) Try.func17 rfl Try.ntmps17 (by simp) ?_
  refine XK.seq ?_

  refine XK.region ?_
  refine xk_assign rfl (by decide) ?_
  refine XK.nilN ?_
  refine XK.seq ?_

  refine XK.region ?_
  refine xk_move rfl (by decide) ?_
  refine xk_eql rfl rfl (by decide) ?_
  refine xk_move rfl (by decide) ?_
  (first | refine xk_split (t := 5) rfl (fun hg => ?_) (fun hg => ?_) | refine xk_splitB (t := 5) rfl (fun hg => ?_) (fun hg => ?_))
  ·
    refine xk_guardF rfl rfl rfl (by decide) ?_
    refine xk_guardF rfl rfl rfl (by decide) ?_
    (first | refine xk_pickT rfl rfl (by decide) ?_ | refine xk_pickF rfl rfl (by decide) ?_)
    refine xk_move rfl (by decide) ?_
    refine xk_guardF rfl rfl rfl (by decide) ?_
    refine xk_guardF rfl rfl rfl (by decide) ?_
    (first | refine xk_pickT rfl rfl (by decide) ?_ | refine xk_pickF rfl rfl (by decide) ?_)
    refine xk_assign rfl (by decide) ?_
    refine XK.nilN ?_
    refine XK.ret ?_
    refine XK.norm ?_
    exact XK.ret1 rfl rfl fun w1 st => ⟨by simp_all [onB], st.below (by simp)⟩
  ·
    refine xk_guardT rfl rfl ?_; refine xk_move rfl (by decide) ?_
    refine xk_guardT rfl rfl ?_; refine xk_eql rfl rfl (by decide) ?_
    (first | refine xk_pickT rfl rfl (by decide) ?_ | refine xk_pickF rfl rfl (by decide) ?_)
    refine xk_move rfl (by decide) ?_
    (first | refine xk_split (t := 9) rfl (fun hg => ?_) (fun hg => ?_) | refine xk_splitB (t := 9) rfl (fun hg => ?_) (fun hg => ?_))
    ·
      refine xk_guardF rfl rfl rfl (by decide) ?_
      refine xk_guardF rfl rfl rfl (by decide) ?_
      (first | refine xk_pickT rfl rfl (by decide) ?_ | refine xk_pickF rfl rfl (by decide) ?_)
      refine xk_assign rfl (by decide) ?_
      refine XK.nilN ?_
      refine XK.ret ?_
      refine XK.norm ?_
      exact XK.ret1 rfl rfl fun w1 st => ⟨by simp_all [onB], st.below (by simp)⟩
    ·
      refine xk_guardT rfl rfl ?_; refine xk_move rfl (by decide) ?_
      refine xk_guardT rfl rfl ?_; refine xk_eql rfl rfl (by decide) ?_
      (first | refine xk_pickT rfl rfl (by decide) ?_ | refine xk_pickF rfl rfl (by decide) ?_)
      refine xk_assign rfl (by decide) ?_
      refine XK.nilN ?_
      refine XK.ret ?_
      refine XK.norm ?_
      exact XK.ret1 rfl rfl fun w1 st => ⟨by simp_all [onB], st.below (by simp)⟩

theorem number_any (s : Soc) (A1 A2 A3 A4 : Option Addr) (k1 k2 k3 k4 : Nat) (p : Int) (w : World) :
    Calls Try.prog 52 #[.agg #[.slice A1 s.clocks.length k1, .slice A2 s.domains.length k2, .slice A3 s.resets.length k3, .slice A4 s.devs.length k4], .int .i64 p] w (Rt (.int .i64 (numF s p)) w) := by
  refine XK.enter (vs := [.agg #[.slice A1 s.clocks.length k1, .slice A2 s.domains.length k2, .slice A3 s.resets.length k3, .slice A4 s.devs.length k4], .int .i64 p]) Try.func52 rfl Try.ntmps52 (by simp) ?_
  refine XK.seq ?_

  refine XK.region ?_
  refine xk_box rfl (by decide) fun g1 => ?_
  refine xk_assign rfl (by decide) ?_
  refine XK.nilN ?_
  refine XK.seq ?_
  refine XK.seq ?_

  refine XK.region ?_
  refine xk_move rfl (by decide) ?_
  refine XK.nilN ?_
  refine XK.block ?_
  refine XK.seq ?_

  refine XK.region ?_
  refine xk_eql rfl rfl (by decide) ?_
  refine xk_assign rfl (by decide) ?_
  refine XK.nilN ?_
  refine XK.if_ rfl (fun h => ?_) (fun h => ?_)
  ·
    refine XK.seq ?_

    refine XK.region ?_
    refine xk_field (off := 1) (by kernel_rfl) rfl (by decide) ?_
    refine xk_ld rfl ?_
    refine xk_len (el := 57) (by kernel_rfl) rfl (by decide) ?_
    refine xk_assign rfl (by decide) ?_
    refine XK.nilN ?_
    refine XK.ret ?_
    refine XK.norm ?_
    exact XK.ret1 rfl rfl fun w1 st => ⟨by simp_all [numF], st.below (by simp)⟩
  ·
    refine XK.seq ?_

    refine XK.region ?_
    refine xk_eql rfl rfl (by decide) ?_
    refine xk_assign rfl (by decide) ?_
    refine XK.nilN ?_
    refine XK.if_ rfl (fun h => ?_) (fun h => ?_)
    ·
      refine XK.seq ?_

      refine XK.region ?_
      refine xk_field (off := 0) (by kernel_rfl) rfl (by decide) ?_
      refine xk_ld rfl ?_
      refine xk_len (el := 60) (by kernel_rfl) rfl (by decide) ?_
      refine xk_assign rfl (by decide) ?_
      refine XK.nilN ?_
      refine XK.ret ?_
      refine XK.norm ?_
      exact XK.ret1 rfl rfl fun w1 st => ⟨by simp_all [numF], st.below (by simp)⟩
    ·
      refine XK.seq ?_

      refine XK.region ?_
      refine xk_eql rfl rfl (by decide) ?_
      refine xk_assign rfl (by decide) ?_
      refine XK.nilN ?_
      refine XK.if_ rfl (fun h => ?_) (fun h => ?_)
      ·
        refine XK.seq ?_

        refine XK.region ?_
        refine xk_field (off := 2) (by kernel_rfl) rfl (by decide) ?_
        refine xk_ld rfl ?_
        refine xk_len (el := 64) (by kernel_rfl) rfl (by decide) ?_
        refine xk_assign rfl (by decide) ?_
        refine XK.nilN ?_
        refine XK.ret ?_
        refine XK.norm ?_
        exact XK.ret1 rfl rfl fun w1 st => ⟨by simp_all [numF], st.below (by simp)⟩
      ·
        refine XK.skip ?_
        refine XK.norm ?_
        refine XK.seq ?_

        refine XK.region ?_
        refine xk_assign rfl (by decide) ?_
        refine XK.nilN ?_
        refine XK.ret ?_
        refine XK.norm ?_
        exact XK.ret1 rfl rfl fun w1 st => ⟨by simp_all [numF], st.below (by simp)⟩

theorem list_any (g o : Nat) (k : Int) (v0 v1 v2 : Value) (w : World) (h0 : ROc w g o v0) (h1 : ROc w g (o + 1) v1) (h2 : ROc w g (o + 2) v2) :
    Calls Try.prog 22 #[.pointer (some ⟨g, o, none⟩), .int .u8 k] w (Rt (listV k v0 v1 v2) w) := by
  refine XK.enter (vs := [.pointer (some ⟨g, o, none⟩), .int .u8 k]) Try.func22 rfl Try.ntmps22 (by simp) ?_
  refine XK.seq ?_

  refine XK.region ?_
  refine xk_assign rfl (by decide) ?_
  refine XK.nilN ?_
  refine XK.seq ?_
  refine XK.seq ?_

  refine XK.region ?_
  refine xk_move rfl (by decide) ?_
  refine XK.nilN ?_
  refine XK.block ?_
  refine XK.seq ?_
  refine XK.seq ?_

  refine XK.region ?_
  refine xk_eql rfl rfl (by decide) ?_
  refine xk_assign rfl (by decide) ?_
  refine XK.nilN ?_
  refine XK.if_ rfl (fun h => ?_) (fun h => ?_)
  ·
    refine XK.skip ?_
    refine XK.norm ?_
    refine XK.if_ rfl (fun h => ?_) (fun h => ?_)
    ·
      refine XK.seq ?_

      refine XK.region ?_
      refine xk_move rfl (by decide) ?_
      refine xk_nilC rfl (by decide) ?_
      refine xk_field (off := 0) (by kernel_rfl) rfl (by decide) ?_
      refine xk_load (by kernel_rfl) rfl (Rd.roc (by simp) h0) (by decide) ?_
      refine xk_assign rfl (by decide) ?_
      refine XK.nilN ?_
      refine XK.ret ?_
      refine XK.norm ?_
      exact XK.ret1 rfl rfl fun w1 st => ⟨by simp_all [listV], st.below (by simp)⟩
    ·
      refine XK.seq ?_
      refine XK.seq ?_

      refine XK.region ?_
      refine xk_eql rfl rfl (by decide) ?_
      refine xk_assign rfl (by decide) ?_
      refine XK.nilN ?_
      refine XK.if_ rfl (fun h => ?_) (fun h => ?_)
      ·
        refine XK.skip ?_
        refine XK.norm ?_
        refine XK.if_ rfl (fun h => ?_) (fun h => ?_)
        ·
          refine XK.seq ?_

          refine XK.region ?_
          refine xk_move rfl (by decide) ?_
          refine xk_nilC rfl (by decide) ?_
          refine xk_field (off := 1) (by kernel_rfl) rfl (by decide) ?_
          refine xk_load (by kernel_rfl) rfl (Rd.roc (by simp) h1) (by decide) ?_
          refine xk_assign rfl (by decide) ?_
          refine XK.nilN ?_
          refine XK.ret ?_
          refine XK.norm ?_
          exact XK.ret1 rfl rfl fun w1 st => ⟨by simp_all [listV], st.below (by simp)⟩
        ·
          refine XK.seq ?_
          refine XK.seq ?_

          refine XK.region ?_
          refine xk_eql rfl rfl (by decide) ?_
          refine xk_assign rfl (by decide) ?_
          refine XK.nilN ?_
          refine XK.if_ rfl (fun h => ?_) (fun h => ?_)
          ·
            refine XK.skip ?_
            refine XK.norm ?_
            refine XK.if_ rfl (fun h => ?_) (fun h => ?_)
            ·
              refine XK.seq ?_

              refine XK.region ?_
              refine xk_move rfl (by decide) ?_
              refine xk_nilC rfl (by decide) ?_
              refine xk_field (off := 2) (by kernel_rfl) rfl (by decide) ?_
              refine xk_load (by kernel_rfl) rfl (Rd.roc (by simp) h2) (by decide) ?_
              refine xk_assign rfl (by decide) ?_
              refine XK.nilN ?_
              refine XK.ret ?_
              refine XK.norm ?_
              exact XK.ret1 rfl rfl fun w1 st => ⟨by simp_all [listV], st.below (by simp)⟩
            ·
              refine XK.skip ?_
              refine XK.norm ?_
              refine XK.seq ?_

              refine XK.region ?_
              refine xk_assign rfl (by decide) ?_
              refine XK.nilN ?_
              refine XK.ret ?_
              refine XK.norm ?_
              exact XK.ret1 rfl rfl fun w1 st => ⟨by simp_all [listV], st.below (by simp)⟩
          ·

            refine XK.region ?_
            refine xk_eql rfl rfl (by decide) ?_
            refine xk_assign rfl (by decide) ?_
            refine XK.nilN ?_
            refine XK.if_ rfl (fun h => ?_) (fun h => ?_)
            ·
              refine XK.seq ?_

              refine XK.region ?_
              refine xk_move rfl (by decide) ?_
              refine xk_nilC rfl (by decide) ?_
              refine xk_field (off := 2) (by kernel_rfl) rfl (by decide) ?_
              refine xk_load (by kernel_rfl) rfl (Rd.roc (by simp) h2) (by decide) ?_
              refine xk_assign rfl (by decide) ?_
              refine XK.nilN ?_
              refine XK.ret ?_
              refine XK.norm ?_
              exact XK.ret1 rfl rfl fun w1 st => ⟨by simp_all [listV], st.below (by simp)⟩
            ·
              refine XK.skip ?_
              refine XK.norm ?_
              refine XK.seq ?_

              refine XK.region ?_
              refine xk_assign rfl (by decide) ?_
              refine XK.nilN ?_
              refine XK.ret ?_
              refine XK.norm ?_
              exact XK.ret1 rfl rfl fun w1 st => ⟨by simp_all [listV], st.below (by simp)⟩
      ·

        refine XK.region ?_
        refine xk_eql rfl rfl (by decide) ?_
        refine xk_assign rfl (by decide) ?_
        refine XK.nilN ?_
        refine XK.if_ rfl (fun h => ?_) (fun h => ?_)
        ·
          refine XK.seq ?_

          refine XK.region ?_
          refine xk_move rfl (by decide) ?_
          refine xk_nilC rfl (by decide) ?_
          refine xk_field (off := 1) (by kernel_rfl) rfl (by decide) ?_
          refine xk_load (by kernel_rfl) rfl (Rd.roc (by simp) h1) (by decide) ?_
          refine xk_assign rfl (by decide) ?_
          refine XK.nilN ?_
          refine XK.ret ?_
          refine XK.norm ?_
          exact XK.ret1 rfl rfl fun w1 st => ⟨by simp_all [listV], st.below (by simp)⟩
        ·
          refine XK.seq ?_
          refine XK.seq ?_

          refine XK.region ?_
          refine xk_eql rfl rfl (by decide) ?_
          refine xk_assign rfl (by decide) ?_
          refine XK.nilN ?_
          refine XK.if_ rfl (fun h => ?_) (fun h => ?_)
          ·
            refine XK.skip ?_
            refine XK.norm ?_
            refine XK.if_ rfl (fun h => ?_) (fun h => ?_)
            ·
              refine XK.seq ?_

              refine XK.region ?_
              refine xk_move rfl (by decide) ?_
              refine xk_nilC rfl (by decide) ?_
              refine xk_field (off := 2) (by kernel_rfl) rfl (by decide) ?_
              refine xk_load (by kernel_rfl) rfl (Rd.roc (by simp) h2) (by decide) ?_
              refine xk_assign rfl (by decide) ?_
              refine XK.nilN ?_
              refine XK.ret ?_
              refine XK.norm ?_
              exact XK.ret1 rfl rfl fun w1 st => ⟨by simp_all [listV], st.below (by simp)⟩
            ·
              refine XK.skip ?_
              refine XK.norm ?_
              refine XK.seq ?_

              refine XK.region ?_
              refine xk_assign rfl (by decide) ?_
              refine XK.nilN ?_
              refine XK.ret ?_
              refine XK.norm ?_
              exact XK.ret1 rfl rfl fun w1 st => ⟨by simp_all [listV], st.below (by simp)⟩
          ·

            refine XK.region ?_
            refine xk_eql rfl rfl (by decide) ?_
            refine xk_assign rfl (by decide) ?_
            refine XK.nilN ?_
            refine XK.if_ rfl (fun h => ?_) (fun h => ?_)
            ·
              refine XK.seq ?_

              refine XK.region ?_
              refine xk_move rfl (by decide) ?_
              refine xk_nilC rfl (by decide) ?_
              refine xk_field (off := 2) (by kernel_rfl) rfl (by decide) ?_
              refine xk_load (by kernel_rfl) rfl (Rd.roc (by simp) h2) (by decide) ?_
              refine xk_assign rfl (by decide) ?_
              refine XK.nilN ?_
              refine XK.ret ?_
              refine XK.norm ?_
              exact XK.ret1 rfl rfl fun w1 st => ⟨by simp_all [listV], st.below (by simp)⟩
            ·
              refine XK.skip ?_
              refine XK.norm ?_
              refine XK.seq ?_

              refine XK.region ?_
              refine xk_assign rfl (by decide) ?_
              refine XK.nilN ?_
              refine XK.ret ?_
              refine XK.norm ?_
              exact XK.ret1 rfl rfl fun w1 st => ⟨by simp_all [listV], st.below (by simp)⟩
  ·
    refine XK.seq ?_

    refine XK.region ?_
    refine xk_eql rfl rfl (by decide) ?_
    refine xk_assign rfl (by decide) ?_
    refine XK.nilN ?_
    refine XK.if_ rfl (fun h => ?_) (fun h => ?_)
    ·
      refine XK.skip ?_
      refine XK.norm ?_
      refine XK.if_ rfl (fun h => ?_) (fun h => ?_)
      ·
        refine XK.seq ?_

        refine XK.region ?_
        refine xk_move rfl (by decide) ?_
        refine xk_nilC rfl (by decide) ?_
        refine xk_field (off := 0) (by kernel_rfl) rfl (by decide) ?_
        refine xk_load (by kernel_rfl) rfl (Rd.roc (by simp) h0) (by decide) ?_
        refine xk_assign rfl (by decide) ?_
        refine XK.nilN ?_
        refine XK.ret ?_
        refine XK.norm ?_
        exact XK.ret1 rfl rfl fun w1 st => ⟨by simp_all [listV], st.below (by simp)⟩
      ·
        refine XK.seq ?_
        refine XK.seq ?_

        refine XK.region ?_
        refine xk_eql rfl rfl (by decide) ?_
        refine xk_assign rfl (by decide) ?_
        refine XK.nilN ?_
        refine XK.if_ rfl (fun h => ?_) (fun h => ?_)
        ·
          refine XK.skip ?_
          refine XK.norm ?_
          refine XK.if_ rfl (fun h => ?_) (fun h => ?_)
          ·
            refine XK.seq ?_

            refine XK.region ?_
            refine xk_move rfl (by decide) ?_
            refine xk_nilC rfl (by decide) ?_
            refine xk_field (off := 1) (by kernel_rfl) rfl (by decide) ?_
            refine xk_load (by kernel_rfl) rfl (Rd.roc (by simp) h1) (by decide) ?_
            refine xk_assign rfl (by decide) ?_
            refine XK.nilN ?_
            refine XK.ret ?_
            refine XK.norm ?_
            exact XK.ret1 rfl rfl fun w1 st => ⟨by simp_all [listV], st.below (by simp)⟩
          ·
            refine XK.seq ?_
            refine XK.seq ?_

            refine XK.region ?_
            refine xk_eql rfl rfl (by decide) ?_
            refine xk_assign rfl (by decide) ?_
            refine XK.nilN ?_
            refine XK.if_ rfl (fun h => ?_) (fun h => ?_)
            ·
              refine XK.skip ?_
              refine XK.norm ?_
              refine XK.if_ rfl (fun h => ?_) (fun h => ?_)
              ·
                refine XK.seq ?_

                refine XK.region ?_
                refine xk_move rfl (by decide) ?_
                refine xk_nilC rfl (by decide) ?_
                refine xk_field (off := 2) (by kernel_rfl) rfl (by decide) ?_
                refine xk_load (by kernel_rfl) rfl (Rd.roc (by simp) h2) (by decide) ?_
                refine xk_assign rfl (by decide) ?_
                refine XK.nilN ?_
                refine XK.ret ?_
                refine XK.norm ?_
                exact XK.ret1 rfl rfl fun w1 st => ⟨by simp_all [listV], st.below (by simp)⟩
              ·
                refine XK.skip ?_
                refine XK.norm ?_
                refine XK.seq ?_

                refine XK.region ?_
                refine xk_assign rfl (by decide) ?_
                refine XK.nilN ?_
                refine XK.ret ?_
                refine XK.norm ?_
                exact XK.ret1 rfl rfl fun w1 st => ⟨by simp_all [listV], st.below (by simp)⟩
            ·

              refine XK.region ?_
              refine xk_eql rfl rfl (by decide) ?_
              refine xk_assign rfl (by decide) ?_
              refine XK.nilN ?_
              refine XK.if_ rfl (fun h => ?_) (fun h => ?_)
              ·
                refine XK.seq ?_

                refine XK.region ?_
                refine xk_move rfl (by decide) ?_
                refine xk_nilC rfl (by decide) ?_
                refine xk_field (off := 2) (by kernel_rfl) rfl (by decide) ?_
                refine xk_load (by kernel_rfl) rfl (Rd.roc (by simp) h2) (by decide) ?_
                refine xk_assign rfl (by decide) ?_
                refine XK.nilN ?_
                refine XK.ret ?_
                refine XK.norm ?_
                exact XK.ret1 rfl rfl fun w1 st => ⟨by simp_all [listV], st.below (by simp)⟩
              ·
                refine XK.skip ?_
                refine XK.norm ?_
                refine XK.seq ?_

                refine XK.region ?_
                refine xk_assign rfl (by decide) ?_
                refine XK.nilN ?_
                refine XK.ret ?_
                refine XK.norm ?_
                exact XK.ret1 rfl rfl fun w1 st => ⟨by simp_all [listV], st.below (by simp)⟩
        ·

          refine XK.region ?_
          refine xk_eql rfl rfl (by decide) ?_
          refine xk_assign rfl (by decide) ?_
          refine XK.nilN ?_
          refine XK.if_ rfl (fun h => ?_) (fun h => ?_)
          ·
            refine XK.seq ?_

            refine XK.region ?_
            refine xk_move rfl (by decide) ?_
            refine xk_nilC rfl (by decide) ?_
            refine xk_field (off := 1) (by kernel_rfl) rfl (by decide) ?_
            refine xk_load (by kernel_rfl) rfl (Rd.roc (by simp) h1) (by decide) ?_
            refine xk_assign rfl (by decide) ?_
            refine XK.nilN ?_
            refine XK.ret ?_
            refine XK.norm ?_
            exact XK.ret1 rfl rfl fun w1 st => ⟨by simp_all [listV], st.below (by simp)⟩
          ·
            refine XK.seq ?_
            refine XK.seq ?_

            refine XK.region ?_
            refine xk_eql rfl rfl (by decide) ?_
            refine xk_assign rfl (by decide) ?_
            refine XK.nilN ?_
            refine XK.if_ rfl (fun h => ?_) (fun h => ?_)
            ·
              refine XK.skip ?_
              refine XK.norm ?_
              refine XK.if_ rfl (fun h => ?_) (fun h => ?_)
              ·
                refine XK.seq ?_

                refine XK.region ?_
                refine xk_move rfl (by decide) ?_
                refine xk_nilC rfl (by decide) ?_
                refine xk_field (off := 2) (by kernel_rfl) rfl (by decide) ?_
                refine xk_load (by kernel_rfl) rfl (Rd.roc (by simp) h2) (by decide) ?_
                refine xk_assign rfl (by decide) ?_
                refine XK.nilN ?_
                refine XK.ret ?_
                refine XK.norm ?_
                exact XK.ret1 rfl rfl fun w1 st => ⟨by simp_all [listV], st.below (by simp)⟩
              ·
                refine XK.skip ?_
                refine XK.norm ?_
                refine XK.seq ?_

                refine XK.region ?_
                refine xk_assign rfl (by decide) ?_
                refine XK.nilN ?_
                refine XK.ret ?_
                refine XK.norm ?_
                exact XK.ret1 rfl rfl fun w1 st => ⟨by simp_all [listV], st.below (by simp)⟩
            ·

              refine XK.region ?_
              refine xk_eql rfl rfl (by decide) ?_
              refine xk_assign rfl (by decide) ?_
              refine XK.nilN ?_
              refine XK.if_ rfl (fun h => ?_) (fun h => ?_)
              ·
                refine XK.seq ?_

                refine XK.region ?_
                refine xk_move rfl (by decide) ?_
                refine xk_nilC rfl (by decide) ?_
                refine xk_field (off := 2) (by kernel_rfl) rfl (by decide) ?_
                refine xk_load (by kernel_rfl) rfl (Rd.roc (by simp) h2) (by decide) ?_
                refine xk_assign rfl (by decide) ?_
                refine XK.nilN ?_
                refine XK.ret ?_
                refine XK.norm ?_
                exact XK.ret1 rfl rfl fun w1 st => ⟨by simp_all [listV], st.below (by simp)⟩
              ·
                refine XK.skip ?_
                refine XK.norm ?_
                refine XK.seq ?_

                refine XK.region ?_
                refine xk_assign rfl (by decide) ?_
                refine XK.nilN ?_
                refine XK.ret ?_
                refine XK.norm ?_
                exact XK.ret1 rfl rfl fun w1 st => ⟨by simp_all [listV], st.below (by simp)⟩
    ·

      refine XK.region ?_
      refine xk_eql rfl rfl (by decide) ?_
      refine xk_assign rfl (by decide) ?_
      refine XK.nilN ?_
      refine XK.if_ rfl (fun h => ?_) (fun h => ?_)
      ·
        refine XK.seq ?_

        refine XK.region ?_
        refine xk_move rfl (by decide) ?_
        refine xk_nilC rfl (by decide) ?_
        refine xk_field (off := 0) (by kernel_rfl) rfl (by decide) ?_
        refine xk_load (by kernel_rfl) rfl (Rd.roc (by simp) h0) (by decide) ?_
        refine xk_assign rfl (by decide) ?_
        refine XK.nilN ?_
        refine XK.ret ?_
        refine XK.norm ?_
        exact XK.ret1 rfl rfl fun w1 st => ⟨by simp_all [listV], st.below (by simp)⟩
      ·
        refine XK.seq ?_
        refine XK.seq ?_

        refine XK.region ?_
        refine xk_eql rfl rfl (by decide) ?_
        refine xk_assign rfl (by decide) ?_
        refine XK.nilN ?_
        refine XK.if_ rfl (fun h => ?_) (fun h => ?_)
        ·
          refine XK.skip ?_
          refine XK.norm ?_
          refine XK.if_ rfl (fun h => ?_) (fun h => ?_)
          ·
            refine XK.seq ?_

            refine XK.region ?_
            refine xk_move rfl (by decide) ?_
            refine xk_nilC rfl (by decide) ?_
            refine xk_field (off := 1) (by kernel_rfl) rfl (by decide) ?_
            refine xk_load (by kernel_rfl) rfl (Rd.roc (by simp) h1) (by decide) ?_
            refine xk_assign rfl (by decide) ?_
            refine XK.nilN ?_
            refine XK.ret ?_
            refine XK.norm ?_
            exact XK.ret1 rfl rfl fun w1 st => ⟨by simp_all [listV], st.below (by simp)⟩
          ·
            refine XK.seq ?_
            refine XK.seq ?_

            refine XK.region ?_
            refine xk_eql rfl rfl (by decide) ?_
            refine xk_assign rfl (by decide) ?_
            refine XK.nilN ?_
            refine XK.if_ rfl (fun h => ?_) (fun h => ?_)
            ·
              refine XK.skip ?_
              refine XK.norm ?_
              refine XK.if_ rfl (fun h => ?_) (fun h => ?_)
              ·
                refine XK.seq ?_

                refine XK.region ?_
                refine xk_move rfl (by decide) ?_
                refine xk_nilC rfl (by decide) ?_
                refine xk_field (off := 2) (by kernel_rfl) rfl (by decide) ?_
                refine xk_load (by kernel_rfl) rfl (Rd.roc (by simp) h2) (by decide) ?_
                refine xk_assign rfl (by decide) ?_
                refine XK.nilN ?_
                refine XK.ret ?_
                refine XK.norm ?_
                exact XK.ret1 rfl rfl fun w1 st => ⟨by simp_all [listV], st.below (by simp)⟩
              ·
                refine XK.skip ?_
                refine XK.norm ?_
                refine XK.seq ?_

                refine XK.region ?_
                refine xk_assign rfl (by decide) ?_
                refine XK.nilN ?_
                refine XK.ret ?_
                refine XK.norm ?_
                exact XK.ret1 rfl rfl fun w1 st => ⟨by simp_all [listV], st.below (by simp)⟩
            ·

              refine XK.region ?_
              refine xk_eql rfl rfl (by decide) ?_
              refine xk_assign rfl (by decide) ?_
              refine XK.nilN ?_
              refine XK.if_ rfl (fun h => ?_) (fun h => ?_)
              ·
                refine XK.seq ?_

                refine XK.region ?_
                refine xk_move rfl (by decide) ?_
                refine xk_nilC rfl (by decide) ?_
                refine xk_field (off := 2) (by kernel_rfl) rfl (by decide) ?_
                refine xk_load (by kernel_rfl) rfl (Rd.roc (by simp) h2) (by decide) ?_
                refine xk_assign rfl (by decide) ?_
                refine XK.nilN ?_
                refine XK.ret ?_
                refine XK.norm ?_
                exact XK.ret1 rfl rfl fun w1 st => ⟨by simp_all [listV], st.below (by simp)⟩
              ·
                refine XK.skip ?_
                refine XK.norm ?_
                refine XK.seq ?_

                refine XK.region ?_
                refine xk_assign rfl (by decide) ?_
                refine XK.nilN ?_
                refine XK.ret ?_
                refine XK.norm ?_
                exact XK.ret1 rfl rfl fun w1 st => ⟨by simp_all [listV], st.below (by simp)⟩
        ·

          refine XK.region ?_
          refine xk_eql rfl rfl (by decide) ?_
          refine xk_assign rfl (by decide) ?_
          refine XK.nilN ?_
          refine XK.if_ rfl (fun h => ?_) (fun h => ?_)
          ·
            refine XK.seq ?_

            refine XK.region ?_
            refine xk_move rfl (by decide) ?_
            refine xk_nilC rfl (by decide) ?_
            refine xk_field (off := 1) (by kernel_rfl) rfl (by decide) ?_
            refine xk_load (by kernel_rfl) rfl (Rd.roc (by simp) h1) (by decide) ?_
            refine xk_assign rfl (by decide) ?_
            refine XK.nilN ?_
            refine XK.ret ?_
            refine XK.norm ?_
            exact XK.ret1 rfl rfl fun w1 st => ⟨by simp_all [listV], st.below (by simp)⟩
          ·
            refine XK.seq ?_
            refine XK.seq ?_

            refine XK.region ?_
            refine xk_eql rfl rfl (by decide) ?_
            refine xk_assign rfl (by decide) ?_
            refine XK.nilN ?_
            refine XK.if_ rfl (fun h => ?_) (fun h => ?_)
            ·
              refine XK.skip ?_
              refine XK.norm ?_
              refine XK.if_ rfl (fun h => ?_) (fun h => ?_)
              ·
                refine XK.seq ?_

                refine XK.region ?_
                refine xk_move rfl (by decide) ?_
                refine xk_nilC rfl (by decide) ?_
                refine xk_field (off := 2) (by kernel_rfl) rfl (by decide) ?_
                refine xk_load (by kernel_rfl) rfl (Rd.roc (by simp) h2) (by decide) ?_
                refine xk_assign rfl (by decide) ?_
                refine XK.nilN ?_
                refine XK.ret ?_
                refine XK.norm ?_
                exact XK.ret1 rfl rfl fun w1 st => ⟨by simp_all [listV], st.below (by simp)⟩
              ·
                refine XK.skip ?_
                refine XK.norm ?_
                refine XK.seq ?_

                refine XK.region ?_
                refine xk_assign rfl (by decide) ?_
                refine XK.nilN ?_
                refine XK.ret ?_
                refine XK.norm ?_
                exact XK.ret1 rfl rfl fun w1 st => ⟨by simp_all [listV], st.below (by simp)⟩
            ·

              refine XK.region ?_
              refine xk_eql rfl rfl (by decide) ?_
              refine xk_assign rfl (by decide) ?_
              refine XK.nilN ?_
              refine XK.if_ rfl (fun h => ?_) (fun h => ?_)
              ·
                refine XK.seq ?_

                refine XK.region ?_
                refine xk_move rfl (by decide) ?_
                refine xk_nilC rfl (by decide) ?_
                refine xk_field (off := 2) (by kernel_rfl) rfl (by decide) ?_
                refine xk_load (by kernel_rfl) rfl (Rd.roc (by simp) h2) (by decide) ?_
                refine xk_assign rfl (by decide) ?_
                refine XK.nilN ?_
                refine XK.ret ?_
                refine XK.norm ?_
                exact XK.ret1 rfl rfl fun w1 st => ⟨by simp_all [listV], st.below (by simp)⟩
              ·
                refine XK.skip ?_
                refine XK.norm ?_
                refine XK.seq ?_

                refine XK.region ?_
                refine xk_assign rfl (by decide) ?_
                refine XK.nilN ?_
                refine XK.ret ?_
                refine XK.norm ?_
                exact XK.ret1 rfl rfl fun w1 st => ⟨by simp_all [listV], st.below (by simp)⟩

theorem wishes_any (g ag : Nat) (x : Wsh) (k id : Int) (w : World) (hag : ag < 2) (hM : WshM w g (ag * 3) x) :
    Calls Try.prog 16 #[.pointer (some ⟨g, 0, none⟩), .int .i64 (ag : Int), .int .u8 k, .int .i64 id] w (Rt (.bool (wishF x k id)) w) := by
  obtain ⟨A1, k1, A2, k2, A3, k3, h1, h2, h3, s1, s2, s3⟩ := hM
  obtain ⟨A, c, hL, hS⟩ := listV_S (k1 := k1) (k2 := k2) (k3 := k3) s1 s2 s3 k
  refine XK.enter (vs := [.pointer (some ⟨g, 0, none⟩), .int .i64 (ag : Int), .int .u8 k, .int .i64 id]) Try.func16 rfl Try.ntmps16 (by simp) ?_
  refine XK.seq ?_

  refine XK.region ?_
  refine xk_assign rfl (by decide) ?_
  refine XK.nilN ?_
  refine XK.seq ?_

  refine XK.region ?_
  refine xk_move rfl (by decide) ?_
  refine xk_move rfl (by decide) ?_
  refine xk_nilC rfl (by decide) ?_
  refine xk_field (off := 0) (by kernel_rfl) rfl (by decide) ?_
  refine xk_atA (ag) (ag * 3) (n := 2) (el := 34) (sz := 3) (by kernel_rfl) (by kernel_rfl) rfl rfl (by omega) (by omega) (by omega) (by decide) ?_
  refine xk_move rfl (by decide) ?_
  refine xk_callR (f := 22) (fi := []) (ca := []) (by kernel_rfl) rfl rfl (by decide) (fun w1 st => list_any g (ag * 3) k _ _ _ w1 (h1.thn (st.below (by simp))) (h2.thn (st.below (by simp))) (h3.thn (st.below (by simp)))) ?_
  rw [hL]
  refine xk_assign rfl (by decide) ?_
  refine XK.nilN ?_
  refine XK.seq ?_

  refine XK.region ?_
  refine xk_move rfl (by decide) ?_
  refine xk_geq rfl rfl (by decide) ?_
  refine xk_move rfl (by decide) ?_
  (first | refine xk_split (t := 19) rfl (fun hg => ?_) (fun hg => ?_) | refine xk_splitB (t := 19) rfl (fun hg => ?_) (fun hg => ?_))
  ·
    refine xk_guardT rfl rfl ?_; refine xk_move rfl (by decide) ?_
    refine xk_guardT rfl rfl ?_; refine xk_move rfl (by decide) ?_
    refine xk_guardT rfl rfl ?_; refine xk_len (el := 4) (by kernel_rfl) rfl (by decide) ?_
    refine xk_guardT rfl rfl ?_; refine xk_lss rfl rfl (by decide) ?_
    (first | refine xk_pickT rfl rfl (by decide) ?_ | refine xk_pickF rfl rfl (by decide) ?_)
    refine xk_move rfl (by decide) ?_
    (first | refine xk_split (t := 25) rfl (fun hg => ?_) (fun hg => ?_) | refine xk_splitB (t := 25) rfl (fun hg => ?_) (fun hg => ?_))
    ·
      obtain ⟨i, rfl⟩ : ∃ i : Nat, id = (i : Int) := ⟨id.toNat, by omega⟩
      have hil : i < (kindL k x).length := by omega
      obtain ⟨b, off, rfl, hz, hc⟩ := hS.2 (by omega)
      obtain ⟨v, hv⟩ : ∃ v, (kindL k x)[i]? = some v := ⟨_, List.getElem?_eq_getElem hil⟩
      refine xk_guardT rfl rfl ?_; refine xk_move rfl (by decide) ?_
      refine xk_guardT rfl rfl ?_; refine xk_move rfl (by decide) ?_
      refine xk_guardT rfl rfl ?_; refine xk_at (i) (off + i) (el := 4) (sz := 1) (by kernel_rfl) (by kernel_rfl) rfl rfl (by omega) (by omega) (by omega) (by decide) ?_
      refine xk_guardT rfl rfl ?_; refine xk_load (by kernel_rfl) rfl (Rd.ro (p := all w) (by simp) hz (hc i _ (boolCells_at hv))) (by decide) ?_
      (first | refine xk_pickT rfl rfl (by decide) ?_ | refine xk_pickF rfl rfl (by decide) ?_)
      refine xk_assign rfl (by decide) ?_
      refine XK.nilN ?_
      refine XK.ret ?_
      refine XK.norm ?_
      exact XK.ret1 rfl rfl fun w1 st => ⟨by simp [wishF, hasB, hv], st.below (by simp)⟩
    ·
      refine xk_guardF rfl rfl rfl (by decide) ?_
      refine xk_guardF rfl rfl rfl (by decide) ?_
      refine xk_guardF rfl rfl rfl (by decide) ?_
      refine xk_guardF rfl rfl rfl (by decide) ?_
      (first | refine xk_pickT rfl rfl (by decide) ?_ | refine xk_pickF rfl rfl (by decide) ?_)
      refine xk_assign rfl (by decide) ?_
      refine XK.nilN ?_
      refine XK.ret ?_
      refine XK.norm ?_
      have hn : hasB (kindL k x) id.toNat = false := by rw [hasB, List.getElem?_eq_none (by omega)]; rfl
      exact XK.ret1 rfl rfl fun w1 st => ⟨by simp [wishF, hn], st.below (by simp)⟩
  ·
    refine xk_guardF rfl rfl rfl (by decide) ?_
    refine xk_guardF rfl rfl rfl (by decide) ?_
    refine xk_guardF rfl rfl rfl (by decide) ?_
    refine xk_guardF rfl rfl rfl (by decide) ?_
    (first | refine xk_pickT rfl rfl (by decide) ?_ | refine xk_pickF rfl rfl (by decide) ?_)
    refine xk_move rfl (by decide) ?_
    refine xk_guardF rfl rfl rfl (by decide) ?_
    refine xk_guardF rfl rfl rfl (by decide) ?_
    refine xk_guardF rfl rfl rfl (by decide) ?_
    refine xk_guardF rfl rfl rfl (by decide) ?_
    (first | refine xk_pickT rfl rfl (by decide) ?_ | refine xk_pickF rfl rfl (by decide) ?_)
    refine xk_assign rfl (by decide) ?_
    refine XK.nilN ?_
    refine XK.ret ?_
    refine XK.norm ?_
    have hn : decide (0 ≤ id) = false := by simp; omega
    exact XK.ret1 rfl rfl fun w1 st => ⟨by simp [wishF, hn], st.below (by simp)⟩

end Go.Proofs.Ytbcfbafpeidifaa
/- package table: what any agent wishes; what clocks can be turned on and off. -/
namespace Go.Proofs.Ytbcfbafpeidifaa
set_option linter.all false
open Go.RowKit
/-- what both agents wish, at a block -/
def StM (w : World) (g : Nat) (x y : Wsh) : Prop := ∀ i, i < 2 → WshM w g (i * 3) (if i = 0 then x else y)
def wishedF (x y : Wsh) (k id : Int) : Bool := wishF x k id || wishF y k id
theorem WshM.thn {w w' : World} {g o : Nat} {x : Wsh} (h : WshM w g o x) (hb : Below w.heap.size w w') : WshM w' g o x := by
  obtain ⟨A1, k1, A2, k2, A3, k3, h1, h2, h3, s1, s2, s3⟩ := h
  have hl : (all w).Le (all w') := fun b hb' => ⟨Nat.lt_of_lt_of_le hb' hb.size, hb.block b hb'⟩
  exact ⟨A1, k1, A2, k2, A3, k3, h1.thn hb, h2.thn hb, h3.thn hb, s1.le hl, s2.le hl, s3.le hl⟩
theorem StM.thn {w w' : World} {g : Nat} {x y : Wsh} (h : StM w g x y) (hb : Below w.heap.size w w') : StM w' g x y := fun i hi => (h i hi).thn hb

theorem wished_any (g : Nat) (x y : Wsh) (k id : Int) (w : World) (hM : StM w g x y) :
    Calls Try.prog 18 #[.pointer (some ⟨g, 0, none⟩), .int .u8 k, .int .i64 id] w (Rt (.bool (wishedF x y k id)) w) := by
  refine XK.enter (vs := [.pointer (some ⟨g, 0, none⟩), .int .u8 k, .int .i64 id]) Try.func18 rfl Try.ntmps18 (by simp) ?_
  refine XK.seq ?_

  refine XK.region ?_
  refine xk_assign rfl (by decide) ?_
  refine XK.nilN ?_
  refine XK.seq ?_
  refine XK.seq ?_

  refine XK.region ?_
  refine xk_move rfl (by decide) ?_
  refine XK.nilN ?_
  refine XK.envS [(8, .int .i64 0), (2, .int .i64 id), (1, .int .u8 k), (0, .pointer (some ⟨g, 0, none⟩))] ?_
  refine XK.block ?_
  refine XK.loop (fun m e R H => ∃ (i : Nat), i ≤ 2 ∧ m = 2 - i ∧ (∀ j, j < i → wishF (if j = 0 then x else y) k id = false) ∧ e = [(8, .int .i64 i), (2, .int .i64 id), (1, .int .u8 k), (0, .pointer (some ⟨g, 0, none⟩))] ∧ R = [all w] ∧ H = []) 2 ⟨0, by omega, rfl, (fun j hj => absurd hj (Nat.not_lt_zero j)), rfl, rfl, rfl⟩ fun m e R H hI => ?_
  obtain ⟨i, hi, rfl, hno, rfl, rfl, rfl⟩ := hI
  refine XK.seq ?_

  refine XK.region ?_
  refine xk_lss rfl rfl (by decide) ?_
  refine XK.nilN ?_
  refine XK.seq ?_
  refine XK.if_ rfl (fun h => ?_) (fun h => ?_)
  ·
    refine XK.skip ?_
    refine XK.norm ?_
    refine XK.seq ?_
    refine XK.block ?_
    refine XK.seq ?_

    refine XK.region ?_
    refine xk_move rfl (by decide) ?_
    refine xk_assign rfl (by decide) ?_
    refine XK.nilN ?_
    refine XK.seq ?_

    refine XK.region ?_
    refine xk_move rfl (by decide) ?_
    refine xk_move rfl (by decide) ?_
    refine xk_move rfl (by decide) ?_
    refine xk_move rfl (by decide) ?_
    have hi2 : i < 2 := by have h' : (i : Int) < 2 := h; omega
    refine xk_callR (f := 16) (fi := []) (ca := []) (by kernel_rfl) rfl rfl (by decide) (fun w1 st => wishes_any g i (if i = 0 then x else y) k id w1 hi2 ((hM i hi2).thn (st.below (by simp)))) ?_
    refine XK.nilN ?_
    refine XK.cond rfl (fun hw => ?_) (fun hw => ?_)
    ·
      refine XK.seq ?_

      refine XK.region ?_
      refine xk_assign rfl (by decide) ?_
      refine XK.nilN ?_
      refine XK.ret ?_
      refine XK.norm ?_
      have hr : wishedF x y k id = true := by
        unfold wishedF
        rcases (by omega : i = 0 ∨ i = 1) with rfl | rfl
        · simp at hw; simp [hw]
        · simp at hw; simp [hw]
      exact XK.ret1 rfl rfl fun w1 st => ⟨by rw [hr], st.below (by simp)⟩
    ·
      refine XK.skip ?_
      refine XK.norm ?_

      refine XK.region ?_
      refine xk_add rfl rfl (wrap_in (by omega)) (by decide) ?_
      refine xk_move rfl (by decide) ?_
      refine XK.nilN ?_
      exact XK.envS [(8, .int .i64 ((i : Int) + 1)), (2, .int .i64 id), (1, .int .u8 k), (0, .pointer (some ⟨g, 0, none⟩))] (XK.round (2 - (i + 1)) (by omega) ⟨i + 1, by omega, rfl, (fun j hj => by
        rcases Nat.lt_or_ge j i with h1 | h1
        · exact hno j h1
        · obtain rfl : j = i := by omega
          exact hw), rfl, rfl, rfl⟩)
  ·
    refine XK.exit ?_
    refine XK.norm ?_
    refine XK.seq ?_

    refine XK.region ?_
    refine xk_assign rfl (by decide) ?_
    refine XK.nilN ?_
    refine XK.ret ?_
    refine XK.norm ?_
    have hi2 : i = 2 := by have h' : ¬ (i : Int) < 2 := h; omega
    subst hi2
    have e0 := hno 0 (by omega)
    have e1 := hno 1 (by omega)
    have hr : wishedF x y k id = false := by
      unfold wishedF
      simp at e0 e1
      simp [e0, e1]
    exact XK.ret1 rfl rfl fun w1 st => ⟨by rw [hr], st.below (by simp)⟩

theorem switched_any (k : Int) (A : Option Addr) (n c : Nat) (r m d l : Int) (w : World) :
    Calls Try.prog 53 #[.agg #[.int .u8 k, .slice A n c, .int .u64 r, .int .i64 m, .int .i64 d, .int .i64 l]] w (Rt (.bool (decide (k = 112 ∨ k = 103))) w) := by
  refine XK.enter (vs := [.agg #[.int .u8 k, .slice A n c, .int .u64 r, .int .i64 m, .int .i64 d, .int .i64 l]]) Try.func53 rfl Try.ntmps53 (by simp) ?_
  refine XK.seq ?_

  refine XK.region ?_
  refine xk_box rfl (by decide) fun g1 => ?_
  refine xk_assign rfl (by decide) ?_
  refine XK.nilN ?_
  refine XK.seq ?_

  refine XK.region ?_
  refine xk_field (off := 0) (by kernel_rfl) rfl (by decide) ?_
  refine xk_ld rfl ?_
  refine xk_eql rfl rfl (by decide) ?_
  refine xk_move rfl (by decide) ?_
  (first | refine xk_split (t := 6) rfl (fun hg => ?_) (fun hg => ?_) | refine xk_splitB (t := 6) rfl (fun hg => ?_) (fun hg => ?_))
  ·
    refine xk_guardF rfl rfl rfl (by decide) ?_
    refine xk_guardF rfl rfl rfl (by decide) ?_
    refine xk_guardF rfl rfl rfl (by decide) ?_
    (first | refine xk_pickT rfl rfl (by decide) ?_ | refine xk_pickF rfl rfl (by decide) ?_)
    refine xk_assign rfl (by decide) ?_
    refine XK.nilN ?_
    refine XK.ret ?_
    refine XK.norm ?_
    exact XK.ret1 rfl rfl fun w1 st => ⟨by simp_all, st.below (by simp)⟩
  ·
    refine xk_guardT rfl rfl ?_; refine xk_field (off := 0) (by kernel_rfl) rfl (by decide) ?_
    refine xk_guardT rfl rfl ?_; refine xk_ld rfl ?_
    refine xk_guardT rfl rfl ?_; refine xk_eql rfl rfl (by decide) ?_
    (first | refine xk_pickT rfl rfl (by decide) ?_ | refine xk_pickF rfl rfl (by decide) ?_)
    refine xk_assign rfl (by decide) ?_
    refine XK.nilN ?_
    refine XK.ret ?_
    refine XK.norm ?_
    exact XK.ret1 rfl rfl fun w1 st => ⟨by simp_all, st.below (by simp)⟩

end Go.Proofs.Ytbcfbafpeidifaa
/- The small logic: maps whose keys are pairs of numbers. -/
namespace Go.Proofs.Ytbcfbafpeidifaa
set_option linter.all false
open Go.RowKit
def kP (p : Int × Int) : Value := .agg #[.int .i64 p.1, .int .i64 p.2]
/-- the map at r has these keys and values, in the order in which they came -/
def MapV (w : World) (r : Nat) (l : List ((Int × Int) × Value)) : Prop := ∃ es clock, w.heap[r]? = some (.map es clock) ∧ es.toList.map (fun x => (x.key, x.val)) = l.map fun p => (kP p.1, p.2)
def mgetP (l : List ((Int × Int) × Value)) (k : Int × Int) : Option Value := (l.find? fun p => decide (p.1 = k)).map (·.2)
theorem mgetP_cons (a : Int × Int) (b : Value) (l : List ((Int × Int) × Value)) (k : Int × Int) : mgetP ((a, b) :: l) k = if a = k then some b else mgetP l k := by
  unfold mgetP
  rw [List.find?_cons]
  by_cases h : a = k <;> simp [h]
section
variable {P : Program} {w : World} {kt : TypeId}
theorem eq_kP (hfl : ∀ a b c d : Int, flatB P kt [.int .i64 a, .int .i64 b] [.int .i64 c, .int .i64 d] = true) (p q : Int × Int) : (Op.equal kt (kP p) (kP q)).run P w = .ok (decide (q = p)) w := by
  obtain ⟨h, _⟩ := run_eqS (P := P) (w := w) (hfl p.1 p.2 q.1 q.2)
  rw [show kP p = .agg [Value.int .i64 p.1, .int .i64 p.2].toArray from rfl, show kP q = .agg [Value.int .i64 q.1, .int .i64 q.2].toArray from rfl, h]
  congr 1
  obtain ⟨a, b⟩ := p
  obtain ⟨c, d⟩ := q
  simp only [eqVs, eqV, Prod.mk.injEq]
  by_cases h1 : a = c
  · subst h1
    by_cases h2 : b = d
    · subst h2; simp
    · have h3 : ¬ d = b := fun e => h2 e.symm
      simp [h2, h3]
  · have h3 : ¬ c = a := fun e => h1 e.symm
    simp [h1, h3]
theorem ask_kP (hfl : ∀ a b c d : Int, flatB P kt [.int .i64 a, .int .i64 b] [.int .i64 c, .int .i64 d] = true) (k : Int × Int) : ∀ (es : List MapEntry) (l : List ((Int × Int) × Value)) (i : Nat), es.map (fun x => (x.key, x.val)) = l.map (fun p => (kP p.1, p.2)) →
    ∃ q, (Instr.findAsking kt (kP k) es i).run P w = .ok q w ∧ q.map (·.2) = mgetP l k
  | [], l, i, h => by
    cases l with
    | nil => exact ⟨none, by simp [Instr.findAsking], rfl⟩
    | cons _ _ => cases h
  | e :: es, l, i, h => by
    cases l with
    | nil => cases h
    | cons p l =>
      simp only [List.map_cons, List.cons.injEq, Prod.mk.injEq] at h
      obtain ⟨⟨h1, h2⟩, h3⟩ := h
      obtain ⟨q, hq1, hq2⟩ := ask_kP hfl k es l (i + 1) h3
      obtain ⟨a, b⟩ := p
      have he := eq_kP (w := w) hfl k a
      rw [← h1] at he
      by_cases hk : a = k
      · refine ⟨some (i, e.val), ?_, ?_⟩
        · unfold Instr.findAsking
          simp [Sem.run_bind, he, hk]
        · rw [mgetP_cons, if_pos hk]; simp [h2]
      · refine ⟨q, ?_, ?_⟩
        · unfold Instr.findAsking
          simp [Sem.run_bind, he, hk, hq1]
        · rw [mgetP_cons, if_neg hk]; exact hq2
theorem check_kP {f0 f1 : Field} {k0 k1 : IntKind} (hk : P.underlying kt = some (.struct #[f0, f1])) (h0 : P.underlying f0.type = some (.int k0)) (h1 : P.underlying f1.type = some (.int k1)) (o0 : f0.offset = 0) (o1 : f1.offset = 1) (p : Int × Int) (b : Bool) : (Instr.checkKey b 10000 kt (kP p)).run P w = .ok () w := by
  have e0 := run_part_one (P := P) (w := w) (cs := #[.int .i64 p.1, .int .i64 p.2]) (i := 0) (v := .int .i64 p.1) h0 (.inl ⟨_, rfl⟩) rfl
  have e1 := run_part_one (P := P) (w := w) (cs := #[.int .i64 p.1, .int .i64 p.2]) (i := 1) (v := .int .i64 p.2) h1 (.inl ⟨_, rfl⟩) rfl
  have c0 : (Instr.checkKey b 9999 f0.type (.int .i64 p.1)).run P w = .ok () w := by
    unfold Instr.checkKey
    simp [Sem.run_bind, run_underlying h0]
  have c1 : (Instr.checkKey b 9999 f1.type (.int .i64 p.2)).run P w = .ok () w := by
    unfold Instr.checkKey
    simp [Sem.run_bind, run_underlying h1]
  unfold Instr.checkKey kP
  by_cases n0 : f0.name = "_" <;> by_cases n1 : f1.name = "_" <;> simp [Sem.run_bind, run_underlying hk, n0, n1, o0, o1, e0, e1, c0, c1]
end
/-- what a key type of pairs asks -/
structure PairK (P : Program) (kt : TypeId) : Prop where
  st : ∃ f0 f1 k0 k1, P.underlying kt = some (.struct #[f0, f1]) ∧ P.underlying f0.type = some (.int k0) ∧ P.underlying f1.type = some (.int k1) ∧ f0.offset = 0 ∧ f1.offset = 1
  fl : ∀ a b c d : Int, flatB P kt [.int .i64 a, .int .i64 b] [.int .i64 c, .int .i64 d] = true
theorem PairK.of {P : Program} {kt : TypeId} {f0 f1 : Field} {k0 k1 : IntKind} (h : P.underlying kt = some (.struct #[f0, f1])) (h0 : P.underlying f0.type = some (.int k0)) (h1 : P.underlying f1.type = some (.int k1)) (o0 : f0.offset = 0) (o1 : f1.offset = 1) (fl : ∀ a b c d : Int, flatB P kt [.int .i64 a, .int .i64 b] [.int .i64 c, .int .i64 d] = true) : PairK P kt := ⟨⟨f0, f1, k0, k1, h, h0, h1, o0, o1⟩, fl⟩
section
variable {P : Program} {w : World} {t kt et : TypeId} {r : Nat} {l : List ((Int × Int) × Value)}
theorem find_kP (hk : PairK P kt) (k : Int × Int) (es : List MapEntry) (h : es.map (fun x => (x.key, x.val)) = l.map (fun p => (kP p.1, p.2))) : ∃ q, (Instr.findKey kt (kP k) es).run P w = .ok q w ∧ q.map (·.2) = mgetP l k := by
  obtain ⟨f0, f1, k0, k1, hu, _⟩ := hk.st
  obtain ⟨q, h1, h2⟩ := ask_kP (w := w) hk.fl k es l 0 h
  cases es with
  | nil =>
    cases l with
    | cons _ _ => cases h
    | nil => exact ⟨none, by simp [Instr.findKey, Sem.run_bind, run_underlying hu, Instr.findNow], rfl⟩
  | cons e es =>
    refine ⟨q, ?_, h2⟩
    unfold Instr.findKey
    have : Instr.findNow (.struct #[f0, f1]) (kP k) (e :: es) 0 = none := by
      unfold Instr.findNow Instr.sameNow
      rfl
    simp [Sem.run_bind, run_underlying hu, this, h1]
theorem run_lookup_kP {z : Value} (ht : P.underlying t = some (.map kt et)) (hk : PairK P kt) (hz : ∀ w, (zeroValue et).run P w = .ok z w) (h : MapV w r l) (k : Int × Int) (ok : Bool) :
    (Instr.lookup t (.map (some r)) (kP k) ok).run P w = .ok (if ok then .tuple #[(mgetP l k).getD z, .bool (mgetP l k).isSome] else (mgetP l k).getD z) w := by
  obtain ⟨es, c, h1, h2⟩ := h
  obtain ⟨q, hf, hq2⟩ := find_kP (w := w) hk k es.toList h2
  obtain ⟨f0, f1, k0, k1, hu, u0, u1, o0, o1⟩ := hk.st
  have hc := fun b => check_kP (w := w) hu u0 u1 o0 o1 k b
  unfold Instr.lookup
  rw [← hq2]
  cases q with
  | none => cases ok <;> simp [Sem.run_bind, run_underlying ht, run_getObj_map h1, hc, hf, hz]
  | some x => obtain ⟨j, v⟩ := x; cases ok <;> simp [Sem.run_bind, run_underlying ht, run_getObj_map h1, hc, hf]
theorem run_insert_kP (ht : P.underlying t = some (.map kt et)) (hk : PairK P kt) (h : MapV w r l) (k : Int × Int) (v : Value) (hno : mgetP l k = none) :
    ∃ es c, (Instr.mapUpdate t (.map (some r)) (kP k) v).run P w = .ok () { w with heap := w.heap.setIfInBounds r (.map es c) } ∧ es.toList.map (fun x => (x.key, x.val)) = (l ++ [(k, v)]).map fun p => (kP p.1, p.2) := by
  obtain ⟨es, c, h1, h2⟩ := h
  obtain ⟨q, hf, hq2⟩ := find_kP (w := w) hk k es.toList h2
  obtain ⟨f0, f1, k0, k1, hu, u0, u1, o0, o1⟩ := hk.st
  have hc := fun b => check_kP (w := w) hu u0 u1 o0 o1 k b
  have hset : ∀ o, (setObj r o).run P w = .ok () { w with heap := w.heap.setIfInBounds r o } := fun o => by simp [setObj, Sem.run, h1]
  rw [hno] at hq2
  obtain rfl : q = none := by cases q with | none => rfl | some x => cases hq2
  refine ⟨es.push { key := kP k, val := v, born := c }, c + 1, ?_, ?_⟩
  · unfold Instr.mapUpdate
    simp [Sem.run_bind, run_underlying ht, run_getObj_map h1, hc, hf, hset]
  · rw [Array.toList_push, List.map_append, h2]
    simp
end
def HP.mapV (r : Nat) (l : List ((Int × Int) × Value)) : HP := ⟨fun F w => F r ∧ MapV w r l, fun F w w' h hk => ⟨h.1, by
  obtain ⟨es, c, h1, h2⟩ := h.2
  exact ⟨es, c, (hk r h.1).trans h1, h2⟩⟩⟩
theorem MapV.lt {w : World} {r : Nat} {l : List ((Int × Int) × Value)} (h : MapV w r l) : r < w.heap.size := by
  obtain ⟨es, c, h1, _⟩ := h
  rcases Nat.lt_or_ge r w.heap.size with h | h
  · exact h
  · rw [Array.getElem?_eq_none h] at h1; cases h1
section
variable {P : Program} {N : Nat} {w0 w : World} {e : Env} {R : List Piece} {H : List HP} {Q : Exit → Act → World → Prop} {ops : Array Oper} {rest : List Oper}
variable {d : Nat} {ty : TypeId} {pos : String} {aft : Array Edge}
theorem St.mapV (st : St w0 R H w) {i r : Nat} {l : List ((Int × Int) × Value)} (hi : H[i]? = some (HP.mapV r l)) : MapV w r l := (st.sat hi).choose_spec.2
theorem xk_makeMapV {t : TypeId} (hd : d < N) (k : ∀ g, XK N w0 (wpList P ops Q rest) ((d, .map (some g)) :: e) R (HP.mapV g [] :: H)) : XK N w0 (wpList P ops Q (⟨some d, .makeMap t none, ty, pos, aft, none⟩ :: rest)) e R H :=
  xk_run rfl fun a w hr st => ⟨.map (some w.heap.size), w.alloc (.map #[] 0), by simp [execOp, Instr.makeMap], k w.heap.size _ _ (hr.put hd _) (st.new (alloc_below w _) ⟨⟨Nat.le_refl _, by simp⟩, #[], 0, heap_alloc_new w _, rfl⟩)⟩
theorem xk_lookupV {x y : Operand} {t kt et : TypeId} {z : Value} {r : Nat} {l : List ((Int × Int) × Value)} {k : Int × Int} (ok : Bool) (ht : P.underlying t = some (.map kt et)) (hk : PairK P kt) (hz : (P.info? et).bind (·.zero) = some z)
    (hx : e.ev x = some (.map (some r))) (hy : e.ev y = some (kP k)) (hm : ∀ w, St w0 R H w → MapV w r l) (hd : d < N)
    (kk : XK N w0 (wpList P ops Q rest) ((d, if ok then .tuple #[(mgetP l k).getD z, .bool (mgetP l k).isSome] else (mgetP l k).getD z) :: e) R H) : XK N w0 (wpList P ops Q (⟨some d, .lookup t x y ok, ty, pos, aft, none⟩ :: rest)) e R H :=
  xk_run rfl fun a w hr st => ⟨_, w, by simp only [execOp, hr.ev hx, hr.ev hy, Sem.run_bind, run_lookup_kP ht hk (zeroV hz) (hm w st), Result.andThen_ok, Sem.run_pure], kk _ _ (hr.put hd _) st⟩
theorem xk_lookupT {x y : Operand} {t kt et : TypeId} {z v : Value} {r : Nat} {l : List ((Int × Int) × Value)} {k : Int × Int} {b : Bool} (ht : P.underlying t = some (.map kt et)) (hk : PairK P kt) (hz : (P.info? et).bind (·.zero) = some z)
    (hx : e.ev x = some (.map (some r))) (hy : e.ev y = some (kP k)) (hm : ∀ w, St w0 R H w → MapV w r l) (hv : (mgetP l k).getD z = v) (hb : (mgetP l k).isSome = b) (hd : d < N)
    (kk : XK N w0 (wpList P ops Q rest) ((d, .tuple #[v, .bool b]) :: e) R H) : XK N w0 (wpList P ops Q (⟨some d, .lookup t x y true, ty, pos, aft, none⟩ :: rest)) e R H :=
  xk_lookupV true ht hk hz hx hy hm hd (by subst hv; subst hb; exact kk)
theorem xk_insertV (i : Nat) {x y u : Operand} {t kt et : TypeId} {r : Nat} {l : List ((Int × Int) × Value)} {k : Int × Int} {v : Value} (ht : P.underlying t = some (.map kt et)) (hk : PairK P kt) (hi : H[i]? = some (HP.mapV r l)) (hno : mgetP l k = none)
    (hx : e.ev x = some (.map (some r))) (hy : e.ev y = some (kP k)) (hu : e.ev u = some v) (kk : XK N w0 (wpList P ops Q rest) e R (H.set i (HP.mapV r (l ++ [(k, v)])))) : XK N w0 (wpList P ops Q (⟨none, .insert t x y u, ty, pos, aft, none⟩ :: rest)) e R H :=
  xk_skip rfl rfl fun a w hr st => by
    have hm := st.mapV hi
    have hlt := hm.lt
    obtain ⟨es, c, hrun, hl⟩ := run_insert_kP (P := P) ht hk hm k v hno
    refine ⟨{ w with heap := w.heap.setIfInBounds r (.map es c) }, by simp only [execOp, hr.ev hx, hr.ev hy, hr.ev hu, Sem.run_bind, hrun, Result.andThen_ok, Sem.run_pure], kk _ _ hr ?_⟩
    refine st.turn hi (by simp) rfl rfl rfl fun F hF hb => ⟨F, ⟨hF.1, es, c, by simp [Array.getElem?_setIfInBounds, hlt], hl⟩, fun b h => ⟨.inl h, by simpa using hb b h⟩, fun b hb hnb => ?_⟩
    rw [Array.getElem?_setIfInBounds]
    split
    · rename_i he; exact absurd (he ▸ hF.1) hnb
    · rfl
end
end Go.Proofs.Ytbcfbafpeidifaa
/- The small logic: entries that are laid into a map, in whatever order they come up. -/
namespace Go.Proofs.Ytbcfbafpeidifaa
set_option linter.all false
open Go.RowKit
theorem markA_size : ∀ (sub : List Nat) (l : Array Bool), (markA sub l).size = l.size
  | [], l => rfl
  | i :: sub, l => by
    show ((markA sub l).setIfInBounds i true).size = _
    rw [Array.size_setIfInBounds, markA_size sub l]
theorem markA_in : ∀ (sub : List Nat) (l : Array Bool) (i : Nat) (b : Bool), i ∈ sub → i < l.size → (markA sub l).getD i b = true
  | j :: sub, l, i, b, h, hi => by
    show ((markA sub l).setIfInBounds j true).getD i b = true
    by_cases e : j = i
    · subst e
      have : j < (markA sub l).size := by rw [markA_size]; exact hi
      simp [this]
    · rw [getD_set_ne b e]
      rcases List.mem_cons.1 h with h | h
      · exact absurd h.symm e
      · exact markA_in sub l i b h hi
theorem markA_out : ∀ (sub : List Nat) (l : Array Bool) (i : Nat) (b : Bool), i ∉ sub → (markA sub l).getD i b = l.getD i b
  | [], l, i, b, _ => rfl
  | j :: sub, l, i, b, h => by
    show ((markA sub l).setIfInBounds j true).getD i b = _
    have e : j ≠ i := fun e => h (by simp [e])
    rw [getD_set_ne b e]
    exact markA_out sub l i b fun h2 => h (by simp [h2])
theorem markA_mono {sub : List Nat} {l : Array Bool} {i : Nat} (h : l.getD i false = true) : (markA sub l).getD i false = true := by
  by_cases hi : i ∈ sub
  · refine markA_in sub l i false hi ?_
    rcases Nat.lt_or_ge i l.size with h1 | h1
    · exact h1
    · simp [Array.getElem?_eq_none h1] at h
  · rw [markA_out sub l i false hi]; exact h
/-- those of I hang on what is listed alone; all others on each of I -/
def insB (ops : Array Oper) (I : List Nat) (listed : Array Bool) : Bool :=
  I.all (fun i => decide (i < listed.size) && !(listed.getD i true) && match ops[i]? with
    | some o => o.after.toList.all fun x => !(Region.binds .any x) || listed.getD x.on false
    | none => false) &&
  (List.range ops.size).all fun j => I.contains j || listed.getD j true || match ops[j]? with
    | some o => I.all fun i => o.after.toList.any fun x => Region.binds .any x && x.on == i
    | none => true
theorem ready_ins {ops : Array Oper} {I sub : List Nat} {listed : Array Bool} (hB : insB ops I listed = true) (hsub : ∀ i ∈ sub, i ∈ I) {i0 : Nat} (hi0 : i0 ∈ I) (hn0 : i0 ∉ sub) :
    Region.ready .any ops (markA sub listed) ≠ [] ∧ ∀ j ∈ Region.ready .any ops (markA sub listed), j ∈ I ∧ j ∉ sub := by
  unfold insB at hB
  rw [Bool.and_eq_true, List.all_eq_true, List.all_eq_true] at hB
  obtain ⟨hA, hC⟩ := hB
  have h0 := hA i0 hi0
  simp only [Bool.and_eq_true, decide_eq_true_eq, Bool.not_eq_true'] at h0
  obtain ⟨⟨h1, h2⟩, h3⟩ := h0
  constructor
  · cases ho : ops[i0]? with
    | none => rw [ho] at h3; cases h3
    | some o =>
      rw [ho] at h3
      simp only [List.all_eq_true] at h3
      have : i0 ∈ Region.ready .any ops (markA sub listed) := mem_ready.2 ⟨by rw [markA_out _ _ _ _ hn0]; exact h2, o, ho, fun x hx hb => by
        have := h3 x (by simpa using hx)
        rw [hb] at this
        exact markA_mono (by simpa using this)⟩
      intro he
      rw [he] at this
      cases this
  · intro j hj
    obtain ⟨g1, o, ho, g2⟩ := mem_ready.1 hj
    have hjn : j ∉ sub := fun h => by
      have hA' := hA j (hsub j h)
      simp only [Bool.and_eq_true, decide_eq_true_eq] at hA'
      rw [markA_in sub listed j true h hA'.1.1] at g1
      cases g1
    refine ⟨?_, hjn⟩
    rw [markA_out _ _ _ _ hjn] at g1
    have hlt : j < ops.size := (Array.getElem?_eq_some_iff.1 ho).1
    have hc := hC j (List.mem_range.2 hlt)
    rw [g1, ho] at hc
    simp only [Bool.or_false, Bool.or_eq_true] at hc
    rcases hc with hc | hc
    · simpa using hc
    · exfalso
      rw [List.all_eq_true] at hc
      have := hc i0 hi0
      rw [List.any_eq_true] at this
      obtain ⟨x, hx, hb⟩ := this
      simp only [Bool.and_eq_true, beq_iff_eq] at hb
      have := g2 x (by simpa using hx) hb.1
      rw [hb.2, markA_out _ _ _ _ hn0] at this
      have h4 : listed.getD i0 true = listed.getD i0 false := by simp [h1]
      rw [h4, this] at h2
      cases h2
theorem perm_of_len {I sub : List Nat} (hI : I.Nodup) (hn : sub.Nodup) (hin : ∀ i ∈ sub, i ∈ I) : (I.filter fun i => sub.contains i).Perm sub := by
  rw [List.perm_iff_count]
  intro a
  rw [(hI.sublist List.filter_sublist).count, hn.count]
  by_cases ha : a ∈ sub
  · rw [if_pos ha, if_pos (by simp [ha, hin a ha])]
  · rw [if_neg ha, if_neg (by simp [ha])]
theorem mgetP_perm {l1 l2 : List ((Int × Int) × Value)} (h : l1.Perm l2) (hn : (l1.map (·.1)).Nodup) (k : Int × Int) : mgetP l1 k = mgetP l2 k := by
  induction h with
  | nil => rfl
  | cons x _ ih =>
    obtain ⟨a, b⟩ := x
    rw [mgetP_cons, mgetP_cons, ih (List.nodup_cons.1 hn).2]
  | swap x y s =>
    obtain ⟨a, b⟩ := x
    obtain ⟨c, d⟩ := y
    have hne : c ≠ a := fun e => (List.nodup_cons.1 hn).1 (by rw [e]; simp)
    simp only [mgetP_cons]
    by_cases h1 : a = k
    · have : c ≠ k := fun e => hne (e.trans h1.symm)
      simp [h1, this]
    · simp [h1]
  | trans h1 h2 i1 i2 => exact (i1 hn).trans (i2 ((h1.map _).nodup_iff.1 hn))
theorem mgetP_none {l : List ((Int × Int) × Value)} {k : Int × Int} (h : k ∉ l.map (·.1)) : mgetP l k = none := by
  induction l with
  | nil => rfl
  | cons x l ih =>
    obtain ⟨a, b⟩ := x
    rw [List.map_cons, List.mem_cons, not_or] at h
    rw [mgetP_cons, if_neg (fun e => h.1 e.symm)]
    exact ih h.2
section
variable {P : Program} {N : Nat} {w0 w : World} {e : Env} {R R0 : List Piece} {H H0 : List HP} {Q : Exit → Act → World → Prop} {ops : Array Oper} {m fuel : Nat} {listed : Array Bool}
/-- an operation that lays an entry into the map -/
def Lays (P : Program) (ops : Array Oper) (e : Env) (r : Nat) (i : Nat) (p : (Int × Int) × Value) : Prop := ∃ x y u ty pos aft t kt et, ops[i]? = some ⟨none, .insert t x y u, ty, pos, aft, none⟩ ∧ P.underlying t = some (.map kt et) ∧ PairK P kt ∧ e.ev x = some (.map (some r)) ∧ e.ev y = some (kP p.1) ∧ e.ev u = some p.2
theorem XA.inserts (I : List Nat) (ents : Nat → (Int × Int) × Value) (r : Nat) (hI : I.Nodup) (hop : ∀ i ∈ I, Lays P ops e r i (ents i)) (hkeys : (I.map fun i => (ents i).1).Nodup) (hB : insB ops I listed = true)
    (hS : ∀ l w, St w0 R (HP.mapV r l :: H) w → St w0 R0 H0 w)
    (k : ∀ sub : List Nat, sub.Perm I → XA P N w0 ops Q R0 H0 m fuel (markA sub listed) e R (HP.mapV r (sub.reverse.map ents) :: H)) : XA P N w0 ops Q R0 H0 m (fuel + I.length) listed e R (HP.mapV r [] :: H) := by
  have key : ∀ (n : Nat) (sub : List Nat), sub.Nodup → (∀ i ∈ sub, i ∈ I) → sub.length + n = I.length → XA P N w0 ops Q R0 H0 m (fuel + n) (markA sub listed) e R (HP.mapV r (sub.reverse.map ents) :: H) := by
    intro n
    induction n with
    | zero =>
      intro sub hn hin hl
      have hp := perm_of_len hI hn hin
      have hf : (I.filter fun i => sub.contains i) = I := List.filter_sublist.eq_of_length (by have := hp.length_eq; omega)
      rw [hf] at hp
      exact k sub hp.symm
    | succ n ih =>
      intro sub hn hin hl
      obtain ⟨i0, hi0, hn0⟩ : ∃ i, i ∈ I ∧ i ∉ sub := Classical.byContradiction fun hno => by
        have hp := perm_of_len hI hn hin
        have hf : (I.filter fun i => sub.contains i) = I := List.filter_eq_self.2 fun i hi => by
          rcases Classical.em (i ∈ sub) with h | h
          · simpa using h
          · exact absurd ⟨i, hi, h⟩ hno
        rw [hf] at hp
        have := hp.length_eq
        omega
      obtain ⟨r1, r2⟩ := ready_ins hB hin hi0 hn0
      intro up a w hrp st
      refine ⟨fun h => absurd h r1, fun i hi => ?_⟩
      obtain ⟨hiI, hin2⟩ := r2 i hi
      obtain ⟨x, y, u, ty, pos, aft, t, kt, et, ho, ht, hk, hx, hy, hu⟩ := hop i hiI
      have hno : mgetP (sub.reverse.map ents) (ents i).1 = none := mgetP_none fun hm => by
        simp only [List.map_map, List.mem_map, List.mem_reverse, Function.comp] at hm
        obtain ⟨j, hj, he⟩ := hm
        have hji : j ≠ i := fun e => hin2 (e ▸ hj)
        exact hji (Classical.byContradiction fun hne => by
          have h1 := List.pairwise_map.1 hkeys
          exact absurd he (by
            obtain ⟨a, ha⟩ := List.getElem?_of_mem (hin j hj)
            obtain ⟨b, hb⟩ := List.getElem?_of_mem hiI
            have hal := (List.getElem?_eq_some_iff.1 ha).1
            have hbl := (List.getElem?_eq_some_iff.1 hb).1
            have hav := (List.getElem?_eq_some_iff.1 ha).2
            have hbv := (List.getElem?_eq_some_iff.1 hb).2
            have h2 := List.pairwise_iff_getElem.1 h1
            rcases Nat.lt_trichotomy a b with h | h | h
            · have := h2 a b hal hbl h; rw [hav, hbv] at this; exact this
            · subst h; exact absurd (hav.symm.trans hbv) hji
            · have := h2 b a hbl hal h; rw [hav, hbv] at this; exact fun e => this e.symm))
      refine xa_step ho (fun a w h => ⟨h.1, h.2 (up.set_ hi)⟩) (K := XAK P w0 ops Q R0 H0 m (fuel + n) (markA sub listed) i) ?_
      have := xk_insertV (P := P) (N := N) (w0 := w0) (R := R) (H := HP.mapV r (sub.reverse.map ents) :: H) (Q := Exit.then (XAK P w0 ops Q R0 H0 m (fuel + n) (markA sub listed) i) Q) (ops := ops) (rest := []) (ty := ty) (pos := pos) (aft := aft) 0 ht hk rfl hno hx hy hu
        (XK.nil (XK.thenN (XA.back (hS _) (by
          have := ih (i :: sub) (List.nodup_cons.2 ⟨hin2, hn⟩) (fun j hj => by
            rcases List.mem_cons.1 hj with rfl | hj
            · exact hiI
            · exact hin j hj) (by simp only [List.length_cons]; omega)
          rw [List.reverse_cons, List.map_append] at this
          exact this))))
      exact this a w hrp st
  exact key I.length [] List.nodup_nil (fun _ h => by cases h) (by simp)
end
end Go.Proofs.Ytbcfbafpeidifaa
/- package table: the messages that there are. -/
namespace Go.Proofs.Ytbcfbafpeidifaa
set_option linter.all false
open Go.RowKit
theorem fill_le (L : List (Nat × Nat)) (place : Nat → Option (Nat × Nat)) (hp : ∀ i x, L[i]? = some x → place i = some x) : ∀ (ps : List (Nat × Value)) (cs cs' : List Value), fillL L cs ps = some cs' → Instr.fill place cs.toArray ps = some cs'.toArray
  | [], cs, cs', h => by cases h; rfl
  | (i, v) :: rest, cs, cs', h => by
    unfold fillL at h
    unfold Instr.fill
    split at h
    · rename_i off sz hL
      rw [hp _ _ hL]
      split at h
      · rename_i hc
        have e1 : (decide (v.cells.size ≠ sz) || decide (off + v.cells.size > cs.toArray.size)) = false := by simp; omega
        simp only [e1, Bool.false_eq_true, if_false]
        have := setN_fold v.cells.toList cs off 0
        rw [show v.cells.zipIdx.foldl (fun cs (c, j) => cs.setIfInBounds (off + j) c) cs.toArray = (setN cs off v.cells.toList).toArray by
          rw [← Array.foldl_toList, Array.toList_zipIdx]; exact this]
        exact fill_le L place hp rest _ cs' h
      · cases h
    · cases h
section
variable {P : Program} {N : Nat} {w0 : World} {e : Env} {R : List Piece} {H : List HP} {d : Nat} {ty : TypeId} {pos : String} {aft : Array Edge}
theorem does_buildA {t el : TypeId} {n sz : Nat} {ps : List (Nat × Operand)} {vs : List (Nat × Value)} {zs cs : List Value} (hz : zeroB P t zs) (ht : P.underlying t = some (.array n el)) (hsz : (P.info? el).map (·.size) = some sz) (hp : e.parts ps = some vs) (hf : fillL ((List.range n).map fun i => (i * sz, sz)) zs vs = some cs) : Does P N w0 e R H ⟨some d, .build t ps.toArray, ty, pos, aft, none⟩ (.agg cs.toArray) :=
  does_of (fun a w hr => by
    have := hr.parts hp
    obtain ⟨i, z, hi, hzz, rfl⟩ := hz
    obtain ⟨j, hj, rfl⟩ := Option.map_eq_some_iff.1 hsz
    have hfl := fill_le _ (fun i => some (i * j.size, j.size)) (fun i x hx => by
      rw [List.getElem?_map] at hx
      obtain ⟨q, hq, rfl⟩ := Option.map_eq_some_iff.1 hx
      have hlt : i < n := by
        rcases Nat.lt_or_ge i n with h | h
        · exact h
        · rw [List.getElem?_eq_none (by simpa using h)] at hq; cases hq
      rw [List.getElem?_range hlt] at hq
      cases hq
      rfl) vs z.cells.toList cs hf
    simp at hfl
    simp only [execOp, List.map_toArray, this]
    simp [Instr.build, zeroValue, typeInfo, sizeOf, hi, hj, hzz, run_underlying ht, hfl])
end
def frm (n m a b c : Int) : Value := .agg #[.int .i64 n, .int .i64 m, .int .u8 a, .int .u8 b, .int .u8 c]
theorem msgK : PairK Try.prog 107 := PairK.of Try.underlying107 Try.underlying3 Try.underlying3 rfl rfl (fun _ _ _ _ => by kernel_rfl)
/-- the messages that there are, by the places of their operations -/
def frmE : Nat → (Int × Int) × Value
  | 3 => ((16, 0), frm 0 0 0 0 0) | 6 => ((17, 0), frm 0 0 0 0 0) | 9 => ((20, 0), frm 0 0 0 0 0) | 12 => ((22, 0), frm 0 0 0 0 0) | 15 => ((16, 1), frm 0 0 0 0 0)
  | 19 => ((17, 4), frm 2 3 100 117 107) | 22 => ((17, 5), frm 1 0 0 0 0) | 25 => ((20, 6), frm 1 0 0 0 0) | 29 => ((20, 7), frm 2 2 111 99 0) | _ => ((22, 4), frm 2 2 114 97 0)
def frmI : List Nat := [3, 6, 9, 12, 15, 19, 22, 25, 29, 33]
def frmL : List ((Int × Int) × Value) := frmI.map frmE
def FormsOk (v : Value) (hs : List HP) (_ : Piece) : Prop := ∃ (g : Nat) (sub : List Nat), v = .map (some g) ∧ sub.Perm frmI ∧ hs = [HP.mapV g (sub.reverse.map frmE)]

theorem forms_any (w : World) : Calls Try.prog 51 #[] w (fun y w' => (∃ v hs q, y = .returned v ∧ q.w = w' ∧ FormsOk v hs q ∧ New w hs q) ∧ Below w.heap.size w w') := by
  refine XK.enter (vs := []) Try.func51 rfl Try.ntmps51 (by simp) ?_
  refine XK.seq ?_

  refine XK.region ?_
  refine xk_assign rfl (by decide) ?_
  refine XK.nilN ?_
  refine XK.seq ?_

  refine XK.draw 34 (by kernel_rfl) (by kernel_rfl) ?_
  refine XA.do_ 1 rfl rfl rfl (by decide) (does_buildS (zs := [.int .i64 0, .int .i64 0]) (L := [(0, 1), (1, 1)]) (zeroB_of (by kernel_rfl)) (by kernel_rfl) rfl (by simp [fillL, setN, Value.cells]; rfl)) (by kernel_rfl) (fun _ _ _ h => h) (fun _ h => h) ?_
  refine XA.do_ 2 rfl rfl rfl (by decide) (does_buildS (zs := [.int .i64 0, .int .i64 0, .int .u8 0, .int .u8 0, .int .u8 0]) (L := [(0, 1), (1, 1), (2, 3)]) (zeroB_of (by kernel_rfl)) (by kernel_rfl) rfl (by simp [fillL, setN, Value.cells]; rfl)) (by kernel_rfl) (fun _ _ _ h => h) (fun _ h => h) ?_
  refine XA.do_ 4 rfl rfl rfl (by decide) (does_buildS (zs := [.int .i64 0, .int .i64 0]) (L := [(0, 1), (1, 1)]) (zeroB_of (by kernel_rfl)) (by kernel_rfl) rfl (by simp [fillL, setN, Value.cells]; rfl)) (by kernel_rfl) (fun _ _ _ h => h) (fun _ h => h) ?_
  refine XA.do_ 5 rfl rfl rfl (by decide) (does_buildS (zs := [.int .i64 0, .int .i64 0, .int .u8 0, .int .u8 0, .int .u8 0]) (L := [(0, 1), (1, 1), (2, 3)]) (zeroB_of (by kernel_rfl)) (by kernel_rfl) rfl (by simp [fillL, setN, Value.cells]; rfl)) (by kernel_rfl) (fun _ _ _ h => h) (fun _ h => h) ?_
  refine XA.do_ 7 rfl rfl rfl (by decide) (does_buildS (zs := [.int .i64 0, .int .i64 0]) (L := [(0, 1), (1, 1)]) (zeroB_of (by kernel_rfl)) (by kernel_rfl) rfl (by simp [fillL, setN, Value.cells]; rfl)) (by kernel_rfl) (fun _ _ _ h => h) (fun _ h => h) ?_
  refine XA.do_ 8 rfl rfl rfl (by decide) (does_buildS (zs := [.int .i64 0, .int .i64 0, .int .u8 0, .int .u8 0, .int .u8 0]) (L := [(0, 1), (1, 1), (2, 3)]) (zeroB_of (by kernel_rfl)) (by kernel_rfl) rfl (by simp [fillL, setN, Value.cells]; rfl)) (by kernel_rfl) (fun _ _ _ h => h) (fun _ h => h) ?_
  refine XA.do_ 10 rfl rfl rfl (by decide) (does_buildS (zs := [.int .i64 0, .int .i64 0]) (L := [(0, 1), (1, 1)]) (zeroB_of (by kernel_rfl)) (by kernel_rfl) rfl (by simp [fillL, setN, Value.cells]; rfl)) (by kernel_rfl) (fun _ _ _ h => h) (fun _ h => h) ?_
  refine XA.do_ 11 rfl rfl rfl (by decide) (does_buildS (zs := [.int .i64 0, .int .i64 0, .int .u8 0, .int .u8 0, .int .u8 0]) (L := [(0, 1), (1, 1), (2, 3)]) (zeroB_of (by kernel_rfl)) (by kernel_rfl) rfl (by simp [fillL, setN, Value.cells]; rfl)) (by kernel_rfl) (fun _ _ _ h => h) (fun _ h => h) ?_
  refine XA.do_ 13 rfl rfl rfl (by decide) (does_buildS (zs := [.int .i64 0, .int .i64 0]) (L := [(0, 1), (1, 1)]) (zeroB_of (by kernel_rfl)) (by kernel_rfl) rfl (by simp [fillL, setN, Value.cells]; rfl)) (by kernel_rfl) (fun _ _ _ h => h) (fun _ h => h) ?_
  refine XA.do_ 14 rfl rfl rfl (by decide) (does_buildS (zs := [.int .i64 0, .int .i64 0, .int .u8 0, .int .u8 0, .int .u8 0]) (L := [(0, 1), (1, 1), (2, 3)]) (zeroB_of (by kernel_rfl)) (by kernel_rfl) rfl (by simp [fillL, setN, Value.cells]; rfl)) (by kernel_rfl) (fun _ _ _ h => h) (fun _ h => h) ?_
  refine XA.do_ 16 rfl rfl rfl (by decide) (does_buildS (zs := [.int .i64 0, .int .i64 0]) (L := [(0, 1), (1, 1)]) (zeroB_of (by kernel_rfl)) (by kernel_rfl) rfl (by simp [fillL, setN, Value.cells]; rfl)) (by kernel_rfl) (fun _ _ _ h => h) (fun _ h => h) ?_
  refine XA.do_ 17 rfl rfl rfl (by decide) (does_buildA (n := 3) (sz := 1) (el := 5) (zs := [.int .u8 0, .int .u8 0, .int .u8 0]) (zeroB_of (by kernel_rfl)) (by kernel_rfl) (by kernel_rfl) rfl (by simp [fillL, setN, Value.cells, List.range_succ, List.set]; rfl)) (by kernel_rfl) (fun _ _ _ h => h) (fun _ h => h) ?_
  refine XA.do_ 18 rfl rfl rfl (by decide) (does_buildS (zs := [.int .i64 0, .int .i64 0, .int .u8 0, .int .u8 0, .int .u8 0]) (L := [(0, 1), (1, 1), (2, 3)]) (zeroB_of (by kernel_rfl)) (by kernel_rfl) rfl (by simp [fillL, setN, Value.cells]; rfl)) (by kernel_rfl) (fun _ _ _ h => h) (fun _ h => h) ?_
  refine XA.do_ 20 rfl rfl rfl (by decide) (does_buildS (zs := [.int .i64 0, .int .i64 0]) (L := [(0, 1), (1, 1)]) (zeroB_of (by kernel_rfl)) (by kernel_rfl) rfl (by simp [fillL, setN, Value.cells]; rfl)) (by kernel_rfl) (fun _ _ _ h => h) (fun _ h => h) ?_
  refine XA.do_ 21 rfl rfl rfl (by decide) (does_buildS (zs := [.int .i64 0, .int .i64 0, .int .u8 0, .int .u8 0, .int .u8 0]) (L := [(0, 1), (1, 1), (2, 3)]) (zeroB_of (by kernel_rfl)) (by kernel_rfl) rfl (by simp [fillL, setN, Value.cells]; rfl)) (by kernel_rfl) (fun _ _ _ h => h) (fun _ h => h) ?_
  refine XA.do_ 23 rfl rfl rfl (by decide) (does_buildS (zs := [.int .i64 0, .int .i64 0]) (L := [(0, 1), (1, 1)]) (zeroB_of (by kernel_rfl)) (by kernel_rfl) rfl (by simp [fillL, setN, Value.cells]; rfl)) (by kernel_rfl) (fun _ _ _ h => h) (fun _ h => h) ?_
  refine XA.do_ 24 rfl rfl rfl (by decide) (does_buildS (zs := [.int .i64 0, .int .i64 0, .int .u8 0, .int .u8 0, .int .u8 0]) (L := [(0, 1), (1, 1), (2, 3)]) (zeroB_of (by kernel_rfl)) (by kernel_rfl) rfl (by simp [fillL, setN, Value.cells]; rfl)) (by kernel_rfl) (fun _ _ _ h => h) (fun _ h => h) ?_
  refine XA.do_ 26 rfl rfl rfl (by decide) (does_buildS (zs := [.int .i64 0, .int .i64 0]) (L := [(0, 1), (1, 1)]) (zeroB_of (by kernel_rfl)) (by kernel_rfl) rfl (by simp [fillL, setN, Value.cells]; rfl)) (by kernel_rfl) (fun _ _ _ h => h) (fun _ h => h) ?_
  refine XA.do_ 27 rfl rfl rfl (by decide) (does_buildA (n := 3) (sz := 1) (el := 5) (zs := [.int .u8 0, .int .u8 0, .int .u8 0]) (zeroB_of (by kernel_rfl)) (by kernel_rfl) (by kernel_rfl) rfl (by simp [fillL, setN, Value.cells, List.range_succ, List.set]; rfl)) (by kernel_rfl) (fun _ _ _ h => h) (fun _ h => h) ?_
  refine XA.do_ 28 rfl rfl rfl (by decide) (does_buildS (zs := [.int .i64 0, .int .i64 0, .int .u8 0, .int .u8 0, .int .u8 0]) (L := [(0, 1), (1, 1), (2, 3)]) (zeroB_of (by kernel_rfl)) (by kernel_rfl) rfl (by simp [fillL, setN, Value.cells]; rfl)) (by kernel_rfl) (fun _ _ _ h => h) (fun _ h => h) ?_
  refine XA.do_ 30 rfl rfl rfl (by decide) (does_buildS (zs := [.int .i64 0, .int .i64 0]) (L := [(0, 1), (1, 1)]) (zeroB_of (by kernel_rfl)) (by kernel_rfl) rfl (by simp [fillL, setN, Value.cells]; rfl)) (by kernel_rfl) (fun _ _ _ h => h) (fun _ h => h) ?_
  refine XA.do_ 31 rfl rfl rfl (by decide) (does_buildA (n := 3) (sz := 1) (el := 5) (zs := [.int .u8 0, .int .u8 0, .int .u8 0]) (zeroB_of (by kernel_rfl)) (by kernel_rfl) (by kernel_rfl) rfl (by simp [fillL, setN, Value.cells, List.range_succ, List.set]; rfl)) (by kernel_rfl) (fun _ _ _ h => h) (fun _ h => h) ?_
  refine XA.do_ 32 rfl rfl rfl (by decide) (does_buildS (zs := [.int .i64 0, .int .i64 0, .int .u8 0, .int .u8 0, .int .u8 0]) (L := [(0, 1), (1, 1), (2, 3)]) (zeroB_of (by kernel_rfl)) (by kernel_rfl) rfl (by simp [fillL, setN, Value.cells]; rfl)) (by kernel_rfl) (fun _ _ _ h => h) (fun _ h => h) ?_
  refine XA.next 0 rfl (by kernel_rfl) ?_
  refine xk_makeMapV (by decide) fun g1 => ?_
  refine XA.bk ?_
  refine XA.inserts (fuel := 2) frmI frmE g1 (by decide) (fun i hi => ?_) (by decide) (by kernel_rfl) (fun l w1 h => h.tail) (fun sub hsub => ?_)
  · simp only [frmI, List.mem_cons, List.not_mem_nil, or_false] at hi
    rcases hi with rfl | rfl | rfl | rfl | rfl | rfl | rfl | rfl | rfl | rfl
    all_goals exact ⟨_, _, _, _, _, _, _, _, _, rfl, Try.underlying104, msgK, rfl, rfl, rfl⟩
  rw [markA_perm hsub]
  refine XA.next 34 rfl (by kernel_rfl) ?_
  refine xk_move rfl (by decide) ?_
  refine XA.bt ?_
  refine XA.next 35 rfl (by kernel_rfl) ?_
  refine xk_assign rfl (by decide) ?_
  refine XA.bt ?_
  refine XA.done (by kernel_rfl) ?_
  refine XK.norm ?_
  refine XK.ret ?_
  refine XK.norm ?_
  refine XK.still [] [] [0] (by simp) rfl (by decide) (by decide) fun q _ _ hfr => ?_
  exact XK.ret1 rfl rfl fun w1 st => ⟨⟨_, _, ⟨w1, q.Z⟩, rfl, rfl, ⟨g1, sub, rfl, hsub, rfl⟩, st.newR (by simp) (by simp) (hfr (by simp) (by simp))⟩, st.below (by simp)⟩

end Go.Proofs.Ytbcfbafpeidifaa
/- packages bits and word: fields of words. -/
namespace Go.Proofs.Ytbcfbafpeidifaa
set_option linter.all false
open Go.RowKit
def and32 (a b : Int) : Int := IntKind.u32.wrap (BitVec.ofInt 32 a &&& BitVec.ofInt 32 b).toNat
def andN32 (a b : Int) : Int := IntKind.u32.wrap (BitVec.ofInt 32 a &&& ~~~ BitVec.ofInt 32 b).toNat
def or32 (a b : Int) : Int := IntKind.u32.wrap (BitVec.ofInt 32 a ||| BitVec.ofInt 32 b).toNat
theorem u32_bd (a : Int) : 0 ≤ IntKind.u32.wrap a ∧ IntKind.u32.wrap a < 4294967296 := by
  unfold IntKind.wrap
  simp only [IntKind.signed, IntKind.bits, Bool.false_and, Bool.false_eq_true, if_false]
  exact ⟨Int.emod_nonneg _ (by decide), Int.emod_lt_of_pos _ (by decide)⟩
/-- the mask of so many bits, from a bit on -/
def maskZ (many at' : Int) : Int := IntKind.u32.wrap (IntKind.u64.wrap (IntKind.u64.wrap (IntKind.u64.wrap (1 * 2 ^ min many.toNat 64) - 1) * 2 ^ min at'.toNat 64))
def getZ (w low many : Int) : Int := and32 (w.fdiv (2 ^ min low.toNat 32)) (maskZ many 0)
def putZ (w low many v : Int) : Int × Int := if andN32 v (maskZ many 0) ≠ 0 then (0, 1) else (or32 (andN32 w (maskZ many low)) (IntKind.u32.wrap (v * 2 ^ min low.toNat 32)), 0)
def putW (w low many v : Int) : Int × Int := if v < 0 ∨ IntKind.i64.wrap (1 * 2 ^ min many.toNat 64) ≤ v then (0, 1) else if (putZ w low many (IntKind.u32.wrap v)).2 ≠ 0 then (0, 1) else ((putZ w low many (IntKind.u32.wrap v)).1, 0)
def okF (low many : Int) : Prop := 1 ≤ many ∧ many ≤ 32 ∧ 0 ≤ low ∧ low ≤ 32 - many
def FieldOk (many : Int) (v : Value) (w w' : World) : Prop := ∃ g, v = .tuple #[.func (.func 86) #[] #[.pointer (some ⟨g, 0, none⟩)], .bool true] ∧ RP (fresh w w') g 0 (.int .i64 many)

theorem field1_any (a many : Int) (g : Nat) (w : World) (h : ROc w g 0 (.int .i64 many)) (ha : 0 ≤ a) (hm : 0 ≤ many) :
    Calls Try.prog 86 #[.int .i64 a, .pointer (some ⟨g, 0, none⟩)] w (Rt (.int .u32 (maskZ many a)) w) := by
  refine XK.enter (vs := [.int .i64 a, .pointer (some ⟨g, 0, none⟩)]) Try.func86 rfl Try.ntmps86 (by simp) ?_
  refine XK.seq ?_

  refine XK.region ?_
  refine xk_assign rfl (by decide) ?_
  refine XK.nilN ?_
  refine XK.seq ?_

  refine XK.region ?_
  refine xk_load (by kernel_rfl) rfl (Rd.roc (by simp) h) (by decide) ?_
  refine xk_shl rfl rfl (by omega) rfl (by decide) ?_
  refine xk_sub rfl rfl rfl (by decide) ?_
  refine xk_move rfl (by decide) ?_
  refine xk_shl rfl rfl (by omega) rfl (by decide) ?_
  refine xk_conv (kd := .u32) (ds := .int .u64) (by kernel_rfl) (by kernel_rfl) rfl rfl (by decide) ?_
  refine xk_assign rfl (by decide) ?_
  refine XK.nilN ?_
  refine XK.ret ?_
  refine XK.norm ?_
  exact XK.ret1 rfl rfl fun w1 st => ⟨rfl, st.below (by simp)⟩

theorem field_any (low many : Int) (w : World) (hok : okF low many) : Calls Try.prog 81 #[.int .i64 low, .int .i64 many] w (fun y w' => (∃ x, y = .returned x ∧ FieldOk many x w w') ∧ Below w.heap.size w w') := by
  refine XK.enter (vs := [.int .i64 low, .int .i64 many]) Try.func81 rfl Try.ntmps81 (by simp) ?_
  refine XK.seq ?_

  refine XK.region ?_
  refine xk_box rfl (by decide) fun g1 => ?_
  refine xk_assign rfl (by decide) ?_
  refine xk_assign rfl (by decide) ?_
  refine XK.nilN ?_
  refine XK.seq ?_
  refine XK.seq ?_

  refine XK.region ?_
  refine xk_ld rfl ?_
  refine xk_lss rfl rfl (by decide) ?_
  refine xk_move rfl (by decide) ?_
  (first | refine xk_split (t := 8) rfl (fun hg => ?_) (fun hg => ?_) | refine xk_splitB (t := 8) rfl (fun hg => ?_) (fun hg => ?_))
  ·
    refine xk_guardF rfl rfl rfl (by decide) ?_
    refine xk_guardF rfl rfl rfl (by decide) ?_
    (first | refine xk_pickT rfl rfl (by decide) ?_ | refine xk_pickF rfl rfl (by decide) ?_)
    refine xk_move rfl (by decide) ?_
    refine xk_guardF rfl rfl rfl (by decide) ?_
    refine xk_guardF rfl rfl rfl (by decide) ?_
    (first | refine xk_pickT rfl rfl (by decide) ?_ | refine xk_pickF rfl rfl (by decide) ?_)
    refine xk_move rfl (by decide) ?_
    refine xk_guardF rfl rfl rfl (by decide) ?_
    refine xk_guardF rfl rfl rfl (by decide) ?_
    refine xk_guardF rfl rfl rfl (by decide) ?_
    refine xk_guardF rfl rfl rfl (by decide) ?_
    (first | refine xk_pickT rfl rfl (by decide) ?_ | refine xk_pickF rfl rfl (by decide) ?_)
    refine XK.nilN ?_
    refine XK.cond rfl (fun _ => ?_) (fun h => by cases h)
    refine XK.seq ?_

    refine XK.region ?_
    refine xk_assign rfl (by decide) ?_
    refine xk_assign rfl (by decide) ?_
    refine XK.nilN ?_
    refine XK.ret ?_
    refine XK.norm ?_
    exact absurd hok (by unfold okF; omega)
  ·
    refine xk_guardT rfl rfl ?_; refine xk_ld rfl ?_
    refine xk_guardT rfl rfl ?_; refine xk_gtr rfl rfl (by decide) ?_
    (first | refine xk_pickT rfl rfl (by decide) ?_ | refine xk_pickF rfl rfl (by decide) ?_)
    refine xk_move rfl (by decide) ?_
    (first | refine xk_split (t := 12) rfl (fun hg => ?_) (fun hg => ?_) | refine xk_splitB (t := 12) rfl (fun hg => ?_) (fun hg => ?_))
    ·
      refine xk_guardF rfl rfl rfl (by decide) ?_
      refine xk_guardF rfl rfl rfl (by decide) ?_
      (first | refine xk_pickT rfl rfl (by decide) ?_ | refine xk_pickF rfl rfl (by decide) ?_)
      refine xk_move rfl (by decide) ?_
      refine xk_guardF rfl rfl rfl (by decide) ?_
      refine xk_guardF rfl rfl rfl (by decide) ?_
      refine xk_guardF rfl rfl rfl (by decide) ?_
      refine xk_guardF rfl rfl rfl (by decide) ?_
      (first | refine xk_pickT rfl rfl (by decide) ?_ | refine xk_pickF rfl rfl (by decide) ?_)
      refine XK.nilN ?_
      refine XK.cond rfl (fun _ => ?_) (fun h => by cases h)
      refine XK.seq ?_

      refine XK.region ?_
      refine xk_assign rfl (by decide) ?_
      refine xk_assign rfl (by decide) ?_
      refine XK.nilN ?_
      refine XK.ret ?_
      refine XK.norm ?_
      exact absurd hok (by unfold okF; omega)
    ·
      refine xk_guardT rfl rfl ?_; refine xk_move rfl (by decide) ?_
      refine xk_guardT rfl rfl ?_; refine xk_lss rfl rfl (by decide) ?_
      (first | refine xk_pickT rfl rfl (by decide) ?_ | refine xk_pickF rfl rfl (by decide) ?_)
      refine xk_move rfl (by decide) ?_
      (first | refine xk_split (t := 16) rfl (fun hg => ?_) (fun hg => ?_) | refine xk_splitB (t := 16) rfl (fun hg => ?_) (fun hg => ?_))
      ·
        refine xk_guardF rfl rfl rfl (by decide) ?_
        refine xk_guardF rfl rfl rfl (by decide) ?_
        refine xk_guardF rfl rfl rfl (by decide) ?_
        refine xk_guardF rfl rfl rfl (by decide) ?_
        (first | refine xk_pickT rfl rfl (by decide) ?_ | refine xk_pickF rfl rfl (by decide) ?_)
        refine XK.nilN ?_
        refine XK.cond rfl (fun _ => ?_) (fun h => by cases h)
        refine XK.seq ?_

        refine XK.region ?_
        refine xk_assign rfl (by decide) ?_
        refine xk_assign rfl (by decide) ?_
        refine XK.nilN ?_
        refine XK.ret ?_
        refine XK.norm ?_
        exact absurd hok (by unfold okF; omega)
      ·
        refine xk_guardT rfl rfl ?_; refine xk_move rfl (by decide) ?_
        refine xk_guardT rfl rfl ?_; refine xk_ld rfl ?_
        refine xk_guardT rfl rfl ?_; refine xk_sub rfl rfl (wrap_in (by omega)) (by decide) ?_
        refine xk_guardT rfl rfl ?_; refine xk_gtr rfl rfl (by decide) ?_
        (first | refine xk_pickT rfl rfl (by decide) ?_ | refine xk_pickF rfl rfl (by decide) ?_)
        refine XK.nilN ?_
        refine XK.if_ rfl (fun h => ?_) (fun h => ?_)
        ·
          refine XK.seq ?_

          refine XK.region ?_
          refine xk_assign rfl (by decide) ?_
          refine xk_assign rfl (by decide) ?_
          refine XK.nilN ?_
          refine XK.ret ?_
          refine XK.norm ?_
          exact absurd hok (by unfold okF; omega)
        ·
          refine XK.skip ?_
          refine XK.norm ?_
          refine XK.seq ?_

          refine XK.region ?_
          refine xk_func (vf := []) (vc := [.pointer (some ⟨g1, 0, none⟩)]) rfl rfl (by decide) ?_
          refine xk_assign rfl (by decide) ?_
          refine xk_assign rfl (by decide) ?_
          refine XK.nilN ?_
          refine XK.ret ?_
          refine XK.norm ?_
          refine XK.still [] [0] [] (by simp) rfl (by decide) (by decide) fun q hq _ hfr => ?_
          refine XK.ret2 rfl rfl rfl fun w1 st => ⟨⟨_, rfl, g1, rfl, (RP.of_blk (o := 0) (v := .int .i64 many) (hq 0 _ (by simp) rfl) rfl).le (st.fresh_le (by simp) (hfr (by simp) (by simp)))⟩, st.below (by simp)⟩

theorem get_any (w0 low many : Int) (w : World) (hok : okF low many) :
    Calls Try.prog 80 #[.int .u32 w0, .int .i64 low, .int .i64 many] w (Rt (.tuple #[.int .u32 (getZ w0 low many), .int .i64 0]) w) := by
  refine XK.enter (vs := [.int .u32 w0, .int .i64 low, .int .i64 many]) Try.func80 rfl Try.ntmps80 (by simp) ?_
  refine XK.seq ?_

  refine XK.region ?_
  refine xk_assign rfl (by decide) ?_
  refine xk_assign rfl (by decide) ?_
  refine XK.nilN ?_
  refine XK.seq ?_

  refine XK.region ?_
  refine xk_move rfl (by decide) ?_
  refine xk_move rfl (by decide) ?_
  refine xk_call [] (f := 81) (fi := []) (ca := []) (by kernel_rfl) rfl rfl (by decide) (by simp) (FieldOk many) (fun w1 st => field_any low many w1 hok) ?_
  rintro _ w1 q1 ⟨g, rfl, hrp⟩ hf _ _
  have hrp := hrp.le hf
  clear hf
  refine xk_move rfl (by decide) ?_
  refine xk_extract rfl rfl (by decide) ?_
  refine xk_extract rfl rfl (by decide) ?_
  refine xk_assign rfl (by decide) ?_
  refine xk_assign rfl (by decide) ?_
  refine XK.nilN ?_
  refine XK.seq ?_
  refine XK.seq ?_

  refine XK.region ?_
  refine xk_move rfl (by decide) ?_
  (first | refine xk_notD rfl (by decide) ?_ | refine xk_not rfl (by decide) ?_)
  refine XK.nilN ?_
  refine XK.cond rfl (fun h => ?_) (fun h => ?_)
  ·
    refine XK.seq ?_

    refine XK.region ?_
    refine xk_assign rfl (by decide) ?_
    refine xk_assign rfl (by decide) ?_
    refine XK.nilN ?_
    refine XK.ret ?_
    refine XK.norm ?_
    exact absurd h (by simp)
  ·
    refine XK.skip ?_
    refine XK.norm ?_
    refine XK.seq ?_

    refine XK.draw 5 (by kernel_rfl) (by kernel_rfl) ?_
    refine XA.dA 0 rfl rfl rfl (does_move rfl) ?_
    refine XA.dA 1 rfl rfl rfl (does_move rfl) ?_
    refine XA.dA 2 rfl rfl rfl (does_shr rfl rfl (by unfold okF at hok; omega) rfl) ?_
    refine XA.dA 3 rfl rfl rfl (does_move rfl) ?_
    refine XA.next 4 rfl (by kernel_rfl) ?_
    refine xk_callR (f := 86) (fi := []) (ca := [.pointer (some ⟨g, 0, none⟩)]) (by kernel_rfl) rfl rfl (by decide) (fun w1 st => field1_any 0 many g w1 (hrp.le (st.le (by simp))) (by unfold okF at hok; omega) (by unfold okF at hok; omega)) ?_
    refine XA.bk ?_
    refine XA.next 5 rfl (by kernel_rfl) ?_
    refine xk_bits (c := getZ w0 low many) rfl rfl (fun _ => rfl) (by simp) (by decide) ?_
    refine XA.bt ?_
    refine XA.next 6 rfl (by kernel_rfl) ?_
    refine xk_assign rfl (by decide) ?_
    refine XA.bt ?_
    refine XA.next 7 rfl (by kernel_rfl) ?_
    refine xk_assign rfl (by decide) ?_
    refine XA.bt ?_
    refine XA.done (by kernel_rfl) ?_
    refine XK.norm ?_
    refine XK.ret ?_
    refine XK.norm ?_
    exact XK.ret2 rfl rfl rfl fun w1 st => ⟨rfl, st.below (by simp)⟩

theorem putb_any (w0 low many v : Int) (w : World) (hok : okF low many) :
    Calls Try.prog 78 #[.int .u32 w0, .int .i64 low, .int .i64 many, .int .u32 v] w (Rt (.tuple #[.int .u32 (putZ w0 low many v).1, .int .i64 (putZ w0 low many v).2]) w) := by
  refine XK.enter (vs := [.int .u32 w0, .int .i64 low, .int .i64 many, .int .u32 v]) Try.func78 rfl Try.ntmps78 (by simp) ?_
  refine XK.seq ?_

  refine XK.region ?_
  refine xk_assign rfl (by decide) ?_
  refine xk_assign rfl (by decide) ?_
  refine XK.nilN ?_
  refine XK.seq ?_

  refine XK.region ?_
  refine xk_move rfl (by decide) ?_
  refine xk_move rfl (by decide) ?_
  refine xk_call [] (f := 81) (fi := []) (ca := []) (by kernel_rfl) rfl rfl (by decide) (by simp) (FieldOk many) (fun w1 st => field_any low many w1 hok) ?_
  rintro _ w1 q1 ⟨g, rfl, hrp⟩ hf _ _
  have hrp := hrp.le hf
  clear hf
  refine xk_move rfl (by decide) ?_
  refine xk_extract rfl rfl (by decide) ?_
  refine xk_extract rfl rfl (by decide) ?_
  refine xk_assign rfl (by decide) ?_
  refine xk_assign rfl (by decide) ?_
  refine XK.nilN ?_
  refine XK.seq ?_
  refine XK.seq ?_

  refine XK.region ?_
  refine xk_move rfl (by decide) ?_
  (first | refine xk_notD rfl (by decide) ?_ | refine xk_not rfl (by decide) ?_)
  refine XK.nilN ?_
  refine XK.cond rfl (fun h => ?_) (fun h => ?_)
  ·
    refine XK.seq ?_

    refine XK.region ?_
    refine xk_assign rfl (by decide) ?_
    refine xk_assign rfl (by decide) ?_
    refine XK.nilN ?_
    refine XK.ret ?_
    refine XK.norm ?_
    exact absurd h (by simp)
  ·
    refine XK.skip ?_
    refine XK.norm ?_
    refine XK.seq ?_
    refine XK.seq ?_

    refine XK.region ?_
    refine xk_move rfl (by decide) ?_
    refine xk_move rfl (by decide) ?_
    refine xk_callR (f := 86) (fi := []) (ca := [.pointer (some ⟨g, 0, none⟩)]) (by kernel_rfl) rfl rfl (by decide) (fun w1 st => field1_any 0 many g w1 (hrp.le (st.le (by simp))) (by unfold okF at hok; omega) (by unfold okF at hok; omega)) ?_
    refine xk_bits (c := andN32 v (maskZ many 0)) rfl rfl (fun _ => rfl) (by simp) (by decide) ?_
    refine xk_neq rfl rfl (by decide) ?_
    refine XK.nilN ?_
    refine XK.if_ rfl (fun h => ?_) (fun h => ?_)
    ·
      refine XK.seq ?_

      refine XK.region ?_
      refine xk_assign rfl (by decide) ?_
      refine xk_assign rfl (by decide) ?_
      refine XK.nilN ?_
      refine XK.ret ?_
      refine XK.norm ?_
      refine XK.ret2 rfl rfl rfl fun w1 st => ⟨by rw [putZ, if_pos h], st.below (by simp)⟩
    ·
      refine XK.skip ?_
      refine XK.norm ?_
      refine XK.seq ?_

      refine XK.draw 8 (by kernel_rfl) (by kernel_rfl) ?_
      refine XA.dA 0 rfl rfl rfl (does_move rfl) ?_
      refine XA.dA 1 rfl rfl rfl (does_move rfl) ?_
      refine XA.dA 2 rfl rfl rfl (does_move rfl) ?_
      refine XA.dA 5 rfl rfl rfl (does_move rfl) ?_
      refine XA.dA 6 rfl rfl rfl (does_move rfl) ?_
      refine XA.dA 7 rfl rfl rfl (does_shl rfl rfl (by unfold okF at hok; omega) rfl) ?_
      refine XA.next 3 rfl (by kernel_rfl) ?_
      refine xk_callR (f := 86) (fi := []) (ca := [.pointer (some ⟨g, 0, none⟩)]) (by kernel_rfl) rfl rfl (by decide) (fun w1 st => field1_any low many g w1 (hrp.le (st.le (by simp))) (by unfold okF at hok; omega) (by unfold okF at hok; omega)) ?_
      refine XA.bk ?_
      refine XA.dA 4 rfl rfl rfl (does_bits (c := andN32 w0 (maskZ many low)) rfl rfl (fun _ => rfl) (by simp)) ?_
      refine XA.next 8 rfl (by kernel_rfl) ?_
      refine xk_bits (c := or32 (andN32 w0 (maskZ many low)) (IntKind.u32.wrap (v * 2 ^ min low.toNat 32))) rfl rfl (fun _ => rfl) (by simp) (by decide) ?_
      refine XA.bt ?_
      refine XA.next 9 rfl (by kernel_rfl) ?_
      refine xk_assign rfl (by decide) ?_
      refine XA.bt ?_
      refine XA.next 10 rfl (by kernel_rfl) ?_
      refine xk_assign rfl (by decide) ?_
      refine XA.bt ?_
      refine XA.done (by kernel_rfl) ?_
      refine XK.norm ?_
      refine XK.ret ?_
      refine XK.norm ?_
      refine XK.ret2 rfl rfl rfl fun w1 st => ⟨by rw [putZ, if_neg h], st.below (by simp)⟩

theorem part_any (w0 low many : Int) (w : World) (hok : okF low many) :
    Calls Try.prog 76 #[.int .u32 w0, .int .i64 low, .int .i64 many] w (Rt (.int .i64 (getZ w0 low many)) w) := by
  refine XK.enter (vs := [.int .u32 w0, .int .i64 low, .int .i64 many]) Try.func76 rfl Try.ntmps76 (by simp) ?_
  refine XK.seq ?_

  refine XK.region ?_
  refine xk_assign rfl (by decide) ?_
  refine XK.nilN ?_
  refine XK.seq ?_

  refine XK.region ?_
  refine xk_move rfl (by decide) ?_
  refine xk_move rfl (by decide) ?_
  refine xk_move rfl (by decide) ?_
  refine xk_callR (f := 80) (fi := []) (ca := []) (by kernel_rfl) rfl rfl (by decide) (fun w1 st => get_any w0 low many w1 hok) ?_
  refine xk_move rfl (by decide) ?_
  refine xk_extract rfl rfl (by decide) ?_
  refine xk_extract rfl rfl (by decide) ?_
  refine xk_assign rfl (by decide) ?_
  refine xk_assign rfl (by decide) ?_
  refine XK.nilN ?_
  refine XK.seq ?_

  refine XK.region ?_
  refine xk_move rfl (by decide) ?_
  refine xk_conv (ds := .int .u32) (by kernel_rfl) (by kernel_rfl) rfl (wrap_in (by have := u32_bd (BitVec.ofInt 32 (w0.fdiv (2 ^ min low.toNat 32)) &&& BitVec.ofInt 32 (maskZ many 0)).toNat; unfold getZ and32; omega)) (by decide) ?_
  refine xk_assign rfl (by decide) ?_
  refine XK.nilN ?_
  refine XK.ret ?_
  refine XK.norm ?_
  exact XK.ret1 rfl rfl fun w1 st => ⟨rfl, st.below (by simp)⟩

theorem put_any (w0 low many v : Int) (w : World) (hok : okF low many) :
    Calls Try.prog 56 #[.int .u32 w0, .int .i64 low, .int .i64 many, .int .i64 v] w (Rt (.tuple #[.int .u32 (putW w0 low many v).1, .int .i64 (putW w0 low many v).2]) w) := by
  refine XK.enter (vs := [.int .u32 w0, .int .i64 low, .int .i64 many, .int .i64 v]) Try.func56 rfl Try.ntmps56 (by simp) ?_
  refine XK.seq ?_

  refine XK.region ?_
  refine xk_assign rfl (by decide) ?_
  refine xk_assign rfl (by decide) ?_
  refine XK.nilN ?_
  refine XK.seq ?_
  refine XK.seq ?_

  refine XK.region ?_
  refine xk_move rfl (by decide) ?_
  refine xk_lss rfl rfl (by decide) ?_
  refine xk_move rfl (by decide) ?_
  (first | refine xk_split (t := 13) rfl (fun hg => ?_) (fun hg => ?_) | refine xk_splitB (t := 13) rfl (fun hg => ?_) (fun hg => ?_))
  ·
    refine xk_guardF rfl rfl rfl (by decide) ?_
    refine xk_guardF rfl rfl rfl (by decide) ?_
    refine xk_guardF rfl rfl rfl (by decide) ?_
    refine xk_guardF rfl rfl rfl (by decide) ?_
    (first | refine xk_pickT rfl rfl (by decide) ?_ | refine xk_pickF rfl rfl (by decide) ?_)
    refine XK.nilN ?_
    refine XK.cond rfl (fun _ => ?_) (fun h => by cases h)
    refine XK.seq ?_

    refine XK.region ?_
    refine xk_assign rfl (by decide) ?_
    refine xk_assign rfl (by decide) ?_
    refine XK.nilN ?_
    refine XK.ret ?_
    refine XK.norm ?_
    refine XK.ret2 rfl rfl rfl fun w1 st => ⟨by rw [putW, if_pos (.inl hg)], st.below (by simp)⟩
  ·
    refine xk_guardT rfl rfl ?_; refine xk_move rfl (by decide) ?_
    refine xk_guardT rfl rfl ?_; refine xk_move rfl (by decide) ?_
    refine xk_guardT rfl rfl ?_; refine xk_shl rfl rfl (by unfold okF at hok; omega) rfl (by decide) ?_
    refine xk_guardT rfl rfl ?_; refine xk_geq rfl rfl (by decide) ?_
    (first | refine xk_pickT rfl rfl (by decide) ?_ | refine xk_pickF rfl rfl (by decide) ?_)
    refine XK.nilN ?_
    refine XK.if_ rfl (fun h => ?_) (fun h => ?_)
    ·
      refine XK.seq ?_

      refine XK.region ?_
      refine xk_assign rfl (by decide) ?_
      refine xk_assign rfl (by decide) ?_
      refine XK.nilN ?_
      refine XK.ret ?_
      refine XK.norm ?_
      refine XK.ret2 rfl rfl rfl fun w1 st => ⟨by rw [putW, if_pos (.inr h)], st.below (by simp)⟩
    ·
      refine XK.skip ?_
      have hno : ¬ (v < 0 ∨ IntKind.i64.wrap (1 * 2 ^ min many.toNat 64) ≤ v) := fun h2 => h2.elim hg h
      refine XK.norm ?_
      refine XK.seq ?_

      refine XK.region ?_
      refine xk_move rfl (by decide) ?_
      refine xk_move rfl (by decide) ?_
      refine xk_move rfl (by decide) ?_
      refine xk_move rfl (by decide) ?_
      refine xk_conv (kd := .u32) (ds := .int .i64) (by kernel_rfl) (by kernel_rfl) rfl rfl (by decide) ?_
      refine xk_callR (f := 78) (fi := []) (ca := []) (by kernel_rfl) rfl rfl (by decide) (fun w1 st => putb_any w0 low many (IntKind.u32.wrap v) w1 hok) ?_
      refine xk_move rfl (by decide) ?_
      refine xk_extract rfl rfl (by decide) ?_
      refine xk_extract rfl rfl (by decide) ?_
      refine xk_assign rfl (by decide) ?_
      refine xk_assign rfl (by decide) ?_
      refine XK.nilN ?_
      refine XK.seq ?_
      refine XK.seq ?_

      refine XK.region ?_
      refine xk_move rfl (by decide) ?_
      refine xk_neq rfl rfl (by decide) ?_
      refine XK.nilN ?_
      refine XK.if_ rfl (fun h2 => ?_) (fun h2 => ?_)
      ·
        refine XK.seq ?_

        refine XK.region ?_
        refine xk_assign rfl (by decide) ?_
        refine xk_assign rfl (by decide) ?_
        refine XK.nilN ?_
        refine XK.ret ?_
        refine XK.norm ?_
        refine XK.ret2 rfl rfl rfl fun w1 st => ⟨by rw [putW, if_neg hno, if_pos h2], st.below (by simp)⟩
      ·
        refine XK.skip ?_
        refine XK.norm ?_
        refine XK.seq ?_

        refine XK.region ?_
        refine xk_move rfl (by decide) ?_
        refine xk_assign rfl (by decide) ?_
        refine xk_assign rfl (by decide) ?_
        refine XK.nilN ?_
        refine XK.ret ?_
        refine XK.norm ?_
        refine XK.ret2 rfl rfl rfl fun w1 st => ⟨by rw [putW, if_neg hno, if_neg h2]; rfl, st.below (by simp)⟩

end Go.Proofs.Ytbcfbafpeidifaa
/- package word: heads, rows of words; a step's words. -/
namespace Go.Proofs.Ytbcfbafpeidifaa
set_option linter.all false
open Go.RowKit
def packZ (m t p k : Int) : Int × Int :=
  if (putW 0 0 8 m).2 ≠ 0 then (0, (putW 0 0 8 m).2)
  else if (putW (putW 0 0 8 m).1 8 2 t).2 ≠ 0 then (0, (putW (putW 0 0 8 m).1 8 2 t).2)
  else if (putW (putW (putW 0 0 8 m).1 8 2 t).1 10 8 p).2 ≠ 0 then (0, (putW (putW (putW 0 0 8 m).1 8 2 t).1 10 8 p).2)
  else if (putW (putW (putW (putW 0 0 8 m).1 8 2 t).1 10 8 p).1 18 10 k).2 ≠ 0 then (0, (putW (putW (putW (putW 0 0 8 m).1 8 2 t).1 10 8 p).1 18 10 k).2)
  else ((putW (putW (putW (putW 0 0 8 m).1 8 2 t).1 10 8 p).1 18 10 k).1, 0)
def headC (m t p k : Int) : List Value := [.int .i64 m, .int .i64 t, .int .i64 p, .int .i64 k]
def unpackH (w : Int) : List Value := if getZ w 28 4 ≠ 0 then headC 0 0 0 0 else headC (getZ w 0 8) (getZ w 8 2) (getZ w 10 8) (getZ w 18 10)
def unpackE (w : Int) : Int := if getZ w 28 4 ≠ 0 then 2 else 0
theorem u32Cells_one (l : List Int) : ∀ u ∈ u32Cells l, u.oneCell' = true := by
  intro u hu
  simp only [u32Cells, List.mem_map] at hu
  obtain ⟨_, _, rfl⟩ := hu
  rfl
def RowOk (l : List Int) (v : Value) (w w' : World) : Prop := ∃ A c, v = .slice A l.length c ∧ SlS (fresh w w') 1 A l.length (u32Cells l)

theorem pack_any (m t p k : Int) (w : World) :
    Calls Try.prog 23 #[.agg #[.int .i64 m, .int .i64 t, .int .i64 p, .int .i64 k]] w (Rt (.tuple #[.int .u32 (packZ m t p k).1, .int .i64 (packZ m t p k).2]) w) := by
  refine XK.enter (vs := [.agg #[.int .i64 m, .int .i64 t, .int .i64 p, .int .i64 k]]) Try.func23 rfl Try.ntmps23 (by simp) ?_
  refine XK.seq ?_

  refine XK.region ?_
  refine xk_box rfl (by decide) fun g1 => ?_
  refine xk_assign rfl (by decide) ?_
  refine xk_assign rfl (by decide) ?_
  refine XK.nilN ?_
  refine XK.seq ?_

  refine XK.region ?_
  refine xk_field (off := 0) (by kernel_rfl) rfl (by decide) ?_
  refine xk_ld rfl ?_
  refine xk_callR (f := 56) (fi := []) (ca := []) (by kernel_rfl) rfl rfl (by decide) (fun w1 st => put_any 0 0 8 m w1 (by unfold okF; omega)) ?_
  refine xk_move rfl (by decide) ?_
  refine xk_extract rfl rfl (by decide) ?_
  refine xk_extract rfl rfl (by decide) ?_
  refine xk_assign rfl (by decide) ?_
  refine xk_assign rfl (by decide) ?_
  refine XK.nilN ?_
  refine XK.seq ?_
  refine XK.seq ?_

  refine XK.region ?_
  refine xk_move rfl (by decide) ?_
  refine xk_neq rfl rfl (by decide) ?_
  refine XK.nilN ?_
  refine XK.if_ rfl (fun h1 => ?_) (fun h1 => ?_)
  ·
    refine XK.seq ?_

    refine XK.region ?_
    refine xk_move rfl (by decide) ?_
    refine xk_assign rfl (by decide) ?_
    refine xk_assign rfl (by decide) ?_
    refine XK.nilN ?_
    refine XK.ret ?_
    refine XK.norm ?_
    refine XK.ret2 rfl rfl rfl fun w1 st => ⟨by rw [packZ, if_pos h1]; rfl, st.below (by simp)⟩
  ·
    refine XK.skip ?_
    refine XK.norm ?_
    refine XK.seq ?_
    refine XK.seq ?_

    refine XK.region ?_
    refine xk_move rfl (by decide) ?_
    refine xk_field (off := 1) (by kernel_rfl) rfl (by decide) ?_
    refine xk_ld rfl ?_
    refine xk_callR (f := 56) (fi := []) (ca := []) (by kernel_rfl) rfl rfl (by decide) (fun w1 st => put_any (putW 0 0 8 m).1 8 2 t w1 (by unfold okF; omega)) ?_
    refine xk_move rfl (by decide) ?_
    refine xk_extract rfl rfl (by decide) ?_
    refine xk_extract rfl rfl (by decide) ?_
    refine xk_assign rfl (by decide) ?_
    refine xk_assign rfl (by decide) ?_
    refine XK.nilN ?_
    refine XK.seq ?_

    refine XK.region ?_
    refine xk_move rfl (by decide) ?_
    refine xk_neq rfl rfl (by decide) ?_
    refine XK.nilN ?_
    refine XK.if_ rfl (fun h2 => ?_) (fun h2 => ?_)
    ·
      refine XK.seq ?_

      refine XK.region ?_
      refine xk_move rfl (by decide) ?_
      refine xk_assign rfl (by decide) ?_
      refine xk_assign rfl (by decide) ?_
      refine XK.nilN ?_
      refine XK.ret ?_
      refine XK.norm ?_
      refine XK.ret2 rfl rfl rfl fun w1 st => ⟨by rw [packZ, if_neg h1, if_pos h2]; rfl, st.below (by simp)⟩
    ·
      refine XK.skip ?_
      refine XK.norm ?_
      refine XK.seq ?_
      refine XK.seq ?_

      refine XK.region ?_
      refine xk_move rfl (by decide) ?_
      refine xk_field (off := 2) (by kernel_rfl) rfl (by decide) ?_
      refine xk_ld rfl ?_
      refine xk_callR (f := 56) (fi := []) (ca := []) (by kernel_rfl) rfl rfl (by decide) (fun w1 st => put_any (putW (putW 0 0 8 m).1 8 2 t).1 10 8 p w1 (by unfold okF; omega)) ?_
      refine xk_move rfl (by decide) ?_
      refine xk_extract rfl rfl (by decide) ?_
      refine xk_extract rfl rfl (by decide) ?_
      refine xk_assign rfl (by decide) ?_
      refine xk_assign rfl (by decide) ?_
      refine XK.nilN ?_
      refine XK.seq ?_

      refine XK.region ?_
      refine xk_move rfl (by decide) ?_
      refine xk_neq rfl rfl (by decide) ?_
      refine XK.nilN ?_
      refine XK.if_ rfl (fun h3 => ?_) (fun h3 => ?_)
      ·
        refine XK.seq ?_

        refine XK.region ?_
        refine xk_move rfl (by decide) ?_
        refine xk_assign rfl (by decide) ?_
        refine xk_assign rfl (by decide) ?_
        refine XK.nilN ?_
        refine XK.ret ?_
        refine XK.norm ?_
        refine XK.ret2 rfl rfl rfl fun w1 st => ⟨by rw [packZ, if_neg h1, if_neg h2, if_pos h3]; rfl, st.below (by simp)⟩
      ·
        refine XK.skip ?_
        refine XK.norm ?_
        refine XK.seq ?_
        refine XK.seq ?_

        refine XK.region ?_
        refine xk_move rfl (by decide) ?_
        refine xk_field (off := 3) (by kernel_rfl) rfl (by decide) ?_
        refine xk_ld rfl ?_
        refine xk_callR (f := 56) (fi := []) (ca := []) (by kernel_rfl) rfl rfl (by decide) (fun w1 st => put_any (putW (putW (putW 0 0 8 m).1 8 2 t).1 10 8 p).1 18 10 k w1 (by unfold okF; omega)) ?_
        refine xk_move rfl (by decide) ?_
        refine xk_extract rfl rfl (by decide) ?_
        refine xk_extract rfl rfl (by decide) ?_
        refine xk_assign rfl (by decide) ?_
        refine xk_assign rfl (by decide) ?_
        refine XK.nilN ?_
        refine XK.seq ?_

        refine XK.region ?_
        refine xk_move rfl (by decide) ?_
        refine xk_neq rfl rfl (by decide) ?_
        refine XK.nilN ?_
        refine XK.if_ rfl (fun h4 => ?_) (fun h4 => ?_)
        ·
          refine XK.seq ?_

          refine XK.region ?_
          refine xk_move rfl (by decide) ?_
          refine xk_assign rfl (by decide) ?_
          refine xk_assign rfl (by decide) ?_
          refine XK.nilN ?_
          refine XK.ret ?_
          refine XK.norm ?_
          refine XK.ret2 rfl rfl rfl fun w1 st => ⟨by rw [packZ, if_neg h1, if_neg h2, if_neg h3, if_pos h4]; rfl, st.below (by simp)⟩
        ·
          refine XK.skip ?_
          refine XK.norm ?_
          refine XK.seq ?_

          refine XK.region ?_
          refine xk_move rfl (by decide) ?_
          refine xk_assign rfl (by decide) ?_
          refine xk_assign rfl (by decide) ?_
          refine XK.nilN ?_
          refine XK.ret ?_
          refine XK.norm ?_
          refine XK.ret2 rfl rfl rfl fun w1 st => ⟨by rw [packZ, if_neg h1, if_neg h2, if_neg h3, if_neg h4]; rfl, st.below (by simp)⟩

theorem unpack_any (w0 : Int) (w : World) :
    Calls Try.prog 50 #[.int .u32 w0] w (Rt (.tuple #[.agg (unpackH w0).toArray, .int .i64 (unpackE w0)]) w) := by
  refine XK.enter (vs := [.int .u32 w0]) Try.func50 rfl Try.ntmps50 (by simp) ?_
  refine XK.seq ?_

  refine XK.region ?_
  refine xk_alloc (cs := [.int .i64 0, .int .i64 0, .int .i64 0, .int .i64 0]) (zeroB_of (by kernel_rfl)) (by decide) fun g1 => ?_
  refine xk_assign rfl (by decide) ?_
  refine XK.nilN ?_
  refine XK.seq ?_
  refine XK.seq ?_

  refine XK.region ?_
  refine xk_move rfl (by decide) ?_
  refine xk_callR (f := 76) (fi := []) (ca := []) (by kernel_rfl) rfl rfl (by decide) (fun w1 st => part_any w0 28 4 w1 (by unfold okF; omega)) ?_
  refine xk_neq rfl rfl (by decide) ?_
  refine XK.nilN ?_
  refine XK.if_ rfl (fun h => ?_) (fun h => ?_)
  ·
    refine XK.seq ?_

    refine XK.region ?_
    refine xk_buildS (zs := [.int .i64 0, .int .i64 0, .int .i64 0, .int .i64 0]) (L := [(0, 1), (1, 1), (2, 1), (3, 1)]) (zeroB_of (by kernel_rfl)) (by kernel_rfl) rfl (by simp [fillL, setN, Value.cells]; rfl) (by decide) ?_
    (first | (refine xk_storeN 0 rfl rfl rfl (by kernel_rfl) (by simp [Value.cells, Value.oneCell']) (by simp [Value.cells]) ?_) | (refine xk_storeN 1 rfl rfl rfl (by kernel_rfl) (by simp [Value.cells, Value.oneCell']) (by simp [Value.cells]) ?_) | (refine xk_storeN 2 rfl rfl rfl (by kernel_rfl) (by simp [Value.cells, Value.oneCell']) (by simp [Value.cells]) ?_) | (refine xk_storeN 3 rfl rfl rfl (by kernel_rfl) (by simp [Value.cells, Value.oneCell']) (by simp [Value.cells]) ?_) | (refine xk_storeN 4 rfl rfl rfl (by kernel_rfl) (by simp [Value.cells, Value.oneCell']) (by simp [Value.cells]) ?_) | (refine xk_storeN 5 rfl rfl rfl (by kernel_rfl) (by simp [Value.cells, Value.oneCell']) (by simp [Value.cells]) ?_) | (refine xk_storeN 6 rfl rfl rfl (by kernel_rfl) (by simp [Value.cells, Value.oneCell']) (by simp [Value.cells]) ?_) | (refine xk_storeN 7 rfl rfl rfl (by kernel_rfl) (by simp [Value.cells, Value.oneCell']) (by simp [Value.cells]) ?_) | (refine xk_storeN 8 rfl rfl rfl (by kernel_rfl) (by simp [Value.cells, Value.oneCell']) (by simp [Value.cells]) ?_)); simp only [putN, Value.cells, List.set, List.take, List.drop, List.nil_append, List.append_nil, List.length_cons, List.length_nil, List.cons_append, Nat.reduceAdd]
    refine xk_assign rfl (by decide) ?_
    refine XK.nilN ?_
    refine XK.ret ?_
    refine XK.norm ?_
    refine XK.retCT rfl (n := 4) (vs := headC 0 0 0 0) (by kernel_rfl) rfl rfl (RdN.whole 0 rfl) rfl fun w1 st => ⟨by rw [unpackH, unpackE, if_pos h, if_pos h], st.below (by simp)⟩
  ·
    refine XK.skip ?_
    refine XK.norm ?_
    refine XK.seq ?_

    refine XK.region ?_
    refine xk_move rfl (by decide) ?_
    refine xk_callR (f := 76) (fi := []) (ca := []) (by kernel_rfl) rfl rfl (by decide) (fun w1 st => part_any w0 0 8 w1 (by unfold okF; omega)) ?_
    refine xk_move rfl (by decide) ?_
    refine xk_callR (f := 76) (fi := []) (ca := []) (by kernel_rfl) rfl rfl (by decide) (fun w1 st => part_any w0 8 2 w1 (by unfold okF; omega)) ?_
    refine xk_move rfl (by decide) ?_
    refine xk_callR (f := 76) (fi := []) (ca := []) (by kernel_rfl) rfl rfl (by decide) (fun w1 st => part_any w0 10 8 w1 (by unfold okF; omega)) ?_
    refine xk_move rfl (by decide) ?_
    refine xk_callR (f := 76) (fi := []) (ca := []) (by kernel_rfl) rfl rfl (by decide) (fun w1 st => part_any w0 18 10 w1 (by unfold okF; omega)) ?_
    refine xk_buildS (zs := [.int .i64 0, .int .i64 0, .int .i64 0, .int .i64 0]) (L := [(0, 1), (1, 1), (2, 1), (3, 1)]) (zeroB_of (by kernel_rfl)) (by kernel_rfl) rfl (by simp [fillL, setN, Value.cells]; rfl) (by decide) ?_
    (first | (refine xk_storeN 0 rfl rfl rfl (by kernel_rfl) (by simp [Value.cells, Value.oneCell']) (by simp [Value.cells]) ?_) | (refine xk_storeN 1 rfl rfl rfl (by kernel_rfl) (by simp [Value.cells, Value.oneCell']) (by simp [Value.cells]) ?_) | (refine xk_storeN 2 rfl rfl rfl (by kernel_rfl) (by simp [Value.cells, Value.oneCell']) (by simp [Value.cells]) ?_) | (refine xk_storeN 3 rfl rfl rfl (by kernel_rfl) (by simp [Value.cells, Value.oneCell']) (by simp [Value.cells]) ?_) | (refine xk_storeN 4 rfl rfl rfl (by kernel_rfl) (by simp [Value.cells, Value.oneCell']) (by simp [Value.cells]) ?_) | (refine xk_storeN 5 rfl rfl rfl (by kernel_rfl) (by simp [Value.cells, Value.oneCell']) (by simp [Value.cells]) ?_) | (refine xk_storeN 6 rfl rfl rfl (by kernel_rfl) (by simp [Value.cells, Value.oneCell']) (by simp [Value.cells]) ?_) | (refine xk_storeN 7 rfl rfl rfl (by kernel_rfl) (by simp [Value.cells, Value.oneCell']) (by simp [Value.cells]) ?_) | (refine xk_storeN 8 rfl rfl rfl (by kernel_rfl) (by simp [Value.cells, Value.oneCell']) (by simp [Value.cells]) ?_)); simp only [putN, Value.cells, List.set, List.take, List.drop, List.nil_append, List.append_nil, List.length_cons, List.length_nil, List.cons_append, Nat.reduceAdd]
    refine xk_assign rfl (by decide) ?_
    refine XK.nilN ?_
    refine XK.ret ?_
    refine XK.norm ?_
    refine XK.retCT rfl (n := 4) (vs := headC (getZ w0 0 8) (getZ w0 8 2) (getZ w0 10 8) (getZ w0 18 10)) (by kernel_rfl) rfl rfl (RdN.whole 0 rfl) rfl fun w1 st => ⟨by rw [unpackH, unpackE, if_neg h, if_neg h], st.below (by simp)⟩

theorem row_any (w0 : Int) (A : Option Addr) (n c : Nat) (zs : List Int) (w : World) (hs : SlS (all w) 1 A n (u32Cells zs)) (hn : n = zs.length) (hn2 : n ≤ 1000000) : Calls Try.prog 24 #[.int .u32 w0, .slice A n c] w (fun y w' => (∃ x, y = .returned x ∧ RowOk (w0 :: zs) x w w') ∧ Below w.heap.size w w') := by
  refine XK.enter (vs := [.int .u32 w0, .slice A n c]) Try.func24 rfl Try.ntmps24 (by simp) ?_
  refine XK.seq ?_

  refine XK.region ?_
  refine xk_assign rfl (by decide) ?_
  refine XK.nilN ?_
  refine XK.seq ?_

  refine XK.region ?_
  refine xk_move rfl (by decide) ?_
  refine xk_len (el := 54) (by kernel_rfl) rfl (by decide) ?_
  refine xk_add rfl rfl (wrap_in (by omega)) (by decide) ?_
  refine xk_makeCapT 1 4 (el := 54) (c := n + 1) (k0 := 1) (kd' := .i64) (by kernel_rfl) (by kernel_rfl) rfl (by rw [Int.natCast_add]; rfl) (by omega) (by omega) (by decide) fun g1 => ?_
  refine xk_assign rfl (by decide) ?_
  refine XK.nilN ?_
  refine XK.seq ?_

  refine XK.region ?_
  refine xk_move rfl (by decide) ?_
  refine xk_move rfl (by decide) ?_
  refine xk_slice (el := 54) (sz := 1) (zs := [.int .u32 0]) (by kernel_rfl) (zeroB_of (by kernel_rfl)) (by kernel_rfl) rfl (by decide) (by decide) rfl (by simp [fillL, setN, Value.cells, List.range_succ, List.set]; rfl) (by decide) fun g2 => ?_
  refine xk_appendT 1 1 4 1 (n' := 1) (el := 54) (by kernel_rfl) (by kernel_rfl) (by decide) rfl rfl rfl (sl_blk 0 rfl rfl) (by simp [Value.oneCell']) rfl (by omega) (by omega) (by decide) fun A1 c1 => ?_
  dsimp only [List.set]
  refine xk_assign rfl (by decide) ?_
  refine XK.nilN ?_
  refine XK.seq ?_

  refine XK.region ?_
  refine xk_move rfl (by decide) ?_
  refine xk_move rfl (by decide) ?_
  refine xk_appendT 1 1 4 n (n' := n + 1) (el := 54) (by kernel_rfl) (by kernel_rfl) (by decide) rfl rfl rfl (sl_ro (by simp) hs) (u32Cells_one _) (by omega) (by omega) (by omega) (by decide) fun A2 c2 => ?_
  dsimp only [List.set]
  refine xk_assign rfl (by decide) ?_
  refine XK.nilN ?_
  refine XK.ret ?_
  refine XK.norm ?_
  refine XK.still [] [1] [] (by simp) rfl (by decide) (by decide) fun q hq _ hfr => ?_
  obtain ⟨F2, sf2, zf2⟩ := hq 1 _ (by simp) rfl
  obtain ⟨Am, cm, hBm, hsm⟩ := SlS.of_own (Y := q.Z) sf2 zf2
  cases hBm
  subst hn
  refine XK.ret1 rfl rfl fun w1 st => ⟨⟨_, rfl, A2, c2, rfl, ?_⟩, st.below (by simp)⟩
  exact SlS.le hsm (st.fresh_le (by simp) (hfr (by simp) (by simp)))

def CmdOk (l : List Int) (v : Value) (w w' : World) : Prop := ∃ A c, v = .tuple #[.slice A l.length c, .int .i64 0] ∧ SlS (fresh w w') 1 A l.length (u32Cells l)
theorem command_any (m t p k : Int) (A : Option Addr) (n c : Nat) (zs : List Int) (w : World) (hs : SlS (all w) 1 A n (u32Cells zs)) (hn : n = zs.length) (hn2 : n ≤ 1000000) (hok : (packZ m t p k).2 = 0) : Calls Try.prog 13 #[.agg #[.int .i64 m, .int .i64 t, .int .i64 p, .int .i64 k], .slice A n c] w (fun y w' => (∃ x, y = .returned x ∧ CmdOk ((packZ m t p k).1 :: zs) x w w') ∧ Below w.heap.size w w') := by
  refine XK.enter (vs := [.agg #[.int .i64 m, .int .i64 t, .int .i64 p, .int .i64 k], .slice A n c]) Try.func13 rfl Try.ntmps13 (by simp) ?_
  refine XK.seq ?_

  refine XK.region ?_
  refine xk_box rfl (by decide) fun g1 => ?_
  refine xk_assign rfl (by decide) ?_
  refine xk_assign rfl (by decide) ?_
  refine XK.nilN ?_
  refine XK.seq ?_

  refine XK.region ?_
  refine xk_ldN 4 rfl ?_
  refine xk_callR (f := 23) (fi := []) (ca := []) (by kernel_rfl) rfl rfl (by decide) (fun w1 st => pack_any m t p k w1) ?_
  refine xk_move rfl (by decide) ?_
  refine xk_extract rfl rfl (by decide) ?_
  refine xk_extract rfl rfl (by decide) ?_
  refine xk_assign rfl (by decide) ?_
  refine xk_assign rfl (by decide) ?_
  refine XK.nilN ?_
  refine XK.seq ?_
  refine XK.seq ?_

  refine XK.region ?_
  refine xk_move rfl (by decide) ?_
  refine xk_neq rfl rfl (by decide) ?_
  refine XK.nilN ?_
  refine XK.if_ rfl (fun h => ?_) (fun h => ?_)
  ·
    refine XK.seq ?_

    refine XK.region ?_
    refine xk_move rfl (by decide) ?_
    refine xk_assign rfl (by decide) ?_
    refine xk_assign rfl (by decide) ?_
    refine XK.nilN ?_
    refine XK.ret ?_
    refine XK.norm ?_
    exact absurd hok h
  ·
    refine XK.skip ?_
    refine XK.norm ?_
    refine XK.seq ?_

    refine XK.region ?_
    refine xk_move rfl (by decide) ?_
    refine xk_move rfl (by decide) ?_
    refine xk_call [] (f := 24) (fi := []) (ca := []) (by kernel_rfl) rfl rfl (by decide) (by simp) (RowOk ((packZ m t p k).1 :: zs)) (fun w1 st => row_any (packZ m t p k).1 A n c zs w1 (hs.le (st.le (by simp))) hn hn2) ?_
    rintro _ w1 q1 ⟨A1, c1, rfl, h1⟩ hf _ hF1
    have hF1 := hF1 (by simp)
    have h1 := h1.le hf
    clear hf
    refine xk_assign rfl (by decide) ?_
    refine xk_assign rfl (by decide) ?_
    refine XK.nilN ?_
    refine XK.ret ?_
    refine XK.norm ?_
    refine XK.ret2 rfl rfl rfl fun w1 st => ⟨⟨_, rfl, A1, c1, rfl, SlS.le h1 (st.fresh_le (by simp) hF1)⟩, st.below (by simp)⟩

end Go.Proofs.Ytbcfbafpeidifaa
/- package table: what a row of words asks for. No walk in sight. -/
namespace Go.Proofs.Ytbcfbafpeidifaa
set_option linter.all false
open Go.RowKit
def hMsg (w : Int) : Int := if getZ w 28 4 ≠ 0 then 0 else getZ w 0 8
def hTyp (w : Int) : Int := if getZ w 28 4 ≠ 0 then 0 else getZ w 8 2
def hPro (w : Int) : Int := if getZ w 28 4 ≠ 0 then 0 else getZ w 10 8
def hTok (w : Int) : Int := if getZ w 28 4 ≠ 0 then 0 else getZ w 18 10
theorem unpackH_eq (w : Int) : unpackH w = headC (hMsg w) (hTyp w) (hPro w) (hTok w) := by
  unfold unpackH hMsg hTyp hPro hTok
  split <;> rfl
/-- what a message has -/
structure Frm where
  n : Int
  m : Int
  a : Int
  b : Int
  c : Int
def Frm.v (f : Frm) : Value := frm f.n f.m f.a f.b f.c
def Frm.act (f : Frm) (v : Int) : Int := if v = 0 then f.a else if v = 1 then f.b else f.c
def frmOf (p m : Int) : Option Frm :=
  if m = 0 then (if p = 16 ∨ p = 17 ∨ p = 20 ∨ p = 22 then some ⟨0, 0, 0, 0, 0⟩ else none)
  else if m = 1 then (if p = 16 then some ⟨0, 0, 0, 0, 0⟩ else none)
  else if m = 4 then (if p = 17 then some ⟨2, 3, 100, 117, 107⟩ else if p = 22 then some ⟨2, 2, 114, 97, 0⟩ else none)
  else if m = 5 then (if p = 17 then some ⟨1, 0, 0, 0, 0⟩ else none)
  else if m = 6 then (if p = 20 then some ⟨1, 0, 0, 0, 0⟩ else none)
  else if m = 7 then (if p = 20 then some ⟨2, 2, 111, 99, 0⟩ else none)
  else none
theorem frm_get (p m : Int) : mgetP frmL (p, m) = (frmOf p m).map Frm.v := by
  unfold frmL frmI frmOf
  simp only [List.map_cons, List.map_nil, frmE, mgetP_cons, Prod.mk.injEq]
  by_cases h0 : m = 0
  · subst h0
    by_cases h16 : p = 16
    · subst h16; simp [Frm.v]
    · by_cases h17 : p = 17
      · subst h17; simp [Frm.v]
      · by_cases h20 : p = 20
        · subst h20; simp [Frm.v]
        · by_cases h22 : p = 22
          · subst h22; simp [Frm.v]
          · simp [h16, h17, h20, h22, mgetP, Ne.symm h16, Ne.symm h17, Ne.symm h20, Ne.symm h22]
  · by_cases h1 : m = 1
    · subst h1
      by_cases h16 : p = 16
      · subst h16; simp [Frm.v]
      · simp [h16, Ne.symm h16, mgetP]
    · by_cases h4 : m = 4
      · subst h4
        by_cases h17 : p = 17
        · subst h17; simp [Frm.v]
        · by_cases h22 : p = 22
          · subst h22; simp [Frm.v]
          · simp [h17, h22, Ne.symm h17, Ne.symm h22, mgetP]
      · by_cases h5 : m = 5
        · subst h5
          by_cases h17 : p = 17
          · subst h17; simp [Frm.v]
          · simp [h17, Ne.symm h17, mgetP]
        · by_cases h6 : m = 6
          · subst h6
            by_cases h20 : p = 20
            · subst h20; simp [Frm.v]
            · simp [h20, Ne.symm h20, mgetP]
          · by_cases h7 : m = 7
            · subst h7
              by_cases h20 : p = 20
              · subst h20; simp [Frm.v]
              · simp [h20, Ne.symm h20, mgetP]
            · simp [h0, h1, h4, h5, h6, h7, Ne.symm h0, Ne.symm h1, Ne.symm h4, Ne.symm h5, Ne.symm h6, Ne.symm h7, mgetP]
/-- the form, or nothing -/
def frmD (p m : Int) : Frm := (frmOf p m).getD ⟨0, 0, 0, 0, 0⟩
theorem frm_perm {sub : List Nat} (h : sub.Perm frmI) (p m : Int) : mgetP (sub.reverse.map frmE) (p, m) = (frmOf p m).map Frm.v := by
  rw [← frm_get]
  have hp : (sub.reverse.map frmE).Perm frmL := ((List.reverse_perm sub).trans h).map frmE
  refine mgetP_perm hp ?_ _
  exact ((hp.map (·.1)).nodup_iff).2 (by decide)
theorem frm_look {sub : List Nat} (h : sub.Perm frmI) (p m : Int) : (mgetP (sub.reverse.map frmE) (p, m)).getD (frm 0 0 0 0 0) = (frmD p m).v ∧ (mgetP (sub.reverse.map frmE) (p, m)).isSome = (frmOf p m).isSome := by
  rw [frm_perm h]
  unfold frmD
  cases frmOf p m <;> exact ⟨rfl, rfl⟩
theorem frm_ok (p m : Int) : ((frmD p m).n = 0 ∨ (frmD p m).n = 1 ∨ (frmD p m).n = 2) ∧ 0 ≤ (frmD p m).m ∧ (frmD p m).m ≤ 3 ∧ (∀ v, 0 ≤ v → v < (frmD p m).m → (frmD p m).act v = 107 → p = 17) ∧
    ((frmD p m).m ≠ 0 → p = 17 ∨ p = 20 ∨ p = 22) := by
  unfold frmD frmOf
  by_cases h0 : m = 0
  · by_cases h : p = 16 ∨ p = 17 ∨ p = 20 ∨ p = 22 <;> simp [h0, h] <;> omega
  · by_cases h1 : m = 1
    · by_cases h : p = 16 <;> simp [h1, h] <;> omega
    · by_cases h4 : m = 4
      · by_cases h : p = 17
        · simp [h4, h]
        · by_cases h' : p = 22
          · subst h4 h'
            simp only [Frm.act]
            refine ⟨by simp, by simp, by simp, fun v h1 h2 h3 => ?_, by simp⟩
            simp at h2 h3
            split at h3
            · omega
            · split at h3 <;> omega
          · simp [h4, h, h']; omega
      · by_cases h5 : m = 5
        · by_cases h : p = 17 <;> simp [h5, h] <;> omega
        · by_cases h6 : m = 6
          · by_cases h : p = 20 <;> simp [h6, h] <;> omega
          · by_cases h7 : m = 7
            · by_cases h : p = 20
              · subst h7 h
                simp only [Frm.act]
                refine ⟨by simp, by simp, by simp, fun v h1 h2 h3 => ?_, by simp⟩
                simp at h2 h3
                split at h3
                · omega
                · split at h3 <;> omega
              · simp [h7, h]; omega
            · simp [h0, h1, h4, h5, h6, h7]; omega
def retOf (s : Soc) (k : Nat) : Bool := (s.domains[k]?).any (·.ret)
def kindOf (s : Soc) (k : Nat) : Int := ((s.clocks[k]?).map (·.kind)).getD 0
/-- can the clock be turned on and off? -/
def swit (s : Soc) (k : Nat) : Prop := kindOf s k = 112 ∨ kindOf s k = 103
instance (s : Soc) (k : Nat) : Decidable (swit s k) := inferInstanceAs (Decidable (_ ∨ _))
/-- what is wrong with an act -/
def notF (s : Soc) (p k : Int) (id : Nat) : Prop := (k = 107 ∧ retOf s id = false) ∨ (p = 20 ∧ ¬ swit s id)
instance (s : Soc) (p k : Int) (id : Nat) : Decidable (notF s p k id) := inferInstanceAs (Decidable (_ ∨ _))
def askF (s : Soc) (p : Int) (f : Frm) (id v : Int) : Int × Int × Int :=
  if (numF s p : Int) ≤ id then (-4, 0, 0) else if f.m = 0 then (0, 0, 0) else if f.m ≤ v then (-2, 0, 0) else if notF s p (f.act v) id.toNat then (-2, 0, 0) else (0, f.act v, id)
def readF (s : Soc) (l : List Int) : Int × Int × Int :=
  match l with
  | [] => (-10, 0, 0)
  | w :: r =>
    if unpackE w ≠ 0 ∨ hTyp w ≠ 0 then (-10, 0, 0)
    else if (frmOf (hPro w) (hMsg w)).isSome = false then (-1, 0, 0)
    else if (r.length : Int) ≠ (frmD (hPro w) (hMsg w)).n then (-10, 0, 0)
    else if (frmD (hPro w) (hMsg w)).n = 0 then (0, 0, 0)
    else askF s (hPro w) (frmD (hPro w) (hMsg w)) (r.getD 0 0) (r.getD ((frmD (hPro w) (hMsg w)).n.toNat - 1) 0)
def actV (a : Int × Int × Int) : Value := .tuple #[.int .i32 a.1, .agg #[.int .u8 a.2.1, .int .i64 a.2.2]]
def U32s (l : List Int) : Prop := ∀ x ∈ l, 0 ≤ x ∧ x < 4294967296
theorem SlS.u32 {w : World} {A : Option Addr} {n : Nat} {l : List Int} (h : SlS (all w) 1 A n (u32Cells l)) (hn : 0 < n) : ∃ b off, A = some ⟨b, off, none⟩ ∧ ∀ (i : Nat) (x : Int), l[i]? = some x → ROc w b (off + i) (.int .u32 x) := by
  obtain ⟨b, off, hA, hb, hc⟩ := h.2 hn
  refine ⟨b, off, hA, fun i x hx => ⟨hb, hc i _ ?_⟩⟩
  simp only [u32Cells, List.getElem?_map, hx, Option.map_some]
section
variable {P : Program} {N : Nat} {w0 : World} {e : Env} {R : List Piece} {H : List HP}
theorem XK.retTC {fn : Func} {Post : Ending → World → Prop} {t u n b : Nat} {s : TypeId} {vs : List Value} {v' : Value} (hr : fn.results = #[.tmp u, .cell t s]) (hs : rowB P s n = true) (hn : vs.length = n) (ht : e.get t = some (.pointer (some ⟨b, 0, none⟩))) (hrd : RdN w0 R H b 0 vs) (hu : e.get u = some v') (h : ∀ w, St w0 R H w → Post (.returned (.tuple #[v', .agg vs.toArray])) w) : XK N w0 (bodyPost P fn Post .ret) e R H := fun a w hrp st => by
  have hl := run_load_row (P := P) hs hn (hrd w st)
  refine bodyPost_ret (v := .tuple #[v', .agg vs.toArray]) ?_ hrp.defers (h w st)
  have ha := hrp.get t _ ht
  have hb := hrp.get u _ hu
  simp only [Instr.loadAt, Instr.sureAddr, Sem.run_bind, Sem.run_pure, Result.andThen_ok] at hl
  simp only [results, hr]
  simp [ha, hb, asAddr, hl]
end
end Go.Proofs.Ytbcfbafpeidifaa
