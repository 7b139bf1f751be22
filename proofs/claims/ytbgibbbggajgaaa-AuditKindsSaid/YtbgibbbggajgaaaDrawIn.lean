/- A region that draws its order, in a round: what comes up in any order, and then the rest, one behind the other. -/
import Derived.Test.YtbgibbbggajgaaaIter2
namespace Go.Proofs.Ytbgibbbggajgaaa
set_option linter.all false
open Go.RowKit

def edgesB (ops : Array Oper) : Bool := (List.range ops.size).all fun j => match ops[j]? with
  | some o => o.after.toList.all fun x => !(Region.binds .any x) || decide (x.on < j)
  | none => true
def guardsB (l : List Oper) (m : Nat) : Bool := (l.take m).all fun o => match o.guard with
  | some (j, _) => decide (j < m)
  | none => true
theorem edges_lt {ops : Array Oper} (h : edgesB ops = true) {j : Nat} {o : Oper} (ho : ops[j]? = some o) : ∀ x ∈ o.after, Region.binds .any x = true → x.on < j := fun x hx hb => by
  have hj := (Array.getElem?_eq_some_iff.1 ho).1
  unfold edgesB at h
  simp only [List.all_eq_true, List.mem_range] at h
  have := h j hj
  rw [ho] at this
  simp only [List.all_eq_true] at this
  have := this x (by simpa using hx)
  simpa [hb] using this
theorem getD_tf {l : Array Bool} {i : Nat} (h : i < l.size) : l.getD i true = l.getD i false := by simp [h]
/-- all ahead of number k are listed, and no more -/
def Upto (k : Nat) (listed : Array Bool) : Prop := (∀ i, i < k → listed.getD i false = true) ∧ ∀ i, k ≤ i → listed.getD i false = false
theorem ready_upto {ops : Array Oper} {k : Nat} {listed : Array Bool} (hE : edgesB ops = true) (hd : Down ops listed) (hk : k < ops.size) (ht : ∀ j, k ≤ j → j < ops.size → tailB ops j = true) (hsz : listed.size = ops.size) (hu : Upto k listed) : k ∈ Region.ready .any ops listed ∧ ∀ i ∈ Region.ready .any ops listed, i = k := by
  constructor
  · refine mem_ready.2 ⟨?_, _, Array.getElem?_eq_getElem hk, fun x hx hb => hu.1 _ (edges_lt hE (Array.getElem?_eq_getElem hk) x hx hb)⟩
    rw [getD_tf (by omega)]
    exact hu.2 k (Nat.le_refl _)
  · intro i hi
    obtain ⟨h1, o, ho, h2⟩ := mem_ready.1 hi
    have hlt := (Array.getElem?_eq_some_iff.1 ho).1
    rw [getD_tf (by omega)] at h1
    rcases Nat.lt_trichotomy i k with h | h | h
    · rw [hu.1 i h] at h1; cases h1
    · exact h
    · have := tail_listed hd hi (ht i (by omega) hlt) h
      rw [hu.2 k (Nat.le_refl _)] at this; cases this
theorem Upto.next {k : Nat} {listed : Array Bool} (h : Upto k listed) (hk : k < listed.size) : Upto (k + 1) (listed.setIfInBounds k true) := by
  refine ⟨fun i hi => ?_, fun i hi => ?_⟩
  · by_cases e : k = i
    · subst e; simp [hk]
    · rw [getD_set_ne false e]; exact h.1 i (by omega)
  · rw [getD_set_ne false (by omega)]; exact h.2 i (by omega)
section
variable {P : Program} {N : Nat} {w0 : World} {e : Env} {R : List Piece} {H : List HP} {Q : Exit → Act → World → Prop} {r : Option Nat} {L : List Nat}
theorem tail_sound {ops : Array Oper} (hE : edgesB ops = true) : ∀ (fuel k : Nat) (listed : Array Bool) (a : Act) (w : World), k ≤ ops.size → ops.size ≤ k + fuel → Down ops listed → (∀ j, k ≤ j → j < ops.size → tailB ops j = true) → listed.size = ops.size → Upto k listed →
    wpListIn (Fr r) 9 P ops Q (ops.toList.drop k) a w → wpAnyIn (Fr r) 9 P .any ops Q fuel listed a w := by
  have none : ∀ (k : Nat) (listed : Array Bool), k = ops.size → listed.size = ops.size → Upto k listed → Region.ready .any ops listed = [] := by
    intro k listed hk hsz hu
    cases hr : Region.ready .any ops listed with
    | nil => rfl
    | cons i is =>
      exfalso
      obtain ⟨h1, o, ho, _⟩ := mem_ready.1 (by rw [hr]; simp : i ∈ Region.ready .any ops listed)
      have hlt := (Array.getElem?_eq_some_iff.1 ho).1
      rw [getD_tf (by omega), hu.1 i (by omega)] at h1
      cases h1
  intro fuel
  induction fuel with
  | zero =>
    intro k listed a w hk hk2 hd ht hsz hu h
    rw [List.drop_eq_nil_of_le (by simp; omega)] at h
    exact ⟨none k listed (by omega) hsz hu, h⟩
  | succ fuel ih =>
    intro k listed a w hk hk2 hd ht hsz hu h
    by_cases hkn : k < ops.size
    · obtain ⟨h1, h2⟩ := ready_upto hE hd hkn ht hsz hu
      refine ⟨fun hn => absurd h1 (by rw [hn]; simp), fun i hi => ?_⟩
      have := h2 i hi
      subst this
      have hget : ops[i]? = some (ops[i]'hkn) := Array.getElem?_eq_getElem hkn
      have hdrop : ops.toList.drop i = ops[i]'hkn :: ops.toList.drop (i + 1) := by
        rw [← List.getElem_cons_drop (by simpa using hkn)]; simp
      rw [hdrop] at h
      unfold wpListIn at h
      unfold wpOpIn
      rw [hget]
      have key : ∀ a w, wpListIn (Fr r) 9 P ops Q (ops.toList.drop (i + 1)) a w → wpAnyIn (Fr r) 9 P .any ops Q fuel (listed.setIfInBounds i true) a w := fun a w h => ih (i + 1) _ a w (by omega) (by omega) (hd.set_ hi) (fun j hj => ht j (by omega)) (by simpa using hsz) (hu.next (by omega)) h
      dsimp only
      split
      · rename_i hw
        rw [if_pos hw] at h
        exact Oper.wpIn_mono key h
      · rename_i hw
        rw [if_neg hw] at h
        exact ⟨h.1, key _ _ h.2⟩
    · rw [List.drop_eq_nil_of_le (by simp; omega)] at h
      have hn := none k listed (by omega) hsz hu
      exact ⟨fun _ => h, fun i hi => by rw [hn] at hi; cases hi⟩
/-- the first m, by themselves -/
structure Rel (ops : Array Oper) (m : Nat) (listed l' : Array Bool) : Prop where
  lo : ∀ i, i < m → listed.getD i false = l'.getD i false
  hi : ∀ i, m ≤ i → listed.getD i false = false
  s1 : listed.size = ops.size
  s2 : l'.size = m
  le : m ≤ ops.size
theorem Rel.set_ {ops : Array Oper} {m i : Nat} {listed l' : Array Bool} (h : Rel ops m listed l') (hi : i < m) : Rel ops m (listed.setIfInBounds i true) (l'.setIfInBounds i true) := by
  have hle := h.le
  have hs := h.s1
  have hs2 := h.s2
  refine ⟨fun j hj => ?_, fun j hj => ?_, by simpa using h.s1, by simpa using h.s2, h.le⟩
  · by_cases e : i = j
    · subst e
      have h1 : i < l'.size := by omega
      have h2 : i < listed.size := by omega
      simp [h1, h2]
    · rw [getD_set_ne false e, getD_set_ne false e]; exact h.lo j hj
  · rw [getD_set_ne false (by omega)]; exact h.hi j hj
theorem wp_fx {o : Oper} {a : Act} {w : World} {K K1 K2 : Act → World → Prop} (h : o.wp P a w K (Fx K1)) : o.wp P a w K (Fx K2) := by
  unfold Oper.wp at h ⊢
  generalize (execOp a.eval o).run P w = res at h ⊢
  cases res with
  | ok n w' => cases n <;> first | exact h | exact Calls.mono h (fun x w'' hx => by cases x <;> first | exact hx | exact hx.elim | (obtain ⟨_, _, hf⟩ := hx; exact hf.elim))
  | halt x w' => cases x <;> exact h
theorem any_sound {l : List Oper} {m : Nat} (hm : m ≤ l.length) (hE : edgesB l.toArray = true) (hT : tlB l.toArray m = true) (hG : guardsB l m = true) (hp : (l.take m).all plainOp = true) :
    ∀ (fuel : Nat) (listed l' : Array Bool) (a : Act) (w : World), Rel l.toArray m listed l' → Down l.toArray listed → wpAny P .any (l.take m).toArray (Fx (KI r L P l.toArray Q (l.drop m))) fuel l' a w →
      wpAnyIn (Fr r) 9 P .any l.toArray Q (fuel + (l.length - m)) listed (mk L a) w := by
  have hget : ∀ i, i < m → (l.take m).toArray[i]? = l.toArray[i]? := fun i hi => by simp [List.getElem?_take, hi]
  have hready : ∀ {listed l' : Array Bool}, Rel l.toArray m listed l' → ∀ i, i < m → (i ∈ Region.ready .any l.toArray listed ↔ i ∈ Region.ready .any (l.take m).toArray l') := by
    intro listed l' hr i hi
    have hs1 := hr.s1
    have hs2 := hr.s2
    have hle := hr.le
    rw [mem_ready, mem_ready, getD_tf (l := listed) (by omega), getD_tf (l := l') (by omega), hr.lo i hi, hget i hi]
    constructor
    · rintro ⟨h1, o, ho, h2⟩
      exact ⟨h1, o, ho, fun x hx hb => by have := edges_lt hE ho x hx hb; rw [← hr.lo _ (by omega)]; exact h2 x hx hb⟩
    · rintro ⟨h1, o, ho, h2⟩
      exact ⟨h1, o, ho, fun x hx hb => by have := edges_lt hE ho x hx hb; rw [hr.lo _ (by omega)]; exact h2 x hx hb⟩
  have htl : ∀ j, m ≤ j → j < l.toArray.size → tailB l.toArray j = true := fun j hj hlt => by
    unfold tlB at hT
    simp only [List.all_eq_true, List.mem_range, Bool.or_eq_true, decide_eq_true_eq] at hT
    exact (hT j hlt).resolve_left (by omega)
  have hdone : ∀ {listed l' : Array Bool}, Rel l.toArray m listed l' → Region.ready .any (l.take m).toArray l' = [] → Upto m listed := by
    intro listed l' hr hn
    refine ⟨fun i => ?_, hr.hi⟩
    induction i using Nat.strongRecOn with
    | _ i ih =>
      intro hi
      cases hb : listed.getD i false with
      | true => rfl
      | false =>
        exfalso
        have hs1 := hr.s1
        have hle := hr.le
        have hil : i < l.toArray.size := by omega
        have : i ∈ Region.ready .any l.toArray listed := mem_ready.2 ⟨by rw [getD_tf (by omega)]; exact hb, _, Array.getElem?_eq_getElem hil, fun x hx hxb => by
          have := edges_lt hE (Array.getElem?_eq_getElem hil) x hx hxb
          exact ih x.on this (by omega)⟩
        rw [hready hr i hi, hn] at this
        cases this
  have fin : ∀ {fuel : Nat} {listed l' : Array Bool} {a : Act} {w : World}, Rel l.toArray m listed l' → Down l.toArray listed → Region.ready .any (l.take m).toArray l' = [] → KI r L P l.toArray Q (l.drop m) a w → wpAnyIn (Fr r) 9 P .any l.toArray Q (fuel + (l.length - m)) listed (mk L a) w := by
    intro fuel listed l' a w hr hd hn hk
    refine tail_sound hE _ m listed _ w (by simpa using hm) (by simp; omega) hd htl hr.s1 (hdone hr hn) ?_
    unfold KI at hk
    simpa using hk
  intro fuel
  induction fuel with
  | zero =>
    intro listed l' a w hr hd h
    exact fin hr hd h.1 h.2
  | succ fuel ih =>
    intro listed l' a w hr hd h
    cases hne : Region.ready .any (l.take m).toArray l' with
    | nil => exact fin hr hd hne (h.1 hne)
    | cons i0 is =>
      have hi0 : i0 ∈ Region.ready .any (l.take m).toArray l' := by rw [hne]; simp
      have hi0m : i0 < m := by
        obtain ⟨_, o, ho, _⟩ := mem_ready.1 hi0
        have := (Array.getElem?_eq_some_iff.1 ho).1
        simp at this
        omega
      have hi0l := (hready hr i0 hi0m).2 hi0
      rw [show fuel + 1 + (l.length - m) = (fuel + (l.length - m)) + 1 by omega]
      refine ⟨fun hn => absurd hi0l (by rw [hn]; simp), fun i hi => ?_⟩
      obtain ⟨h1, o, ho, _⟩ := mem_ready.1 hi
      have hlt := (Array.getElem?_eq_some_iff.1 ho).1
      by_cases him : i < m
      · have hi' := (hready hr i him).1 hi
        have h2 := h.2 i hi'
        unfold wpOp at h2
        unfold wpOpIn
        rw [hget i him, ho] at h2
        rw [ho]
        dsimp only at h2 ⊢
        have hwant : Region.wanted o (yielded l.toArray (mk L a).tmps) = Region.wanted o (yielded (l.take m).toArray a.tmps) := by
          show Region.wanted o (yielded l.toArray a.tmps) = _
          cases hgd : o.guard with
          | none => simp [Region.wanted, hgd]
          | some g =>
            obtain ⟨j, b⟩ := g
            have hj : j < m := by
              unfold guardsB at hG
              simp only [List.all_eq_true] at hG
              have hmem : o ∈ l.take m := by
                have : (l.take m)[i]? = some o := by simpa [List.getElem?_take, him] using ho
                exact List.mem_of_getElem? this
              have := hG o hmem
              rw [hgd] at this
              simpa using this
            simp only [Region.wanted, hgd, yielded, hget j hj]
        rw [hwant]
        have hpo : plainOp o = true := by
          simp only [List.all_eq_true] at hp
          have : (l.take m)[i]? = some o := by simpa [List.getElem?_take, him] using ho
          exact hp o (List.mem_of_getElem? this)
        have key : ∀ a' w', wpAny P .any (l.take m).toArray (Fx (KI r L P l.toArray Q (l.drop m))) fuel (l'.setIfInBounds i true) a' w' → wpAnyIn (Fr r) 9 P .any l.toArray Q (fuel + (l.length - m)) (listed.setIfInBounds i true) (mk L a') w' := fun a' w' hh => ih _ _ a' w' (hr.set_ him) (hd.set_ hi) hh
        split
        · rename_i hw
          rw [if_pos hw] at h2
          rcases h2 with h2 | ⟨_, _, _, h2⟩
          · exact operIn hpo key (wp_fx h2)
          · exact h2.elim
        · rename_i hw
          rw [if_neg hw] at h2
          refine ⟨fun _ _ => trivial, ?_⟩
          rw [mk_put]
          exact key _ _ h2
      · exfalso
        have := tail_listed hd hi (htl i (by omega) hlt) (show i0 < i by omega)
        obtain ⟨h3, _⟩ := mem_ready.1 hi0l
        have hs1 := hr.s1
        rw [getD_tf (by omega), this] at h3
        cases h3
/-- a region that draws its order: the first m in any order, the rest one behind the other -/
theorem XC.draw (m : Nat) {id : Nat} {l : List Oper} (hm : P.follows .mixedOrders = true) (hc : (Region.noSelect (l.take m).toArray && edgesB l.toArray && tlB l.toArray m && tlB (l.take m).toArray m && guardsB l m && (l.take m).all plainOp && decide (m ≤ l.length)) = true)
    (h : XA P N w0 (l.take m).toArray (Fx (KI r L P l.toArray Q (l.drop m))) R H m m (Array.replicate m false) e R H) : XK N w0 (KC r L P (Code.region id l.toArray true) Q) e R H := fun a w hr st => by
  simp only [Bool.and_eq_true, decide_eq_true_eq] at hc
  obtain ⟨⟨⟨⟨⟨⟨c1, c2⟩, c3⟩, c4⟩, c5⟩, c6⟩, c7⟩ := hc
  have h1 := h ⟨Down.start _ _, c1, c4⟩ a w.drew hr st.drew
  have h2 := any_sound (r := r) (L := L) (Q := Q) c7 c2 c3 c5 c6 m (Array.replicate l.length false) _ a w.drew ⟨fun i hi => by simp [hi, Nat.lt_of_lt_of_le hi c7], fun i hi => by simp [Array.getElem?_replicate]; split <;> rfl, by simp, by simp, by simpa using c7⟩ (Down.start _ _) (wpAny_of_x _ _ _ _ h1)
  unfold KC
  refine wpIn_region_any hm ?_
  rw [show m + (l.length - m) = l.length by omega] at h2
  simpa using h2
end
end Go.Proofs.Ytbgibbbggajgaaa
