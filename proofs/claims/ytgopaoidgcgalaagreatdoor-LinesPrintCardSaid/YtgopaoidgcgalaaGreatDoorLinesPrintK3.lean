/- A region that draws its order, in a round: what comes up in any order, and then the rest, one behind the other. -/
import Derived.Laws.Build
import Derived.Laws.Concat
import Derived.Laws.Strings2
import Derived.Laws.StructEq
import Derived.Lib.AppendIntMem
import Derived.Lib.AppendStr
import Derived.Lib.Builder
import Derived.Lib.ItoaMem
import Derived.Recover
import Derived.Shelf.LaysM
import Derived.Shelf.Slices.Empties2
import Derived.Shelf.Slices.Equal
import Derived.Shelf.Strconv.Itoa0
import Derived.Shelf.Strconv.Itoa1
import Derived.Shelf.Strconv.Itoa2
import Derived.Shelf.Strconv.Itoa3
import Derived.Shelf.Strings.Builder1
import Derived.Shelf.Strings.Builder2
import Derived.Shelf.Strings.BuilderF
import Derived.Shelf.Strings.BuilderK
import Derived.Shelf.Strings.Count
import Derived.Shelf.Strings.Cut
import Derived.Shelf.Strings.OnBuilder
import Derived.Shelf.Strings.Search1
import Derived.Shelf.Strings.Search2
import Derived.Shelf.Strings.Search3
import Derived.Shelf.Strings.Shaped
import Derived.Shelf.Strings.Split
import Derived.Shelf.Unicode.DecodeSlow
import Derived.Test.YtgopaoidgcgalaaGreatDoorProg
import Derived.WalkSmall
import Derived.Test.YtgopaoidgcgalaaGreatDoorLinesPrintK2
namespace Go.Proofs.YtgopaoidgcgalaaGreatDoor
set_option linter.all false
open Go.RowKit

def edgesB (ops : Array Oper) : Bool := (List.range ops.size).all fun j => match ops[j]? with
  | some o => o.after.toList.all fun x => !(Region.binds .any x) || decide (x.on < j)
  | none => true
def guardsB (l : List Oper) (m : Nat) : Bool := (l.take m).all fun o => match o.guard with
  | some (j, _) => decide (j < m)
  | none => true
theorem edges_lt {ops : Array Oper} (h : edgesB ops = true) {j : Nat} {o : Oper} (ho : ops[j]? = some o) : ∀ x ∈ o.after, Region.binds .any x = true → x.on < j := fun x hx hb => by
  have hj := (Array.getElem?_eq_some_iff.1 ho).1
  unfold edgesB at h
  simp only [List.all_eq_true, List.mem_range] at h
  have := h j hj
  rw [ho] at this
  simp only [List.all_eq_true] at this
  have := this x (by simpa using hx)
  simpa [hb] using this
theorem getD_tf {l : Array Bool} {i : Nat} (h : i < l.size) : l.getD i true = l.getD i false := by simp [h]
/-- all ahead of number k are listed, and no more -/
def Upto (k : Nat) (listed : Array Bool) : Prop := (∀ i, i < k → listed.getD i false = true) ∧ ∀ i, k ≤ i → listed.getD i false = false
theorem ready_upto {ops : Array Oper} {k : Nat} {listed : Array Bool} (hE : edgesB ops = true) (hd : Down ops listed) (hk : k < ops.size) (ht : ∀ j, k ≤ j → j < ops.size → tailB ops j = true) (hsz : listed.size = ops.size) (hu : Upto k listed) : k ∈ Region.ready .any ops listed ∧ ∀ i ∈ Region.ready .any ops listed, i = k := by
  constructor
  · refine mem_ready.2 ⟨?_, _, Array.getElem?_eq_getElem hk, fun x hx hb => hu.1 _ (edges_lt hE (Array.getElem?_eq_getElem hk) x hx hb)⟩
    rw [getD_tf (by omega)]
    exact hu.2 k (Nat.le_refl _)
  · intro i hi
    obtain ⟨h1, o, ho, h2⟩ := mem_ready.1 hi
    have hlt := (Array.getElem?_eq_some_iff.1 ho).1
    rw [getD_tf (by omega)] at h1
    rcases Nat.lt_trichotomy i k with h | h | h
    · rw [hu.1 i h] at h1; cases h1
    · exact h
    · have := tail_listed hd hi (ht i (by omega) hlt) h
      rw [hu.2 k (Nat.le_refl _)] at this; cases this
theorem Upto.next {k : Nat} {listed : Array Bool} (h : Upto k listed) (hk : k < listed.size) : Upto (k + 1) (listed.setIfInBounds k true) := by
  refine ⟨fun i hi => ?_, fun i hi => ?_⟩
  · by_cases e : k = i
    · subst e; simp [hk]
    · rw [getD_set_ne false e]; exact h.1 i (by omega)
  · rw [getD_set_ne false (by omega)]; exact h.2 i (by omega)
section
variable {P : Program} {nn : Nat} {w0 : World} {e : Env} {R : List Piece} {H : List HP} {Q : Exit → Act → World → Prop} {r : Option Nat} {L : List Nat}
theorem tail_sound {ops : Array Oper} (hE : edgesB ops = true) : ∀ (fuel k : Nat) (listed : Array Bool) (a : Act) (w : World), k ≤ ops.size → ops.size ≤ k + fuel → Down ops listed → (∀ j, k ≤ j → j < ops.size → tailB ops j = true) → listed.size = ops.size → Upto k listed →
    wpListIn (Fr r) 9 P ops Q (ops.toList.drop k) a w → wpAnyIn (Fr r) 9 P .any ops Q fuel listed a w := by
  have none : ∀ (k : Nat) (listed : Array Bool), k = ops.size → listed.size = ops.size → Upto k listed → Region.ready .any ops listed = [] := by
    intro k listed hk hsz hu
    cases hr : Region.ready .any ops listed with
    | nil => rfl
    | cons i is =>
      exfalso
      obtain ⟨h1, o, ho, _⟩ := mem_ready.1 (by rw [hr]; simp : i ∈ Region.ready .any ops listed)
      have hlt := (Array.getElem?_eq_some_iff.1 ho).1
      rw [getD_tf (by omega), hu.1 i (by omega)] at h1
      cases h1
  intro fuel
  induction fuel with
  | zero =>
    intro k listed a w hk hk2 hd ht hsz hu h
    rw [List.drop_eq_nil_of_le (by simp; omega)] at h
    exact ⟨none k listed (by omega) hsz hu, h⟩
  | succ fuel ih =>
    intro k listed a w hk hk2 hd ht hsz hu h
    by_cases hkn : k < ops.size
    · obtain ⟨h1, h2⟩ := ready_upto hE hd hkn ht hsz hu
      refine ⟨fun hn => absurd h1 (by rw [hn]; simp), fun i hi => ?_⟩
      have := h2 i hi
      subst this
      have hget : ops[i]? = some (ops[i]'hkn) := Array.getElem?_eq_getElem hkn
      have hdrop : ops.toList.drop i = ops[i]'hkn :: ops.toList.drop (i + 1) := by
        rw [← List.getElem_cons_drop (by simpa using hkn)]; simp
      rw [hdrop] at h
      unfold wpListIn at h
      unfold wpOpIn
      rw [hget]
      have key : ∀ a w, wpListIn (Fr r) 9 P ops Q (ops.toList.drop (i + 1)) a w → wpAnyIn (Fr r) 9 P .any ops Q fuel (listed.setIfInBounds i true) a w := fun a w h => ih (i + 1) _ a w (by omega) (by omega) (hd.set_ hi) (fun j hj => ht j (by omega)) (by simpa using hsz) (hu.next (by omega)) h
      dsimp only
      split
      · rename_i hw
        rw [if_pos hw] at h
        exact Oper.wpIn_mono key h
      · rename_i hw
        rw [if_neg hw] at h
        exact ⟨h.1, key _ _ h.2⟩
    · rw [List.drop_eq_nil_of_le (by simp; omega)] at h
      have hn := none k listed (by omega) hsz hu
      exact ⟨fun _ => h, fun i hi => by rw [hn] at hi; cases hi⟩
/-- the first m, by themselves -/
structure Rel (ops : Array Oper) (m : Nat) (listed l' : Array Bool) : Prop where
  lo : ∀ i, i < m → listed.getD i false = l'.getD i false
  hi : ∀ i, m ≤ i → listed.getD i false = false
  s1 : listed.size = ops.size
  s2 : l'.size = m
  le : m ≤ ops.size
theorem Rel.set_ {ops : Array Oper} {m i : Nat} {listed l' : Array Bool} (h : Rel ops m listed l') (hi : i < m) : Rel ops m (listed.setIfInBounds i true) (l'.setIfInBounds i true) := by
  have hle := h.le
  have hs := h.s1
  have hs2 := h.s2
  refine ⟨fun j hj => ?_, fun j hj => ?_, by simpa using h.s1, by simpa using h.s2, h.le⟩
  · by_cases e : i = j
    · subst e
      have h1 : i < l'.size := by omega
      have h2 : i < listed.size := by omega
      simp [h1, h2]
    · rw [getD_set_ne false e, getD_set_ne false e]; exact h.lo j hj
  · rw [getD_set_ne false (by omega)]; exact h.hi j hj
theorem wp_fx {o : Oper} {a : Act} {w : World} {K K1 K2 : Act → World → Prop} (h : o.wp P a w K (Fx K1)) : o.wp P a w K (Fx K2) := by
  unfold Oper.wp at h ⊢
  generalize (execOp a.eval o).run P w = res at h ⊢
  cases res with
  | ok n w' => cases n <;> first | exact h | exact Calls.mono h (fun x w'' hx => by cases x <;> first | exact hx | exact hx.elim | (obtain ⟨_, _, hf⟩ := hx; exact hf.elim))
  | halt x w' => cases x <;> exact h
theorem any_sound {l : List Oper} {m : Nat} (hm : m ≤ l.length) (hE : edgesB l.toArray = true) (hT : tlB l.toArray m = true) (hG : guardsB l m = true) (hp : (l.take m).all plainOp = true) :
    ∀ (fuel : Nat) (listed l' : Array Bool) (a : Act) (w : World), Rel l.toArray m listed l' → Down l.toArray listed → wpAny P .any (l.take m).toArray (Fx (KI r L P l.toArray Q (l.drop m))) fuel l' a w →
      wpAnyIn (Fr r) 9 P .any l.toArray Q (fuel + (l.length - m)) listed (mk L a) w := by
  have hget : ∀ i, i < m → (l.take m).toArray[i]? = l.toArray[i]? := fun i hi => by simp [List.getElem?_take, hi]
  have hready : ∀ {listed l' : Array Bool}, Rel l.toArray m listed l' → ∀ i, i < m → (i ∈ Region.ready .any l.toArray listed ↔ i ∈ Region.ready .any (l.take m).toArray l') := by
    intro listed l' hr i hi
    have hs1 := hr.s1
    have hs2 := hr.s2
    have hle := hr.le
    rw [mem_ready, mem_ready, getD_tf (l := listed) (by omega), getD_tf (l := l') (by omega), hr.lo i hi, hget i hi]
    constructor
    · rintro ⟨h1, o, ho, h2⟩
      exact ⟨h1, o, ho, fun x hx hb => by have := edges_lt hE ho x hx hb; rw [← hr.lo _ (by omega)]; exact h2 x hx hb⟩
    · rintro ⟨h1, o, ho, h2⟩
      exact ⟨h1, o, ho, fun x hx hb => by have := edges_lt hE ho x hx hb; rw [hr.lo _ (by omega)]; exact h2 x hx hb⟩
  have htl : ∀ j, m ≤ j → j < l.toArray.size → tailB l.toArray j = true := fun j hj hlt => by
    unfold tlB at hT
    simp only [List.all_eq_true, List.mem_range, Bool.or_eq_true, decide_eq_true_eq] at hT
    exact (hT j hlt).resolve_left (by omega)
  have hdone : ∀ {listed l' : Array Bool}, Rel l.toArray m listed l' → Region.ready .any (l.take m).toArray l' = [] → Upto m listed := by
    intro listed l' hr hn
    refine ⟨fun i => ?_, hr.hi⟩
    induction i using Nat.strongRecOn with
    | _ i ih =>
      intro hi
      cases hb : listed.getD i false with
      | true => rfl
      | false =>
        exfalso
        have hs1 := hr.s1
        have hle := hr.le
        have hil : i < l.toArray.size := by omega
        have : i ∈ Region.ready .any l.toArray listed := mem_ready.2 ⟨by rw [getD_tf (by omega)]; exact hb, _, Array.getElem?_eq_getElem hil, fun x hx hxb => by
          have := edges_lt hE (Array.getElem?_eq_getElem hil) x hx hxb
          exact ih x.on this (by omega)⟩
        rw [hready hr i hi, hn] at this
        cases this
  have fin : ∀ {fuel : Nat} {listed l' : Array Bool} {a : Act} {w : World}, Rel l.toArray m listed l' → Down l.toArray listed → Region.ready .any (l.take m).toArray l' = [] → KI r L P l.toArray Q (l.drop m) a w → wpAnyIn (Fr r) 9 P .any l.toArray Q (fuel + (l.length - m)) listed (mk L a) w := by
    intro fuel listed l' a w hr hd hn hk
    refine tail_sound hE _ m listed _ w (by simpa using hm) (by simp; omega) hd htl hr.s1 (hdone hr hn) ?_
    unfold KI at hk
    simpa using hk
  intro fuel
  induction fuel with
  | zero =>
    intro listed l' a w hr hd h
    exact fin hr hd h.1 h.2
  | succ fuel ih =>
    intro listed l' a w hr hd h
    cases hne : Region.ready .any (l.take m).toArray l' with
    | nil => exact fin hr hd hne (h.1 hne)
    | cons i0 is =>
      have hi0 : i0 ∈ Region.ready .any (l.take m).toArray l' := by rw [hne]; simp
      have hi0m : i0 < m := by
        obtain ⟨_, o, ho, _⟩ := mem_ready.1 hi0
        have := (Array.getElem?_eq_some_iff.1 ho).1
        simp at this
        omega
      have hi0l := (hready hr i0 hi0m).2 hi0
      rw [show fuel + 1 + (l.length - m) = (fuel + (l.length - m)) + 1 by omega]
      refine ⟨fun hn => absurd hi0l (by rw [hn]; simp), fun i hi => ?_⟩
      obtain ⟨h1, o, ho, _⟩ := mem_ready.1 hi
      have hlt := (Array.getElem?_eq_some_iff.1 ho).1
      by_cases him : i < m
      · have hi' := (hready hr i him).1 hi
        have h2 := h.2 i hi'
        unfold wpOp at h2
        unfold wpOpIn
        rw [hget i him, ho] at h2
        rw [ho]
        dsimp only at h2 ⊢
        have hwant : Region.wanted o (yielded l.toArray (mk L a).tmps) = Region.wanted o (yielded (l.take m).toArray a.tmps) := by
          show Region.wanted o (yielded l.toArray a.tmps) = _
          cases hgd : o.guard with
          | none => simp [Region.wanted, hgd]
          | some g =>
            obtain ⟨j, b⟩ := g
            have hj : j < m := by
              unfold guardsB at hG
              simp only [List.all_eq_true] at hG
              have hmem : o ∈ l.take m := by
                have : (l.take m)[i]? = some o := by simpa [List.getElem?_take, him] using ho
                exact List.mem_of_getElem? this
              have := hG o hmem
              rw [hgd] at this
              simpa using this
            simp only [Region.wanted, hgd, yielded, hget j hj]
        rw [hwant]
        have hpo : plainOp o = true := by
          simp only [List.all_eq_true] at hp
          have : (l.take m)[i]? = some o := by simpa [List.getElem?_take, him] using ho
          exact hp o (List.mem_of_getElem? this)
        have key : ∀ a' w', wpAny P .any (l.take m).toArray (Fx (KI r L P l.toArray Q (l.drop m))) fuel (l'.setIfInBounds i true) a' w' → wpAnyIn (Fr r) 9 P .any l.toArray Q (fuel + (l.length - m)) (listed.setIfInBounds i true) (mk L a') w' := fun a' w' hh => ih _ _ a' w' (hr.set_ him) (hd.set_ hi) hh
        split
        · rename_i hw
          rw [if_pos hw] at h2
          rcases h2 with h2 | ⟨_, _, _, h2⟩
          · exact operIn hpo key (wp_fx h2)
          · exact h2.elim
        · rename_i hw
          rw [if_neg hw] at h2
          refine ⟨fun _ _ => trivial, ?_⟩
          rw [mk_put]
          exact key _ _ h2
      · exfalso
        have := tail_listed hd hi (htl i (by omega) hlt) (show i0 < i by omega)
        obtain ⟨h3, _⟩ := mem_ready.1 hi0l
        have hs1 := hr.s1
        rw [getD_tf (by omega), this] at h3
        cases h3
/-- a region that draws its order: the first m in any order, the rest one behind the other -/
theorem XC.draw (m : Nat) {id : Nat} {l : List Oper} (hm : P.follows .mixedOrders = true) (hc : (Region.noSelect (l.take m).toArray && edgesB l.toArray && tlB l.toArray m && tlB (l.take m).toArray m && guardsB l m && (l.take m).all plainOp && decide (m ≤ l.length)) = true)
    (h : XA P ⟨nn, []⟩ w0 (l.take m).toArray (Fx (KI r L P l.toArray Q (l.drop m))) R H m m (Array.replicate m false) e R H) : XK ⟨nn, []⟩ w0 (KC r L P (Code.region id l.toArray true) Q) e R H := fun a w hr st => by
  simp only [Bool.and_eq_true, decide_eq_true_eq] at hc
  obtain ⟨⟨⟨⟨⟨⟨c1, c2⟩, c3⟩, c4⟩, c5⟩, c6⟩, c7⟩ := hc
  have h1 := h ⟨Down.start _ _, c1, c4⟩ a w.drew hr st.drew
  have h2 := any_sound (r := r) (L := L) (Q := Q) c7 c2 c3 c5 c6 m (Array.replicate l.length false) _ a w.drew ⟨fun i hi => by simp [hi, Nat.lt_of_lt_of_le hi c7], fun i hi => by simp [Array.getElem?_replicate]; split <;> rfl, by simp, by simp, by simpa using c7⟩ (Down.start _ _) (wpAny_of_x _ _ _ _ h1)
  unfold KC
  refine wpIn_region_any hm ?_
  rw [show m + (l.length - m) = l.length by omega] at h2
  simpa using h2
end
end Go.Proofs.YtgopaoidgcgalaaGreatDoor
/- plan: what makes iterators; the iterator of steps. -/
namespace Go.Proofs.YtgopaoidgcgalaaGreatDoor
set_option linter.all false
open Go.RowKit
attribute [local irreducible] KC KI KQ
/-- what a value function tells of each of them -/
def ValOk (p : Piece) (vid : FuncId) (vcap : List Value) (ids : List Nat) (val : Nat → Int) : Prop := ∀ i ∈ ids, ∀ w', p.Le (all w') → Calls Tryz.prog vid (Value.int .i64 (i : Int) :: vcap).toArray w' (Rt (.int .u32 (val i)) w')
theorem Piece.Le.trans' {p q r : Piece} (h : p.Le q) (k : q.Le r) : p.Le r := fun b hb => ⟨(k b (h b hb).1).1, (k b (h b hb).1).2.trans (h b hb).2⟩
theorem ValOk.le {p q : Piece} {vid : FuncId} {vcap : List Value} {ids : List Nat} {val : Nat → Int} (h : ValOk p vid vcap ids val) (hl : p.Le q) : ValOk q vid vcap ids val := fun i hi w' hq => h i hi w' (hl.trans' hq)
theorem RP.of_blk {q : Piece} {g o : Nat} {t : TypeId} {cs : List Value} {v : Value} (h : ∃ F, (HP.blk g t cs).sat F q.w ∧ ∀ b, F b → q.Z b) (hv : cs[o]? = some v) : RP q g o v := by
  obtain ⟨F, hs, hz⟩ := h
  refine ⟨hz g hs.1, ?_⟩
  have : Blk q.w g t cs.toArray := hs.2
  rw [this.cell]
  simpa using hv

end Go.Proofs.YtgopaoidgcgalaaGreatDoor
/- plan: the iterator that goes through all rows of steps. -/
namespace Go.Proofs.YtgopaoidgcgalaaGreatDoor
set_option linter.all false
open Go.RowKit
attribute [local irreducible] KC KI KQ
structure Stp where
  pr : Int
  msg : Int
  id : Int
  v : Int
def Stp.cells (s : Stp) : List Value := [.int .i64 s.pr, .int .i64 s.msg, .int .u32 s.id, .int .u32 s.v]
/-- one row of steps: its iterator -/
structure RowI where
  gf : FuncId
  lb : List Value
  sts : List Stp
def RowI.fn (r : RowI) : Value := .func (.func r.gf) #[] r.lb.toArray
end Go.Proofs.YtgopaoidgcgalaaGreatDoor
/- A region that draws its order, in which one alloc may come up at any time: the rest is walked once, whether it has come or not. -/
namespace Go.Proofs.YtgopaoidgcgalaaGreatDoor
set_option linter.all false
open Go.RowKit
section
variable {P : Program} {N : Frm} {w0 w : World} {e : Env} {R R' R0 : List Piece} {H H0 : List HP} {Q : Exit → Act → World → Prop} {ops : Array Oper} {m fuel : Nat} {listed : Array Bool} {K : Act → World → Prop}
variable {d dA : Nat} {t ty : TypeId} {pos : String} {aft : Array Edge} {cs : List Value} {v : Value}
theorem XK.weakR (hR : ∀ p ∈ R', p ∈ R) (h : XK N w0 K e R' H) : XK N w0 K e R H := fun a w hr st => h a w hr (st.weak hR id (fun _ _ _ _ h => h) (fun _ _ h => h))
/-! a bool that was reckoned by parts -/
theorem get_iff {p q : Prop} [Decidable p] [Decidable q] {u : Nat} (h : e.get u = some (.bool (decide p))) (hpq : p ↔ q) : e.get u = some (.bool (decide q)) := by
  rw [h, decide_eq_decide.2 hpq]
theorem get_false {q : Prop} [Decidable q] {u : Nat} (h : e.get u = some (.bool false)) (hq : ¬ q) : e.get u = some (.bool (decide q)) := by rw [h, decide_eq_false hq]
theorem get_true {q : Prop} [Decidable q] {u : Nat} (h : e.get u = some (.bool true)) (hq : q) : e.get u = some (.bool (decide q)) := by rw [h, decide_eq_true hq]
theorem get_bool {q : Prop} [Decidable q] {u : Nat} {b : Bool} (h : e.get u = some (.bool b)) (hb : b = true ↔ q) : e.get u = some (.bool (decide q)) := by
  rw [h]
  congr 2
  by_cases hq : q
  · rw [decide_eq_true hq, hb.2 hq]
  · rw [decide_eq_false hq]
    cases b
    · rfl
    · exact absurd (hb.1 rfl) hq
theorem Rep.sub_cons {e0 : Env} {a : Act} {u : Nat} {x : Value} (h : Rep N e a) (hs : e0.Sub e) (hu : e.get u = some x) : Rep N ((u, x) :: e0) a := h.sub (e' := (u, x) :: e0) ⟨hu, hs⟩
theorem XK.cutB {x y : Code} {Q : Exit → Act → World → Prop} (u : Nat) (p : Prop) [Decidable p] (h : XK N w0 (x.wp P (Exit.then (fun a' w' => Rep N ((u, .bool (decide p)) :: e) a' ∧ St w0 R H w') Q)) e R H)
    (hy : XK N w0 (y.wp P Q) ((u, .bool (decide p)) :: e) R H) : XK N w0 ((Code.seq x y).wp P Q) e R H := fun a w hr st => by
  refine wp_seq (wp_mono (h a w hr st) fun x a' w' hq => ?_)
  cases x with
  | normal => exact hy a' w' hq.1 hq.2
  | _ => exact hq
theorem XK.meetB {e0 : Env} {u : Nat} {p : Prop} [Decidable p] (hs : e0.Sub e) (hu : e.get u = some (.bool (decide p))) : XK N w0 (fun a' w' => Rep N ((u, .bool (decide p)) :: e0) a' ∧ St w0 R H w') e R H := fun _ _ hr st => ⟨hr.sub_cons hs hu, st⟩
/-- the row of the call's own that is not empty has a block -/
theorem XK.ownHead (i : Nat) {el : TypeId} {sz n c : Nat} {A : Option Addr} {xs : List Value} (hi : H[i]? = some (HP.own el sz (.slice A n c) n xs)) (hn : 0 < n) (h : ∀ g, A = some ⟨g, 0, none⟩ → XK N w0 K e R H) : XK N w0 K e R H := fun a w hr st => by
  have ho := st.own hi
  rcases ho.2 with ⟨_, h0⟩ | ⟨g, cap, cur, hv, _⟩
  · omega
  · injection hv with hA
    exact h g hA a w hr st
end
end Go.Proofs.YtgopaoidgcgalaaGreatDoor
/- The reference's order of any graph, as far as it goes, and its Check. -/
namespace Go.Proofs.YtgopaoidgcgalaaGreatDoor
set_option linter.all false
open Go.RowKit
theorem SlS.intR {w : World} {A : Option Addr} {n : Nat} {l : List Int} (h : SlS (all w) 1 A n (intCells l)) (hn : 0 < n) : ∃ b off, A = some ⟨b, off, none⟩ ∧ ∀ (i : Nat) (x : Int), l[i]? = some x → ROc w b (off + i) (.int .i64 x) := by
  obtain ⟨b, off, hA, hb, hc⟩ := h.2 hn
  refine ⟨b, off, hA, fun i x hx => ⟨hb, hc i _ ?_⟩⟩
  simp only [intCells, List.getElem?_map, hx, Option.map_some]
/-- those of M are done -/
def doneM (n : Nat) (M : List Nat) : List Value := (List.range n).map fun v => .bool (M.contains v)
theorem doneM_len (n : Nat) (M : List Nat) : (doneM n M).length = n := by simp [doneM]
theorem doneM_at {n v : Nat} (M : List Nat) (h : v < n) : (doneM n M)[v]? = some (.bool (M.contains v)) := by simp [doneM, h]
theorem doneM_set {n v : Nat} (M : List Nat) (h : v < n) : (doneM n M).set v (.bool true) = doneM n (M ++ [v]) := by
  apply List.ext_getElem?
  intro i
  by_cases hi : i < n
  · rw [doneM_at _ hi]
    by_cases hv : v = i
    · subst hv
      rw [List.getElem?_set_self (by rw [doneM_len]; exact h)]
      simp
    · rw [List.getElem?_set_ne hv, doneM_at _ hi]
      simp [Ne.symm hv]
  · rw [List.getElem?_eq_none (by rw [List.length_set, doneM_len]; omega), List.getElem?_eq_none (by rw [doneM_len]; omega)]
theorem doneM_nil (n : Nat) : List.replicate n (Value.bool false) = doneM n [] := by
  apply List.ext_getElem?
  intro i
  by_cases hi : i < n
  · rw [doneM_at _ hi]; simp [hi]
  · rw [List.getElem?_eq_none (by simp; omega), List.getElem?_eq_none (by rw [doneM_len]; omega)]
theorem nodup_le : ∀ (n : Nat) (M : List Nat), M.Nodup → (∀ x ∈ M, x < n) → M.length ≤ n
  | 0, M, _, h => by
    cases M with
    | nil => exact Nat.le_refl _
    | cons x M => exact absurd (h x (by simp)) (by omega)
  | n + 1, M, hn, h => by
    have h1 := List.length_eq_countP_add_countP (fun x => x == n) (l := M)
    have h2 : List.countP (fun x => x == n) M ≤ 1 := by
      rw [show List.countP (fun x => x == n) M = M.count n from rfl, hn.count]
      split <;> omega
    have h3 := nodup_le n (M.filter fun x => !(x == n)) (List.Pairwise.filter _ hn) (fun x hx => by
      rw [List.mem_filter] at hx
      have h4 := h x hx.1
      have h5 : ¬ x = n := by simpa using hx.2
      omega)
    rw [← List.countP_eq_length_filter] at h3
    have h6 : List.countP (fun a => decide ¬(a == n) = true) M = List.countP (fun x => !(x == n)) M := by
      congr 1; funext x
      by_cases hx : x = n <;> simp [hx]
    omega
/-- what the reference has so far -/
structure Got (g : List (List Int)) (M : List Nat) : Prop where
  nodup : M.Nodup
  lt : ∀ x ∈ M, x < g.length
  go : orderG g (g.length - M.length) M = orderG g g.length []
theorem Got.len {g : List (List Int)} {M : List Nat} (h : Got g M) : M.length ≤ g.length := nodup_le _ _ h.nodup h.lt
theorem Got.start (g : List (List Int)) : Got g [] := ⟨List.nodup_nil, by simp, by simp⟩
theorem okN_has {g : List (List Int)} {M : List Nat} {v : Nat} (h : okN g M v = true) : M.contains v = false := by
  cases hc : M.contains v with
  | false => rfl
  | true => rw [okN_met hc] at h; cases h
theorem Got.next {g : List (List Int)} {M : List Nat} {v : Nat} (h : Got g M) (hv : v < g.length) (hj : ∀ j, j < v → okN g M j = false) (hk : okN g M v = true) : Got g (M ++ [v]) ∧ M.length + 1 ≤ g.length := by
  have hnx := nextG_some hv hj hk
  have hnm : v ∉ M := by have := okN_has hk; simpa using this
  have hnd : (M ++ [v]).Nodup := by
    rw [List.nodup_append]
    exact ⟨h.nodup, by simp, fun a ha b hb => by simp at hb; subst hb; rintro rfl; exact hnm ha⟩
  have hlt : ∀ x ∈ M ++ [v], x < g.length := fun x hx => by
    rcases List.mem_append.1 hx with hx | hx
    · exact h.lt x hx
    · simp at hx; omega
  have hle := nodup_le _ _ hnd hlt
  rw [List.length_append, List.length_singleton] at hle
  refine ⟨⟨hnd, hlt, ?_⟩, hle⟩
  rw [← h.go, List.length_append, List.length_singleton, show g.length - M.length = (g.length - (M.length + 1)) + 1 by omega, orderG_step hnx]
theorem Got.ends {g : List (List Int)} {M : List Nat} (h : Got g M) (hg : InG g) (hn : g.length ≤ 100) (hx : nextG g M = none) : cycE g = if M.length < g.length then 5 else 0 := by
  have hnum : numbersG g = 0 := by
    unfold numbersG
    rw [if_neg (by omega), badG_no (fun k l hk j u hj => hg l (List.mem_of_getElem? hk) u (List.mem_of_getElem? hj))]
    rfl
  have hle := h.len
  unfold cycE orderE
  rw [if_neg (by rw [hnum]; simp), ← h.go]
  by_cases hlt : M.length < g.length
  · rw [if_pos hlt, show g.length - M.length = (g.length - (M.length + 1)) + 1 by omega, orderG_stop hx]
    rfl
  · rw [if_neg hlt, show g.length - M.length = 0 by omega]
    rfl
theorem okN_row {g : List (List Int)} {M : List Nat} {v : Nat} {l : List Int} (h : g[v]? = some l) : okN g M v = (!(M.contains v) && l.all fun u => M.contains u.toNat) := by
  unfold okN
  rw [h]
  rfl
theorem all_next {l : List Int} {i : Nat} {y : Int} {f : Int → Bool} (h : l[i]? = some y) : (l.take (i + 1)).all f = ((l.take i).all f && f y) := by
  rw [List.take_add_one, h]
  simp
def gotV (g : List (List Int)) (v : Value) (w w' : World) : Prop := ∃ A c M, v = .slice A M.length c ∧ SlS (fresh w w') 1 A M.length (intCells (natI M)) ∧ Got g M ∧ nextG g M = none

theorem refOrderG_any (A : Option Addr) (n c : Nat) (g : List (List Int)) (w : World) (hg : GrS (all w) A n g) (hn : n = g.length) (hn2 : n ≤ 100) (hg2 : ∀ l ∈ g, l.length ≤ 1000000) (hin0 : InG g) :
    Calls Tryz.prog 139 #[.slice A n c] w (fun y w' => (∃ v, y = .returned v ∧ gotV g v w w') ∧ Below w.heap.size w w') := by
  refine XK.enter (vs := [.slice A n c]) Tryz.func139 rfl Tryz.ntmps139 (by simp) ?_
  refine XK.seq ?_

  refine XK.region ?_
  refine xk_assign rfl (by decide) ?_
  refine XK.nilN ?_
  refine XK.seq ?_

  refine XK.region ?_
  refine xk_assign rfl (by decide) ?_
  refine XK.nilN ?_
  refine XK.seq ?_

  refine XK.region ?_
  refine xk_move rfl (by decide) ?_
  refine xk_len (el := 40) (by kernel_rfl) rfl (by decide) ?_
  refine XK.nilrow 3 1 ?_
  refine xk_makeT 1 (n := n) (el := 4) (z := .bool false) (by kernel_rfl) (by kernel_rfl) rfl rfl rfl (by omega) (by omega) (by decide) fun g1 => ?_
  rw [doneM_nil]
  refine xk_assign rfl (by decide) ?_
  refine XK.nilN ?_
  refine XK.seq ?_

  refine XK.region ?_
  refine xk_assign rfl (by decide) ?_
  refine XK.nilN ?_
  refine XK.seq ?_
  refine XK.envS [(5, .bool true), (4, .slice (some ⟨g1, 0, none⟩) n n), (3, .slice none 0 0), (0, .slice A n c)] ?_
  refine XK.block ?_
  refine XK.loop (fun m e R H => ∃ (M : List Nat) (mo : Bool) (Ao : Option Addr) (co : Nat), Got g M ∧ (mo = false → nextG g M = none) ∧ m = 2 * (n - M.length) + mo.toNat ∧ e = [(5, .bool mo), (4, .slice (some ⟨g1, 0, none⟩) n n), (3, .slice Ao M.length co), (0, .slice A n c)] ∧ R = [all w] ∧ H = [HP.blk g1 4 (doneM n M), HP.own 3 1 (.slice Ao M.length co) M.length (intCells (natI M))]) (2 * n + 1) ⟨[], true, none, 0, Got.start g, (fun h => by cases h), by simp, rfl, rfl, by simp [intCells, natI]⟩ fun m e R H hI => ?_
  obtain ⟨M, mo, Ao, co, hgot, hmo, rfl, rfl, rfl, rfl⟩ := hI
  refine XK.seq ?_
  refine XK.seq ?_

  refine XK.region ?_
  refine xk_move rfl (by decide) ?_
  refine XK.nilN ?_
  refine XK.cond rfl (fun h => ?_) (fun h => ?_)
  ·
    refine XK.skip ?_
    refine XK.norm ?_
    refine XK.block ?_
    refine XK.seq ?_
    subst h
    have hMl := hgot.len

    refine XK.region ?_
    refine xk_assign rfl (by decide) ?_
    refine XK.nilN ?_
    refine XK.seq ?_

    refine XK.region ?_
    refine xk_assign rfl (by decide) ?_
    refine XK.nilN ?_
    refine XK.envS [(6, .int .i64 0), (5, .bool false), (4, .slice (some ⟨g1, 0, none⟩) n n), (3, .slice Ao M.length co), (0, .slice A n c)] ?_
    refine XK.block ?_
    refine XK.loop (fun m e R H => ∃ (v : Nat) (mi : Bool) (MM : List Nat) (Ao : Option Addr) (co : Nat), v ≤ n ∧ ((mi = false ∧ MM = M ∧ ∀ j, j < v → okN g M j = false) ∨ (mi = true ∧ Got g MM ∧ MM.length = M.length + 1 ∧ MM.length ≤ n)) ∧ m = n - v ∧ e = [(6, .int .i64 v), (5, .bool mi), (4, .slice (some ⟨g1, 0, none⟩) n n), (3, .slice Ao MM.length co), (0, .slice A n c)] ∧ R = [all w] ∧ H = [HP.blk g1 4 (doneM n MM), HP.own 3 1 (.slice Ao MM.length co) MM.length (intCells (natI MM))]) n ⟨0, false, M, Ao, co, by omega, .inl ⟨rfl, rfl, by omega⟩, rfl, rfl, rfl, rfl⟩ fun m e R H hI => ?_
    obtain ⟨v, mi, MM, Ao, co, hv, hst, rfl, rfl, rfl, rfl⟩ := hI
    refine XK.seq ?_
    refine XK.cutB 20 (v < n ∧ mi = false) ?_ ?_
    · skip

      refine XK.region ?_
      refine xk_move rfl (by decide) ?_
      refine xk_move rfl (by decide) ?_
      refine xk_len (el := 40) (by kernel_rfl) rfl (by decide) ?_
      refine xk_lss rfl rfl (by decide) ?_
      refine xk_move rfl (by decide) ?_
      (first | refine xk_split (t := 17) rfl (fun hg => ?_) (fun hg => ?_) | refine xk_splitB (t := 17) rfl (fun hg => ?_) (fun hg => ?_))
      ·
        refine xk_guardT rfl rfl ?_; refine xk_move rfl (by decide) ?_
        refine xk_guardT rfl rfl ?_; (first | refine xk_notD rfl (by decide) ?_ | refine xk_not rfl (by decide) ?_)
        (first | refine xk_pickT rfl rfl (by decide) ?_ | refine xk_pickF rfl rfl (by decide) ?_)
        refine XK.nilN ?_
        exact XK.meetB (by repeat (first | exact trivial | refine ⟨rfl, ?_⟩)) (by first | (refine get_iff rfl ?_; omega) | (refine get_iff rfl ?_; simp_all; done) | (refine get_false rfl ?_; first | omega | (simp_all; done)) | (refine get_true rfl ?_; first | omega | (simp_all; done)) | (refine get_bool rfl ?_; simp_all; done) | (refine get_iff rfl ⟨fun hh => ?_, fun hh => ?_⟩ <;> first | omega | (simp_all; done) | (simp_all; omega)) | (exfalso; omega))
      ·
        refine xk_guardF rfl rfl rfl (by decide) ?_
        refine xk_guardF rfl rfl rfl (by decide) ?_
        (first | refine xk_pickT rfl rfl (by decide) ?_ | refine xk_pickF rfl rfl (by decide) ?_)
        refine XK.nilN ?_
        exact XK.meetB (by repeat (first | exact trivial | refine ⟨rfl, ?_⟩)) (by first | (refine get_iff rfl ?_; omega) | (refine get_iff rfl ?_; simp_all; done) | (refine get_false rfl ?_; first | omega | (simp_all; done)) | (refine get_true rfl ?_; first | omega | (simp_all; done)) | (refine get_bool rfl ?_; simp_all; done) | (refine get_iff rfl ⟨fun hh => ?_, fun hh => ?_⟩ <;> first | omega | (simp_all; done) | (simp_all; omega)) | (exfalso; omega))
    refine XK.if_ rfl (fun hin => ?_) (fun hin => ?_)
    ·
      refine XK.skip ?_
      refine XK.norm ?_
      refine XK.seq ?_
      refine XK.block ?_
      refine XK.seq ?_
      obtain ⟨hvn, hmf⟩ := hin
      obtain ⟨hvj, hjj⟩ : (∀ j, j < v → okN g M j = false) ∧ MM = M := by
        rcases hst with ⟨_, h2, h3⟩ | ⟨h1, _⟩
        · exact ⟨h3, h2⟩
        · rw [hmf] at h1; cases h1
      subst hjj
      subst hmf
      clear hst
      obtain ⟨l, hl⟩ : ∃ l, g[v]? = some l := ⟨g[v]'(by omega), List.getElem?_eq_getElem _⟩
      have hlt := hin0 l (List.mem_of_getElem? hl)
      have hlen := hg2 l (List.mem_of_getElem? hl)
      obtain ⟨bG, oG, Al, kl, rfl, hcG, hsl⟩ := hg.row hl
      have hdv := doneM_at MM hvn

      refine XK.region ?_
      refine xk_move rfl (by decide) ?_
      refine xk_move rfl (by decide) ?_
      refine xk_at v v (el := 4) (sz := 1) (by kernel_rfl) (by kernel_rfl) rfl rfl (by omega) (by omega) (by omega) (by decide) ?_
      refine xk_load (by kernel_rfl) rfl (Rd.blk 0 rfl hdv) (by decide) ?_
      refine xk_not rfl (by decide) ?_
      refine xk_assign rfl (by decide) ?_
      refine XK.nilN ?_
      refine XK.seq ?_
      refine XK.seq ?_

      refine XK.region ?_
      refine xk_assign rfl (by decide) ?_
      refine XK.nilN ?_
      refine XK.envS [(8, .int .i64 0), (7, .bool (!(MM.contains v))), (6, .int .i64 v), (5, .bool false), (4, .slice (some ⟨g1, 0, none⟩) n n), (3, .slice Ao MM.length co), (0, .slice (some ⟨bG, oG, none⟩) n c)] ?_
      refine XK.block ?_
      refine XK.loop (fun m e R H => ∃ (i : Nat) (rb : Bool), i ≤ l.length ∧ rb = (!(MM.contains v) && (l.take i).all fun u => MM.contains u.toNat) ∧ m = l.length - i ∧ e = [(8, .int .i64 i), (7, .bool rb), (6, .int .i64 v), (5, .bool false), (4, .slice (some ⟨g1, 0, none⟩) n n), (3, .slice Ao MM.length co), (0, .slice (some ⟨bG, oG, none⟩) n c)] ∧ R = [all w] ∧ H = [HP.blk g1 4 (doneM n MM), HP.own 3 1 (.slice Ao MM.length co) MM.length (intCells (natI MM))]) l.length ⟨0, _, by omega, by simp, rfl, rfl, rfl, rfl⟩ fun m e R H hI => ?_
      obtain ⟨i, rb, hi, hrb, rfl, rfl, rfl, rfl⟩ := hI
      refine XK.seq ?_
      refine XK.seq ?_

      refine XK.region ?_
      refine xk_move rfl (by decide) ?_
      refine xk_move rfl (by decide) ?_
      refine xk_move rfl (by decide) ?_
      refine xk_at v (oG + v) (el := 40) (sz := 1) (by kernel_rfl) (by kernel_rfl) rfl rfl (by omega) (by omega) (by omega) (by decide) ?_
      refine xk_load (by kernel_rfl) rfl (Rd.roc (by simp) hcG) (by decide) ?_
      refine xk_len (el := 3) (by kernel_rfl) rfl (by decide) ?_
      refine xk_lss rfl rfl (by decide) ?_
      refine XK.nilN ?_
      refine XK.if_ rfl (fun hil => ?_) (fun hil => ?_)
      ·
        refine XK.skip ?_
        refine XK.norm ?_
        refine XK.seq ?_
        refine XK.block ?_
        have hil' : i < l.length := by have h' : (i : Int) < (l.length : Int) := hil; omega
        obtain ⟨y, hy⟩ : ∃ y, l[i]? = some y := ⟨_, List.getElem?_eq_getElem hil'⟩
        have hyb := hlt y (List.mem_of_getElem? hy)
        obtain ⟨bI, oI, hAI, hcI⟩ := hsl.intR (by omega)
        subst hAI
        have hcy := hcI i y hy
        have han := all_next (f := fun u => MM.contains u.toNat) hy

        refine XK.region ?_
        refine xk_move rfl (by decide) ?_
        refine xk_move rfl (by decide) ?_
        refine xk_splitB (t := 38) rfl (fun hg1 => ?_) (fun hg1 => ?_)
        ·
          have hdy := doneM_at MM (show y.toNat < n by omega)
          refine xk_guardT rfl rfl ?_; refine xk_move rfl (by decide) ?_
          refine xk_guardT rfl rfl ?_; refine xk_move rfl (by decide) ?_
          refine xk_guardT rfl rfl ?_; refine xk_move rfl (by decide) ?_
          refine xk_guardT rfl rfl ?_; refine xk_at v (oG + v) (el := 40) (sz := 1) (by kernel_rfl) (by kernel_rfl) rfl rfl (by omega) (by omega) (by omega) (by decide) ?_
          refine xk_guardT rfl rfl ?_; refine xk_load (by kernel_rfl) rfl (Rd.roc (by simp) hcG) (by decide) ?_
          refine xk_guardT rfl rfl ?_; refine xk_move rfl (by decide) ?_
          refine xk_guardT rfl rfl ?_; refine xk_at i (oI + i) (el := 3) (sz := 1) (by kernel_rfl) (by kernel_rfl) rfl rfl (by omega) (by omega) (by omega) (by decide) ?_
          refine xk_guardT rfl rfl ?_; refine xk_load (by kernel_rfl) rfl (Rd.roc (by simp) hcy) (by decide) ?_
          refine xk_guardT rfl rfl ?_; refine xk_at y.toNat y.toNat (el := 4) (sz := 1) (by kernel_rfl) (by kernel_rfl) rfl rfl (by omega) (by omega) (by omega) (by decide) ?_
          refine xk_guardT rfl rfl ?_; refine xk_load (by kernel_rfl) rfl (Rd.blk 0 rfl hdy) (by decide) ?_
          (first | refine xk_pickT rfl rfl (by decide) ?_ | refine xk_pickF rfl rfl (by decide) ?_)
          refine xk_assign rfl (by decide) ?_
          refine XK.nilN ?_

          refine XK.region ?_
          refine xk_move rfl (by decide) ?_
          refine xk_add rfl rfl (wrap_in (by omega)) (by decide) ?_
          refine xk_assign rfl (by decide) ?_
          refine XK.nilN ?_
          exact XK.envS [(8, .int .i64 ((i : Int) + 1)), (7, .bool (MM.contains y.toNat)), (6, .int .i64 v), (5, .bool false), (4, .slice (some ⟨g1, 0, none⟩) n n), (3, .slice Ao MM.length co), (0, .slice (some ⟨bG, oG, none⟩) n c)] (XK.round (l.length - (i + 1)) (by omega) ⟨i + 1, _, by omega, by rw [han, ← Bool.and_assoc, ← hrb, hg1, Bool.true_and], rfl, rfl, rfl, rfl⟩)
        ·
          refine xk_guardF rfl rfl rfl (by decide) ?_
          refine xk_guardF rfl rfl rfl (by decide) ?_
          refine xk_guardF rfl rfl rfl (by decide) ?_
          refine xk_guardF rfl rfl rfl (by decide) ?_
          refine xk_guardF rfl rfl rfl (by decide) ?_
          refine xk_guardF rfl rfl rfl (by decide) ?_
          refine xk_guardF rfl rfl rfl (by decide) ?_
          refine xk_guardF rfl rfl rfl (by decide) ?_
          refine xk_guardF rfl rfl rfl (by decide) ?_
          refine xk_guardF rfl rfl rfl (by decide) ?_
          (first | refine xk_pickT rfl rfl (by decide) ?_ | refine xk_pickF rfl rfl (by decide) ?_)
          refine xk_assign rfl (by decide) ?_
          refine XK.nilN ?_

          refine XK.region ?_
          refine xk_move rfl (by decide) ?_
          refine xk_add rfl rfl (wrap_in (by omega)) (by decide) ?_
          refine xk_assign rfl (by decide) ?_
          refine XK.nilN ?_
          exact XK.envS [(8, .int .i64 ((i : Int) + 1)), (7, .bool false), (6, .int .i64 v), (5, .bool false), (4, .slice (some ⟨g1, 0, none⟩) n n), (3, .slice Ao MM.length co), (0, .slice (some ⟨bG, oG, none⟩) n c)] (XK.round (l.length - (i + 1)) (by omega) ⟨i + 1, false, by omega, by rw [han, ← Bool.and_assoc, ← hrb, hg1, Bool.false_and], rfl, rfl, rfl, rfl⟩)
      ·
        refine XK.exit ?_
        refine XK.norm ?_
        refine XK.seq ?_

        refine XK.region ?_
        refine xk_move rfl (by decide) ?_
        refine XK.nilN ?_
        have hok := okN_row (M := MM) hl
        rw [show l.take i = l from List.take_of_length_le (by have h' : ¬ (i : Int) < (l.length : Int) := hil; omega), ← hok] at hrb
        refine XK.cond rfl (fun hrd => ?_) (fun hrd => ?_)
        ·
          refine XK.seq ?_
          obtain ⟨hgn, hgl⟩ := hgot.next (by omega) hvj (by rw [← hrb, hrd])
          have hnl : (MM ++ [v]).length = MM.length + 1 := by simp

          refine XK.region ?_
          refine xk_move rfl (by decide) ?_
          refine xk_move rfl (by decide) ?_
          refine xk_at v v (el := 4) (sz := 1) (by kernel_rfl) (by kernel_rfl) rfl rfl (by omega) (by omega) (by omega) (by decide) ?_
          refine xk_store 0 rfl (by kernel_rfl) rfl rfl rfl (by rw [doneM_len]; omega) ?_
          dsimp only [List.set]
          rw [doneM_set MM hvn]
          refine XK.nilN ?_
          refine XK.seq ?_

          refine XK.region ?_
          refine xk_move rfl (by decide) ?_
          refine xk_move rfl (by decide) ?_
          refine xk_slice (el := 3) (sz := 1) (zs := [.int .i64 0]) (by kernel_rfl) (zeroB_of (by kernel_rfl)) (by kernel_rfl) rfl (by decide) (by decide) rfl (by simp [fillL, setN, Value.cells, List.range_succ, List.set]; rfl) (by decide) fun g2 => ?_
          refine xk_appendT 2 1 8 1 (n' := MM.length + 1) (el := 3) (by kernel_rfl) (by kernel_rfl) (by decide) rfl rfl rfl (sl_blk 0 rfl rfl) (by simp [Value.oneCell']) rfl (by omega) (by omega) (by decide) fun A9 c9 => ?_
          dsimp only [List.set]
          rw [show intCells (natI MM) ++ [.int .i64 (v : Int)] = intCells (natI (MM ++ [v])) from by rw [natI_snoc]; simp [intCells], ← hnl]
          refine xk_assign rfl (by decide) ?_
          refine XK.nilN ?_

          refine XK.region ?_
          refine xk_assign rfl (by decide) ?_
          refine XK.nilN ?_

          refine XK.region ?_
          refine xk_move rfl (by decide) ?_
          refine xk_add rfl rfl (wrap_in (by omega)) (by decide) ?_
          refine xk_assign rfl (by decide) ?_
          refine XK.nilN ?_
          exact XK.weak [1, 2] rfl (by decide) (fun _ h => h) (XK.envS [(6, .int .i64 ((v : Int) + 1)), (5, .bool true), (4, .slice (some ⟨g1, 0, none⟩) n n), (3, .slice A9 (MM ++ [v]).length c9), (0, .slice (some ⟨bG, oG, none⟩) n c)] (XK.round (n - (v + 1)) (by omega) ⟨v + 1, true, MM ++ [v], A9, c9, by omega, .inr ⟨rfl, hgn, (by first | exact hnl | rfl), by omega⟩, rfl, rfl, rfl, rfl⟩))
        ·
          refine XK.skip ?_
          refine XK.norm ?_

          refine XK.region ?_
          refine xk_move rfl (by decide) ?_
          refine xk_add rfl rfl (wrap_in (by omega)) (by decide) ?_
          refine xk_assign rfl (by decide) ?_
          refine XK.nilN ?_
          have hvj' : ∀ j, j < v + 1 → okN g MM j = false := fun j hj => by
            rcases Nat.lt_or_ge j v with h9 | h9
            · exact hvj j h9
            · rw [show j = v by omega, ← hrb, hrd]
          exact XK.envS [(6, .int .i64 ((v : Int) + 1)), (5, .bool false), (4, .slice (some ⟨g1, 0, none⟩) n n), (3, .slice Ao MM.length co), (0, .slice (some ⟨bG, oG, none⟩) n c)] (XK.round (n - (v + 1)) (by omega) ⟨v + 1, false, MM, Ao, co, by omega, .inl ⟨rfl, rfl, hvj'⟩, rfl, rfl, rfl, rfl⟩)
    ·
      refine XK.exit ?_
      refine XK.norm ?_
      rcases hst with ⟨rfl, rfl, h3⟩ | ⟨rfl, h3, h4, h5⟩
      · have hno : nextG g MM = none := nextG_none fun j hj => h3 j (by
          rcases Nat.lt_or_ge v n with h9 | h9
          · exact absurd ⟨h9, rfl⟩ hin
          · omega)
        exact XK.envS [(5, .bool false), (4, .slice (some ⟨g1, 0, none⟩) n n), (3, .slice Ao MM.length co), (0, .slice A n c)] (XK.round (2 * (n - MM.length) + 0) (by simp) ⟨MM, false, Ao, co, hgot, (fun _ => hno), by simp, rfl, rfl, rfl⟩)
      · exact XK.envS [(5, .bool true), (4, .slice (some ⟨g1, 0, none⟩) n n), (3, .slice Ao MM.length co), (0, .slice A n c)] (XK.round (2 * (n - MM.length) + 1) (by simp; omega) ⟨MM, true, Ao, co, h3, (fun h => by cases h), by simp, rfl, rfl, rfl⟩)
  ·
    refine XK.exit ?_
    refine XK.norm ?_
    refine XK.seq ?_

    refine XK.region ?_
    refine xk_move rfl (by decide) ?_
    refine xk_assign rfl (by decide) ?_
    refine XK.nilN ?_
    refine XK.ret ?_
    refine XK.norm ?_
    have hno := hmo h
    refine XK.still [] [1] [] (by simp) rfl (by decide) (by decide) fun q hq _ hfr => ?_
    obtain ⟨F1, sf1, zf1⟩ := hq 1 _ (by simp) rfl
    obtain ⟨A8, c8, e8, h8⟩ := SlS.of_own (Y := q.Z) sf1 zf1
    injection e8 with f1 f2 f3
    subst f1
    exact XK.ret1 rfl rfl fun w1 st => ⟨⟨_, rfl, Ao, co, M, rfl, SlS.le h8 (st.fresh_le (by simp) (hfr (by simp) (by simp))), hgot, hno⟩, st.below (by simp)⟩

theorem refCheckG_any (A : Option Addr) (n c : Nat) (g : List (List Int)) (w : World) (hg : GrS (all w) A n g) (hn : n = g.length) (hn2 : n ≤ 100) (hg2 : ∀ l ∈ g, l.length ≤ 1000000) (hin0 : InG g) :
    Calls Tryz.prog 122 #[.slice A n c] w (Rt (.int .i64 (cycE g)) w) := by
  refine XK.enter (vs := [.slice A n c]) Tryz.func122 rfl Tryz.ntmps122 (by simp) ?_
  refine XK.seq ?_

  refine XK.region ?_
  refine xk_assign rfl (by decide) ?_
  refine XK.nilN ?_
  refine XK.seq ?_
  refine XK.seq ?_

  refine XK.region ?_
  refine xk_move rfl (by decide) ?_
  refine xk_len (el := 40) (by kernel_rfl) rfl (by decide) ?_
  refine xk_gtr rfl rfl (by decide) ?_
  refine XK.nilN ?_
  refine XK.if_ rfl (fun h => absurd h (by omega)) (fun h => ?_)

  ·
    refine XK.skip ?_
    refine XK.norm ?_
    refine XK.seq ?_
    refine XK.seq ?_

    refine XK.region ?_
    refine xk_assign rfl (by decide) ?_
    refine XK.nilN ?_
    refine XK.envS [(3, .int .i64 0), (0, .slice A n c)] ?_
    refine XK.block ?_
    refine XK.loop (fun m e R H => ∃ (v : Nat), v ≤ n ∧ m = n - v ∧ e = [(3, .int .i64 v), (0, .slice A n c)] ∧ R = [all w] ∧ H = []) n ⟨0, by omega, rfl, rfl, rfl, rfl⟩ fun m e R H hI => ?_
    obtain ⟨v, hv, rfl, rfl, rfl, rfl⟩ := hI
    refine XK.seq ?_
    refine XK.seq ?_

    refine XK.region ?_
    refine xk_move rfl (by decide) ?_
    refine xk_move rfl (by decide) ?_
    refine xk_len (el := 40) (by kernel_rfl) rfl (by decide) ?_
    refine xk_lss rfl rfl (by decide) ?_
    refine XK.nilN ?_
    refine XK.if_ rfl (fun hvl => ?_) (fun hvl => ?_)
    ·
      refine XK.skip ?_
      refine XK.norm ?_
      refine XK.seq ?_
      refine XK.block ?_
      refine XK.seq ?_
      have hvn : v < n := by have h' : (v : Int) < (n : Int) := hvl; omega
      obtain ⟨l, hl⟩ : ∃ l, g[v]? = some l := ⟨g[v]'(by omega), List.getElem?_eq_getElem _⟩
      have hlt := hin0 l (List.mem_of_getElem? hl)
      have hlen := hg2 l (List.mem_of_getElem? hl)
      obtain ⟨bG, oG, Al, kl, rfl, hcG, hsl⟩ := hg.row hl

      refine XK.region ?_
      refine xk_assign rfl (by decide) ?_
      refine XK.nilN ?_
      refine XK.envS [(4, .int .i64 0), (3, .int .i64 v), (0, .slice (some ⟨bG, oG, none⟩) n c)] ?_
      refine XK.block ?_
      refine XK.loop (fun m e R H => ∃ (i : Nat), i ≤ l.length ∧ m = l.length - i ∧ e = [(4, .int .i64 i), (3, .int .i64 v), (0, .slice (some ⟨bG, oG, none⟩) n c)] ∧ R = [all w] ∧ H = []) l.length ⟨0, by omega, rfl, rfl, rfl, rfl⟩ fun m e R H hI => ?_
      obtain ⟨i, hi, rfl, rfl, rfl, rfl⟩ := hI
      refine XK.seq ?_
      refine XK.seq ?_

      refine XK.region ?_
      refine xk_move rfl (by decide) ?_
      refine xk_move rfl (by decide) ?_
      refine xk_move rfl (by decide) ?_
      refine xk_at v (oG + v) (el := 40) (sz := 1) (by kernel_rfl) (by kernel_rfl) rfl rfl (by omega) (by omega) (by omega) (by decide) ?_
      refine xk_load (by kernel_rfl) rfl (Rd.roc (by simp) hcG) (by decide) ?_
      refine xk_len (el := 3) (by kernel_rfl) rfl (by decide) ?_
      refine xk_lss rfl rfl (by decide) ?_
      refine XK.nilN ?_
      refine XK.if_ rfl (fun hil => ?_) (fun hil => ?_)
      ·
        refine XK.skip ?_
        refine XK.norm ?_
        refine XK.seq ?_
        refine XK.block ?_
        have hil' : i < l.length := by have h' : (i : Int) < (l.length : Int) := hil; omega
        obtain ⟨y, hy⟩ : ∃ y, l[i]? = some y := ⟨_, List.getElem?_eq_getElem hil'⟩
        have hyb := hlt y (List.mem_of_getElem? hy)
        obtain ⟨bI, oI, hAI, hcI⟩ := hsl.intR (by omega)
        subst hAI
        have hcy := hcI i y hy
        refine XK.cutB 42 (False) ?_ ?_
        · skip

          refine XK.region ?_
          refine xk_move rfl (by decide) ?_
          refine xk_move rfl (by decide) ?_
          refine xk_at v (oG + v) (el := 40) (sz := 1) (by kernel_rfl) (by kernel_rfl) rfl rfl (by omega) (by omega) (by omega) (by decide) ?_
          refine xk_load (by kernel_rfl) rfl (Rd.roc (by simp) hcG) (by decide) ?_
          refine xk_move rfl (by decide) ?_
          refine xk_at i (oI + i) (el := 3) (sz := 1) (by kernel_rfl) (by kernel_rfl) rfl rfl (by omega) (by omega) (by omega) (by decide) ?_
          refine xk_load (by kernel_rfl) rfl (Rd.roc (by simp) hcy) (by decide) ?_
          refine xk_lss rfl rfl (by decide) ?_
          refine xk_move rfl (by decide) ?_
          (first | refine xk_split (t := 31) rfl (fun hg => ?_) (fun hg => ?_) | refine xk_splitB (t := 31) rfl (fun hg => ?_) (fun hg => ?_))
          ·
            refine xk_guardF rfl rfl rfl (by decide) ?_
            refine xk_guardF rfl rfl rfl (by decide) ?_
            refine xk_guardF rfl rfl rfl (by decide) ?_
            refine xk_guardF rfl rfl rfl (by decide) ?_
            refine xk_guardF rfl rfl rfl (by decide) ?_
            refine xk_guardF rfl rfl rfl (by decide) ?_
            refine xk_guardF rfl rfl rfl (by decide) ?_
            refine xk_guardF rfl rfl rfl (by decide) ?_
            refine xk_guardF rfl rfl rfl (by decide) ?_
            refine xk_guardF rfl rfl rfl (by decide) ?_
            (first | refine xk_pickT rfl rfl (by decide) ?_ | refine xk_pickF rfl rfl (by decide) ?_)
            refine XK.nilN ?_
            exact XK.meetB (by repeat (first | exact trivial | refine ⟨rfl, ?_⟩)) (by first | (exfalso; omega) | (refine get_iff rfl ⟨fun hh => ?_, fun hh => hh.elim⟩; omega) | (refine get_false rfl ?_; exact id))
          ·
            refine xk_guardT rfl rfl ?_; refine xk_move rfl (by decide) ?_
            refine xk_guardT rfl rfl ?_; refine xk_move rfl (by decide) ?_
            refine xk_guardT rfl rfl ?_; refine xk_at v (oG + v) (el := 40) (sz := 1) (by kernel_rfl) (by kernel_rfl) rfl rfl (by omega) (by omega) (by omega) (by decide) ?_
            refine xk_guardT rfl rfl ?_; refine xk_load (by kernel_rfl) rfl (Rd.roc (by simp) hcG) (by decide) ?_
            refine xk_guardT rfl rfl ?_; refine xk_move rfl (by decide) ?_
            refine xk_guardT rfl rfl ?_; refine xk_at i (oI + i) (el := 3) (sz := 1) (by kernel_rfl) (by kernel_rfl) rfl rfl (by omega) (by omega) (by omega) (by decide) ?_
            refine xk_guardT rfl rfl ?_; refine xk_load (by kernel_rfl) rfl (Rd.roc (by simp) hcy) (by decide) ?_
            refine xk_guardT rfl rfl ?_; refine xk_move rfl (by decide) ?_
            refine xk_guardT rfl rfl ?_; refine xk_len (el := 40) (by kernel_rfl) rfl (by decide) ?_
            refine xk_guardT rfl rfl ?_; refine xk_geq rfl rfl (by decide) ?_
            (first | refine xk_pickT rfl rfl (by decide) ?_ | refine xk_pickF rfl rfl (by decide) ?_)
            refine XK.nilN ?_
            exact XK.meetB (by repeat (first | exact trivial | refine ⟨rfl, ?_⟩)) (by first | (exfalso; omega) | (refine get_iff rfl ⟨fun hh => ?_, fun hh => hh.elim⟩; omega) | (refine get_false rfl ?_; exact id))
        refine XK.cond rfl (fun h => by simp at h) (fun _ => ?_)

        ·
          refine XK.skip ?_
          refine XK.norm ?_

          refine XK.region ?_
          refine xk_move rfl (by decide) ?_
          refine xk_add rfl rfl (wrap_in (by omega)) (by decide) ?_
          refine xk_assign rfl (by decide) ?_
          refine XK.nilN ?_
          exact XK.envS [(4, .int .i64 ((i : Int) + 1)), (3, .int .i64 v), (0, .slice (some ⟨bG, oG, none⟩) n c)] (XK.round (l.length - (i + 1)) (by omega) ⟨i + 1, by omega, rfl, rfl, rfl, rfl⟩)
      ·
        refine XK.exit ?_
        refine XK.norm ?_

        refine XK.region ?_
        refine xk_move rfl (by decide) ?_
        refine xk_add rfl rfl (wrap_in (by omega)) (by decide) ?_
        refine xk_assign rfl (by decide) ?_
        refine XK.nilN ?_
        exact XK.envS [(3, .int .i64 ((v : Int) + 1)), (0, .slice (some ⟨bG, oG, none⟩) n c)] (XK.round (n - (v + 1)) (by omega) ⟨v + 1, by omega, rfl, rfl, rfl, rfl⟩)
    ·
      refine XK.exit ?_
      refine XK.norm ?_
      refine XK.seq ?_
      refine XK.seq ?_

      refine XK.region ?_
      refine xk_move rfl (by decide) ?_
      refine xk_call [] (f := 139) (fi := []) (ca := []) (by kernel_rfl) rfl rfl (by decide) (by simp) (gotV g) (fun w1 st => refOrderG_any _ n c g w1 (hg.le (all_le (st.started (by simp)))) hn hn2 hg2 hin0) ?_
      rintro _ w1 q1 ⟨Ao, co, M, rfl, _, hgot, hno⟩ _ _ _
      have hcy := hgot.ends hin0 (by omega) hno
      rw [hcy]
      refine xk_len (el := 3) (by kernel_rfl) rfl (by decide) ?_
      refine xk_move rfl (by decide) ?_
      refine xk_len (el := 40) (by kernel_rfl) rfl (by decide) ?_
      refine xk_lss rfl rfl (by decide) ?_
      refine XK.nilN ?_
      refine XK.if_ rfl (fun hsh => ?_) (fun hsh => ?_)
      ·
        refine XK.seq ?_

        refine XK.region ?_
        refine xk_assign rfl (by decide) ?_
        refine XK.nilN ?_
        refine XK.ret ?_
        refine XK.norm ?_
        rw [if_pos (by omega)]
        exact XK.ret1 rfl rfl fun w1 st => ⟨rfl, st.below (by simp)⟩
      ·
        refine XK.skip ?_
        refine XK.norm ?_
        refine XK.seq ?_

        refine XK.region ?_
        refine xk_assign rfl (by decide) ?_
        refine XK.nilN ?_
        refine XK.ret ?_
        refine XK.norm ?_
        rw [if_neg (by omega)]
        exact XK.ret1 rfl rfl fun w1 st => ⟨rfl, st.below (by simp)⟩

end Go.Proofs.YtgopaoidgcgalaaGreatDoor
/- The small logic: a chunk that is one of many, not told which. -/
namespace Go.Proofs.YtgopaoidgcgalaaGreatDoor
set_option linter.all false
open Go.RowKit
def HP.ex {α : Type} (f : α → HP) : HP := ⟨fun F w => ∃ a, (f a).sat F w, fun F w w' ⟨a, h⟩ hk => ⟨a, (f a).loc F w w' h hk⟩⟩
section
variable {N : Frm} {w0 : World} {e : Env} {R : List Piece} {H : List HP} {K : Act → World → Prop}
theorem XK.openEx (i : Nat) {α : Type} {f : α → HP} (hi : H[i]? = some (HP.ex f)) (h : ∀ a, XK N w0 K e R (H.set i (f a))) : XK N w0 K e R H := fun a w hr st => by
  obtain ⟨Z, F, hz, hrr, hs, hff, hdd⟩ := st.ex
  obtain ⟨x, hx⟩ := hs i _ hi
  have hlt : i < H.length := by
    rcases Nat.lt_or_ge i H.length with h | h
    · exact h
    · rw [List.getElem?_eq_none h] at hi; cases hi
  refine h x a w hr ⟨st.os, st.tape, st.output, st.size, Z, F, hz, hrr, fun j p hj => ?_, hff, hdd⟩
  rw [List.getElem?_set] at hj
  split at hj
  · rename_i e; subst e
    first | (rw [if_pos hlt] at hj; cases hj) | cases hj
    exact hx
  · exact hs j p hj
theorem XK.toEx (i : Nat) {α : Type} {f : α → HP} (x : α) (hi : H[i]? = some (f x)) (h : XK N w0 K e R (H.set i (HP.ex f))) : XK N w0 K e R H := fun a w hr st =>
  h a w hr (st.turn hi (Nat.le_refl _) rfl rfl rfl fun F hF hlt => ⟨F, ⟨x, hF⟩, fun b hb => ⟨.inl hb, hlt b hb⟩, fun _ _ _ => rfl⟩)
/-- two chunks as one -/
theorem XK.pair {p q : HP} (h : XK N w0 K e R (HP.many [p, q] :: H)) : XK N w0 K e R (p :: q :: H) := fun a w hr st => by
  obtain ⟨Z, F, hz, hrr, hs, hff, hdd⟩ := st.ex
  refine h a w hr ⟨st.os, st.tape, st.output, st.size, Z, fun j => match j with | 0 => fun b => F 0 b ∨ F 1 b | j + 1 => F (j + 2), hz, hrr, fun j r hj => ?_, fun j b hb => ?_, fun j k b hjk hj hk => ?_⟩
  · cases j with
    | zero =>
      simp at hj
      subst hj
      refine ⟨fun i b => i < 2 ∧ F i b, fun i r hi => ?_, fun i b hb => ?_, fun i k b hik h1 h2 => hdd i k b hik h1.2 h2.2⟩
      · have key : ∀ k, k < 2 → (fun b => k < 2 ∧ F k b) = F k := fun k hk => by funext b; simp [hk]
        match i, hi with
        | 0, hi => simp at hi; subst hi; show p.sat (fun b => 0 < 2 ∧ F 0 b) w; rw [key 0 (by omega)]; exact hs 0 _ rfl
        | 1, hi => simp at hi; subst hi; show q.sat (fun b => 1 < 2 ∧ F 1 b) w; rw [key 1 (by omega)]; exact hs 1 _ rfl
        | i + 2, hi => simp at hi
      · obtain ⟨hlt, hb⟩ := hb
        match i, hlt, hb with
        | 0, _, hb => exact .inl hb
        | 1, _, hb => exact .inr hb
    | succ j => exact hs (j + 2) r (by simpa using hj)
  · cases j with
    | zero => rcases hb with hb | hb <;> exact hff _ b hb
    | succ j => exact hff _ b hb
  · cases j with
    | zero => cases k with
      | zero => exact hjk rfl
      | succ k => rcases hj with hj | hj
                  · exact hdd 0 (k + 2) b (by omega) hj hk
                  · exact hdd 1 (k + 2) b (by omega) hj hk
    | succ j => cases k with
      | zero => rcases hk with hk | hk
                · exact hdd 0 (j + 2) b (by omega) hk hj
                · exact hdd 1 (j + 2) b (by omega) hk hj
      | succ k => exact hdd (j + 2) (k + 2) b (by omega) hj hk
end
end Go.Proofs.YtgopaoidgcgalaaGreatDoor
/- A call that writes a chunk, and reads the pieces; cuts and draws in rounds; two results in variables. -/
namespace Go.Proofs.YtgopaoidgcgalaaGreatDoor
set_option linter.all false
open Go.RowKit
section
variable {P : Program} {w : World} {t kt et : TypeId} {r : Nat} {l : List (Int × Value)}
variable {P : Program} {N : Frm} {w0 w : World} {e : Env} {R : List Piece} {H : List HP} {Q : Exit → Act → World → Prop} {ops : Array Oper} {rest : List Oper}
variable {d : Nat} {ty : TypeId} {pos : String} {aft : Array Edge}
/-- a call that writes chunk i, and reads the pieces; what it hands back is known by a relation -/
theorem xk_callE (i : Nat) {dst : Option Nat} {e' : Env} {f : FuncId} {x : Operand} {args : List Operand} {fi ca vs : List Value} {tys : Array TypeId} {p : HP} {v : Value} (q : HP) (hf : callB P f = true) (hx : e.ev x = some (.func (.func f) fi.toArray ca.toArray)) (ha : e.evs args = some vs) (hi : H[i]? = some p)
    (hd : match dst with | some d => d < N.n ∧ e' = (d, v) :: e | none => e' = e)
    (hc : ∀ w F, St w0 R H w → p.sat F w → (∀ b, F b → b < w.heap.size) → (∀ q ∈ R, q.Le ⟨w, fun b => b < w.heap.size ∧ ¬ F b⟩) → Calls P f (fi ++ vs ++ ca).toArray w fun y w' => y = .returned v ∧ ∃ F', q.sat F' w' ∧ Turns w w' F F')
    (k : XK N w0 (wpList P ops Q rest) e' R (H.set i q)) : XK N w0 (wpList P ops Q (⟨dst, .call { callee := .value x, args := args.toArray, argTypes := tys }, ty, pos, aft, none⟩ :: rest)) e R H := fun a w hr st => wpList_plain rfl fun K hK => by
  unfold callB at hf
  cases hq : P.funcs[f]? with
  | none => simp [hq] at hf
  | some fn =>
    simp [hq] at hf
    obtain ⟨hf1, hf2⟩ := hf
    have hrun : (execOp a.eval (⟨dst, .call { callee := .value x, args := args.toArray, argTypes := tys }, ty, pos, aft, none⟩ : Oper)).run P w = .ok (.enter f (fi ++ vs ++ ca).toArray) w := by
      cases hb : fn.body with
      | none => simp [hb] at hf2
      | some c => simp [execOp, resolve, hr.ev hx, Deferred.ofValue, invoke, callFunc, hq, hf1, hb, hr.evs ha]
    obtain ⟨Z, F, hz, hrr, hs, hff, hdd⟩ := st.ex
    unfold Oper.wp
    rw [hrun]
    refine (hc w (F i) st (hs i p hi) (fun b hb => (hff i b hb).2) (fun q hqR b hb => ⟨⟨hz b (hrr q hqR b hb).1, fun hfb => (hff i b hfb).1 (hrr q hqR b hb).1⟩, (hrr q hqR b hb).2⟩)).mono fun y w' ⟨hy, F', hq', ht⟩ => ?_
    subst hy
    have st' : St w0 R (H.set i q) w' := by
      have hlt : i < H.length := by
        rcases Nat.lt_or_ge i H.length with h | h
        · exact h
        · rw [List.getElem?_eq_none h] at hi; cases hi
      refine ⟨ht.os.trans st.os, ht.tape.trans st.tape, ht.output.trans st.output, Nat.le_trans st.size ht.size, Z, fun j => if j = i then F' else F j, fun b h => Nat.lt_of_lt_of_le (hz b h) ht.size, fun p hp b h => ?_, fun j r hj => ?_, fun j b h => ?_, fun j k b hjk h => ?_⟩
      · exact ⟨(hrr p hp b h).1, (ht.old b (hz b (hrr p hp b h).1) (fun hfb => (hff i b hfb).1 (hrr p hp b h).1)).trans (hrr p hp b h).2⟩
      · rw [List.getElem?_set] at hj
        split at hj
        · rename_i e; subst e
          first | (rw [if_pos hlt] at hj; cases hj) | cases hj
          simpa using hq'
        · rename_i e
          simp only [if_neg (Ne.symm e)]
          exact r.loc _ _ _ (hs j r hj) (fun b hb => ht.old b (hff j b hb).2 (hdd j i b (Ne.symm e) hb))
      · dsimp only at h
        split at h
        · refine ⟨fun hzb => ?_, (ht.new b h).2⟩
          rcases (ht.new b h).1 with h | h
          · exact (hff i b h).1 hzb
          · have := hz b hzb; omega
        · exact ⟨(hff j b h).1, Nat.lt_of_lt_of_le (hff j b h).2 ht.size⟩
      · dsimp only at h ⊢
        split at h <;> split
        · rename_i h1 h2; omega
        · rename_i e1 e2
          intro hk
          rcases (ht.new b h).1 with h | h
          · exact hdd i k b (by omega) h hk
          · have := (hff k b hk).2; omega
        · rename_i e1 e2
          intro hk
          rcases (ht.new b hk).1 with hk | hk
          · exact hdd j i b (by omega) h hk
          · have := (hff j b h).2; omega
        · exact hdd j k b hjk h
    cases dst with
    | none => dsimp only at hd; subst hd; exact hK _ _ (k _ _ hr st')
    | some d => dsimp only at hd; obtain ⟨hd, rfl⟩ := hd; exact hK _ _ (k _ _ (hr.put hd v) st')
end

section
variable {P : Program} {nn : Nat} {w0 : World} {e e0 : Env} {R R0 : List Piece} {H H0 : List HP} {Q : Exit → Act → World → Prop} {r : Option Nat} {L : List Nat} {K : Act → World → Prop}
theorem XC.cutB {x y : Code} (u : Nat) (p : Prop) [Decidable p] (h : XK ⟨nn, []⟩ w0 (KC r L P x (Exit.then (fun a' w' => ∃ b, a' = mk L b ∧ Rep ⟨nn, []⟩ ((u, .bool (decide p)) :: e) b ∧ St w0 R H w') Q)) e R H)
    (hy : XK ⟨nn, []⟩ w0 (KC r L P y Q) ((u, .bool (decide p)) :: e) R H) : XK ⟨nn, []⟩ w0 (KC r L P (Code.seq x y) Q) e R H := fun a w hr st => by
  refine wpIn_seq (wpIn_mono (h a w hr st) fun x a' w' hq => ?_)
  cases x with
  | normal =>
    obtain ⟨b, rfl, h1, h2⟩ := hq
    exact hy b w' h1 h2
  | _ => exact hq
theorem XC.meetB {u : Nat} {p : Prop} [Decidable p] (hs : e0.Sub e) (hu : e.get u = some (.bool (decide p))) : XK ⟨nn, []⟩ w0 (KQ L (Exit.then (fun a' w' => ∃ b, a' = mk L b ∧ Rep ⟨nn, []⟩ ((u, .bool (decide p)) :: e0) b ∧ St w0 R H w') Q) .normal) e R H := fun a _ hr st => ⟨a, rfl, hr.sub_cons hs hu, st⟩
/-- .. what is known ahead of each of the first m: R0, H0 -/
theorem XK.draw1 {P : Program} {N : Frm} {w0 : World} {e : Env} {R : List Piece} {H : List HP} {Q : Exit → Act → World → Prop} (R0 : List Piece) (H0 : List HP) (m : Nat) {id : Nat} {l : List Oper} (hm : P.follows .mixedOrders = true) (hc : (Region.noSelect l.toArray && tlB l.toArray m) = true) (h : XA P N w0 l.toArray Q R0 H0 m l.length (Array.replicate l.length false) e R H) : XK N w0 ((Code.region id l.toArray true).wp P Q) e R H := fun a w hr st => by
  simp only [Bool.and_eq_true] at hc
  have := h ⟨Down.start _ _, hc.1, hc.2⟩ a w.drew hr st.drew
  refine wp_region_any hm (wpAny_of_x (S := St w0 R0 H0) (m := m) _ _ _ _ ?_)
  simpa using this
theorem XC.draw1 (R0 : List Piece) (H0 : List HP) (m : Nat) {id : Nat} {l : List Oper} (hm : P.follows .mixedOrders = true) (hc : (Region.noSelect (l.take m).toArray && edgesB l.toArray && tlB l.toArray m && tlB (l.take m).toArray m && guardsB l m && (l.take m).all plainOp && decide (m ≤ l.length)) = true)
    (h : XA P ⟨nn, []⟩ w0 (l.take m).toArray (Fx (KI r L P l.toArray Q (l.drop m))) R0 H0 m m (Array.replicate m false) e R H) : XK ⟨nn, []⟩ w0 (KC r L P (Code.region id l.toArray true) Q) e R H := fun a w hr st => by
  simp only [Bool.and_eq_true, decide_eq_true_eq] at hc
  obtain ⟨⟨⟨⟨⟨⟨c1, c2⟩, c3⟩, c4⟩, c5⟩, c6⟩, c7⟩ := hc
  have h1 := h ⟨Down.start _ _, c1, c4⟩ a w.drew hr st.drew
  have h2 := any_sound (r := r) (L := L) (Q := Q) c7 c2 c3 c5 c6 m (Array.replicate l.length false) _ a w.drew ⟨fun i hi => by simp [hi, Nat.lt_of_lt_of_le hi c7], fun i hi => by simp [Array.getElem?_replicate]; split <;> rfl, by simp, by simp, by simpa using c7⟩ (Down.start _ _) (wpAny_of_x _ _ _ _ h1)
  unfold KC
  refine wpIn_region_any hm ?_
  rw [show m + (l.length - m) = l.length by omega] at h2
  simpa using h2
end
end Go.Proofs.YtgopaoidgcgalaaGreatDoor
/- Panics, and calls that panic. -/
namespace Go.Proofs.YtgopaoidgcgalaaGreatDoor
set_option linter.all false
open Go.RowKit
section
variable {P : Program} {N : Frm} {w0 : World} {K : Act → World → Prop} {e : Env} {R : List Piece} {H : List HP} {Q : Exit → Act → World → Prop} {ops : Array Oper} {rest : List Oper}
variable {d : Nat} {ty : TypeId} {pos : String} {aft : Array Edge}
/-- one panic -/
def pan (v : Value) : List PanicEntry := [{ v := v, recovered := false }]
theorem XK.thenP {c : List PanicEntry} (h : XK N w0 (Q (.panic c)) e R H) : XK N w0 (Exit.then K Q (.panic c)) e R H := h
theorem XK.inP {c : List PanicEntry} {id : Nat} (h : XK N w0 (Q (.panic c)) e R H) : XK N w0 (Exit.inBlock id Q (.panic c)) e R H := h
/-- panic(x) -/
theorem xk_panic {x : Operand} {T : TypeId} {u : Value} (hx : e.ev x = some (.iface T u)) (h : XK N w0 (Q (.panic (pan (.iface T u)))) e R H) :
    XK N w0 (wpList P ops Q (⟨none, .panic x, ty, pos, aft, none⟩ :: rest)) e R H := fun a w hr st => wpList_plain rfl fun K hK => by
  have hrun : (execOp a.eval (⟨none, .panic x, ty, pos, aft, none⟩ : Oper)).run P w = .halt (.panic (.iface T u)) w := by
    simp [execOp, hr.ev hx, run_panic_iface]
  unfold Oper.wp
  rw [hrun]
  exact h a w hr st
/-- the call returns what R says, or panics, if P -/
def OutX (Rv : Value → World → World → Prop) (Pp : Prop) (w : World) : Ending → World → Prop := fun y w' => ((∃ v, y = .returned v ∧ Rv v w w') ∨ (Pp ∧ ∃ T u, y = .panicked (pan (.iface T u)))) ∧ Below w.heap.size w w'
/-- a call that may panic -/
theorem xk_callX (ps : List Piece) {f : FuncId} {x : Operand} {args : List Operand} {fi ca vs : List Value} {tys : Array TypeId} (hf : callB P f = true) (hx : e.ev x = some (.func (.func f) fi.toArray ca.toArray)) (ha : e.evs args = some vs) (hd : d < N.n) (hps : ∀ p ∈ ps, p ∈ R)
    (R' : Value → World → World → Prop) (Pp : Prop) (hc : ∀ w, St w0 R H w → Calls P f (fi ++ vs ++ ca).toArray w (OutX R' Pp w))
    (kp : Pp → ∀ T u, XK N w0 (Q (.panic (pan (.iface T u)))) e R H)
    (k : ∀ v w q, R' v w q.w → (fresh w q.w).Le q → (∀ p ∈ ps, p.Le q) → ((∀ p ∈ ps, Fresh w0 p) → Fresh w0 q) → XK N w0 (wpList P ops Q rest) ((d, v) :: e) (q :: R) H) :
    XK N w0 (wpList P ops Q (⟨some d, .call { callee := .value x, args := args.toArray, argTypes := tys }, ty, pos, aft, none⟩ :: rest)) e R H := fun a w hr st => wpList_plain rfl fun K hK => by
  unfold callB at hf
  cases hq : P.funcs[f]? with
  | none => simp [hq] at hf
  | some fn =>
    simp [hq] at hf
    obtain ⟨hf1, hf2⟩ := hf
    have hrun : (execOp a.eval (⟨some d, .call { callee := .value x, args := args.toArray, argTypes := tys }, ty, pos, aft, none⟩ : Oper)).run P w = .ok (.enter f (fi ++ vs ++ ca).toArray) w := by
      cases hb : fn.body with
      | none => simp [hb] at hf2
      | some c =>
        simp [execOp, resolve, hr.ev hx, Deferred.ofValue, invoke, callFunc, hq, hf1, hb, hr.evs ha]
    unfold Oper.wp
    rw [hrun]
    refine (hc w st).mono fun y w' ⟨h, hb⟩ => ?_
    rcases h with ⟨v, hy, hR⟩ | ⟨hp, T, u, hy⟩
    · subst hy
      refine hK _ _ (k v w ⟨w', fun b => (fresh w w').Z b ∨ ∃ p ∈ ps, p.Z b⟩ hR (fun b h => ⟨.inl h, rfl⟩) (fun p hp b h => ⟨.inr ⟨p, hp, h⟩, ?_⟩) (fun hfr b hb => ?_) _ _ (hr.put hd v) (st.seen hb (fun b h => h.imp id fun ⟨p, hp, hz⟩ => ⟨p, hps p hp, hz⟩)))
      · exact (hb.block b (st.ro_lt (hps p hp) h)).trans (st.ro (hps p hp) h)
      · rcases hb with hb | ⟨p, hp, hb⟩
        · exact Nat.le_trans st.size hb.1
        · exact hfr p hp b hb
    · subst hy
      exact kp hp T u a w' hr (st.call hb)
/-- .. and returns a value -/
theorem xk_callXV {f : FuncId} {x : Operand} {args : List Operand} {fi ca vs : List Value} {tys : Array TypeId} (hf : callB P f = true) (hx : e.ev x = some (.func (.func f) fi.toArray ca.toArray)) (ha : e.evs args = some vs) (hd : d < N.n)
    (R' : Value → Prop) (Pp : Prop) (hc : ∀ w, St w0 R H w → Calls P f (fi ++ vs ++ ca).toArray w (OutX (fun v _ _ => R' v) Pp w))
    (kp : Pp → ∀ T u, XK N w0 (Q (.panic (pan (.iface T u)))) e R H)
    (k : ∀ v, R' v → XK N w0 (wpList P ops Q rest) ((d, v) :: e) R H) :
    XK N w0 (wpList P ops Q (⟨some d, .call { callee := .value x, args := args.toArray, argTypes := tys }, ty, pos, aft, none⟩ :: rest)) e R H :=
  xk_callX [] hf hx ha hd (by simp) _ Pp hc kp fun v w q hv _ _ _ => fun a w hr st => k v hv a w hr (st.weak (fun p hp => List.mem_cons_of_mem _ hp) id (fun _ _ _ _ h => h) (fun _ _ h => h))
theorem XK.retP {nn : Nat} {fn : Func} {Post : Ending → World → Prop} {c : List PanicEntry} (h : ∀ w, St w0 R H w → Post (.panicked c) w) : XK ⟨nn, []⟩ w0 (bodyPost P fn Post (.panic c)) e R H := fun a w hrp st => ⟨hrp.defers, h w st⟩
end
end Go.Proofs.YtgopaoidgcgalaaGreatDoor
/- Operations on strings; boxing into an interface. -/
namespace Go.Proofs.YtgopaoidgcgalaaGreatDoor
set_option linter.all false
open Go.RowKit
section
variable {P : Program} {N : Frm} {w0 : World} {e : Env} {R : List Piece} {H : List HP} {Q : Exit → Act → World → Prop} {ops : Array Oper} {rest : List Oper}
variable {d : Nat} {ty : TypeId} {pos : String} {aft : Array Edge}
theorem xk_eqlStr {x y : Operand} {t u : TypeId} {a b : ByteArray} (ht : P.underlying t = some .string) (hx : e.ev x = some (.string a)) (hy : e.ev y = some (.string b)) (hd : d < N.n) (k : XK N w0 (wpList P ops Q rest) ((d, .bool (decide (a = b))) :: e) R H) :
    XK N w0 (wpList P ops Q (⟨some d, .binOp .eql t x y u, ty, pos, aft, none⟩ :: rest)) e R H := xk_pure hd (fun a' w hr => by
  have hb : (a.toList == b.toList) = decide (a = b) := by
    by_cases h : a = b
    · subst h; simp
    · have h2 : ¬ a.toList = b.toList := fun he => h (by
        rw [ByteArray.toList_eq, ByteArray.toList_eq] at he
        cases a; cases b
        congr 1
        simpa using he)
      simp [h, h2]
  simp [execOp, hr.ev hx, hr.ev hy, eqGuard, binOp_string_eql, binOp_string_neq, hb]) k
theorem xk_neqStr {x y : Operand} {t u : TypeId} {a b : ByteArray} (ht : P.underlying t = some .string) (hx : e.ev x = some (.string a)) (hy : e.ev y = some (.string b)) (hd : d < N.n) (k : XK N w0 (wpList P ops Q rest) ((d, .bool (decide (¬ a = b))) :: e) R H) :
    XK N w0 (wpList P ops Q (⟨some d, .binOp .neq t x y u, ty, pos, aft, none⟩ :: rest)) e R H := xk_pure hd (fun a' w hr => by
  have hb : (!(a.toList == b.toList)) = decide (¬ a = b) := by
    by_cases h : a = b
    · subst h; simp
    · have h2 : ¬ a.toList = b.toList := fun he => h (by
        rw [ByteArray.toList_eq, ByteArray.toList_eq] at he
        cases a; cases b
        congr 1
        simpa using he)
      simp [h, h2]
  simp [execOp, hr.ev hx, hr.ev hy, eqGuard, binOp_string_eql, binOp_string_neq, hb]) k
theorem xk_iface {x : Operand} {T : TypeId} {v : Value} (hc : P.concrete T = true) (hx : e.ev x = some v) (hd : d < N.n) (k : XK N w0 (wpList P ops Q rest) ((d, .iface T v) :: e) R H) :
    XK N w0 (wpList P ops Q (⟨some d, .makeInterface T x, ty, pos, aft, none⟩ :: rest)) e R H := xk_pure hd (fun a w hr => by
  simp [execOp, hr.ev hx, run_makeInterface (t := T) (x := v) (h := hc)]) k
theorem xk_addStr {x y : Operand} {t u : TypeId} {a b : ByteArray} (hx : e.ev x = some (.string a)) (hy : e.ev y = some (.string b)) (hl : a.size + b.size ≤ 9223372036854775807) (hd : d < N.n) (k : XK N w0 (wpList P ops Q rest) ((d, .string (a ++ b)) :: e) R H) :
    XK N w0 (wpList P ops Q (⟨some d, .binOp .add t x y u, ty, pos, aft, none⟩ :: rest)) e R H := xk_pure hd (fun a' w hr => by
  simp [execOp, hr.ev hx, hr.ev hy, eqGuard, binOp_string_add, run_string_add_sum (a := a) (b := b) (h := hl)]) k
theorem xk_sliceStr (i j : Nat) {x lo hi : Operand} {t : TypeId} {s : ByteArray} {k1 k2 : IntKind} {a b : Int} (ht : P.underlying t = some .string) (hx : e.ev x = some (.string s)) (hlo : e.ev lo = some (.int k1 a)) (hhi : e.ev hi = some (.int k2 b)) (ha : a = (i : Int)) (hb : b = (j : Int)) (hij : i ≤ j) (hj : j ≤ s.size) (hd : d < N.n)
    (k : XK N w0 (wpList P ops Q rest) ((d, .string (s.extract i j)) :: e) R H) :
    XK N w0 (wpList P ops Q (⟨some d, .slice t x (some lo) (some hi) none, ty, pos, aft, none⟩ :: rest)) e R H := xk_pure hd (fun a' w hr => by
  subst ha hb
  have h := run_slice_string (P := P) w t s k1 k2 i j ht (by omega) (by omega) (by omega)
  simp only [Int.toNat_natCast] at h
  simp [execOp, hr.ev hx, hr.ev hlo, hr.ev hhi, run_sliceAt_string (h := ht), h]) k
/-- what a slot is known to be -/
theorem xk_isV {K : Act → World → Prop} {t : Nat} {b : Bool} (c : Bool) (ht : e.get t = some (.bool b)) (hb : b = c) (k : XK N w0 K ((t, .bool c) :: e) R H) : XK N w0 K e R H := fun a w hr st => k a w ⟨hr.size, hr.defers, fun u v hu => by
  unfold Env.get at hu
  split at hu
  · rename_i he
    have := Nat.eq_of_beq_eq_true he
    subst this
    cases hu
    rw [← hb]; exact hr.get t _ ht
  · exact hr.get u v hu⟩ st
end
end Go.Proofs.YtgopaoidgcgalaaGreatDoor
/- A function that defers a closure: its beginning, the deferral, its ends. -/
namespace Go.Proofs.YtgopaoidgcgalaaGreatDoor
set_option linter.all false
open Go.RowKit
section
variable {P : Program} {N : Frm} {w0 : World} {K : Act → World → Prop} {e : Env} {R : List Piece} {H H' : List HP} {Q : Exit → Act → World → Prop} {ops : Array Oper} {rest : List Oper}
variable {d : Nat} {ty : TypeId} {pos : String} {aft : Array Edge}
/-- a closure that is deferred -/
def dfd (f : FuncId) (fi ca : List Value) : Deferred := { target := .fn (.func f) ca.toArray, args := fi.toArray }
theorem XK.enterD {nn : Nat} {f : FuncId} {fn : Func} {c : Code} {vs : List Value} {w : World} {Post : Ending → World → Prop} (hf : P.funcs[f]? = some fn) (hb : fn.body = some c) (hN : fn.ntmps = nn) (hl : vs.length ≤ nn)
    (h : XK ⟨nn, []⟩ w (c.wp P (bodyPostD P fn Post)) (argEnv 0 vs) [all w] []) : Calls P f vs.toArray w Post := by
  refine calls_of_wp_defers hf hb (h _ _ ⟨?_, rfl, fun t v hv => ?_⟩ (St.start w))
  · simp; omega
  · obtain ⟨_, h2⟩ := argEnv_get vs 0 t v hv
    rw [Nat.sub_zero] at h2
    have hlt : t < vs.length := by
      rcases Nat.lt_or_ge t vs.length with h | h
      · exact h
      · rw [List.getElem?_eq_none h] at h2; cases h2
    rw [Array.getElem?_append_left (by simpa using hlt)]
    simpa using h2
theorem xk_defer {x : Operand} {tys : Array TypeId} {f : FuncId} {fi ca : List Value} (hx : e.ev x = some (.func (.func f) fi.toArray ca.toArray)) (k : XK ⟨N.n, dfd f fi ca :: N.D⟩ w0 (wpList P ops Q rest) e R H) :
    XK N w0 (wpList P ops Q (⟨none, .defer { callee := .value x, args := #[], argTypes := tys }, ty, pos, aft, none⟩ :: rest)) e R H := fun a w hr st => wpList_plain rfl fun K hK => by
  have hrun : (execOp a.eval (⟨none, .defer { callee := .value x, args := #[], argTypes := tys }, ty, pos, aft, none⟩ : Oper)).run P w = .ok (.defer (dfd f fi ca)) w := by
    simp [execOp, resolve, hr.ev hx, Deferred.ofValue, dfd]
  unfold Oper.wp
  rw [hrun]
  exact hK _ _ (k { a with defers := dfd f fi ca :: a.defers } w ⟨hr.size, by show _ :: _ = _ :: _; rw [hr.defers], hr.get⟩ st)
theorem invoke_dfd {f : FuncId} {fi ca : List Value} (hf : callB P f = true) (w : World) : (invoke (.fn (.func f) ca.toArray) fi.toArray).run P w = .ok (.enter f (fi ++ ca).toArray) w := by
  unfold callB at hf
  cases hq : P.funcs[f]? with
  | none => simp [hq] at hf
  | some fn =>
    simp [hq] at hf
    obtain ⟨hf1, hf2⟩ := hf
    cases hb : fn.body with
    | none => simp [hb] at hf2
    | some c => simp [invoke, callFunc, hq, hf1, hb]
theorem XK.leaveR {nn : Nat} {f : FuncId} {fi ca : List Value} {fn : Func} {Post : Ending → World → Prop} (hf : callB P f = true)
    (hcl : ∀ w, St w0 R H w → CallsD P f (fi ++ ca).toArray .returning w fun y u' w' => (∃ v, y = .returned v) ∧ u' = .returning ∧ St w0 R H' w')
    (hres : ∀ a w, Rep ⟨nn, [dfd f fi ca]⟩ e a → St w0 R H' w → ∃ v, (results fn a.tmps).run P w = .ok v w ∧ Post (.returned v) w) :
    XK ⟨nn, [dfd f fi ca]⟩ w0 (bodyPostD P fn Post .ret) e R H := fun a w hr st => by
  show Leaves P fn a.tmps Post a.defers .returning w
  rw [hr.defers]
  refine leaves_cons (by simp) (invoke_dfd hf w) ((hcl w st).mono ?_)
  rintro y u' w' ⟨⟨v, rfl⟩, rfl, st'⟩
  obtain ⟨v', h1, h2⟩ := hres a w' hr st'
  exact ⟨v', h1, h2⟩
theorem XK.leaveP {nn : Nat} {f : FuncId} {fi ca : List Value} {fn : Func} {Post : Ending → World → Prop} {c : List PanicEntry} (hf : callB P f = true)
    (hcl : ∀ w, St w0 R H w → CallsD P f (fi ++ ca).toArray (.panicking c) w fun y u' w' => (∃ v, y = .returned v) ∧ settle u' = .returning ∧ St w0 R H' w')
    (hres : ∀ a w, Rep ⟨nn, [dfd f fi ca]⟩ e a → St w0 R H' w → ∃ v, (results fn a.tmps).run P w = .ok v w ∧ Post (.returned v) w) :
    XK ⟨nn, [dfd f fi ca]⟩ w0 (bodyPostD P fn Post (.panic c)) e R H := fun a w hr st => by
  show Leaves P fn a.tmps Post a.defers (.panicking c) w
  rw [hr.defers]
  refine leaves_cons (by simp) (invoke_dfd hf w) ((hcl w st).mono ?_)
  rintro y u' w' ⟨⟨v, rfl⟩, hu, st'⟩
  obtain ⟨v', h1, h2⟩ := hres a w' hr st'
  show Leaves P fn a.tmps Post [] (settle u') w'
  rw [hu]
  exact ⟨v', h1, h2⟩
end
end Go.Proofs.YtgopaoidgcgalaaGreatDoor
/- A chunk of which just a picture is known; pieces that turn to chunks; calls that write a chunk, or panic. -/
namespace Go.Proofs.YtgopaoidgcgalaaGreatDoor
set_option linter.all false
open Go.RowKit
/-- what a picture of the call's own blocks shows -/
def HP.pic (Φ : Piece → Prop) (hm : ∀ p q : Piece, p.Le q → Φ p → Φ q) : HP := ⟨fun F w => Φ ⟨w, F⟩, fun F w w' h hk => hm ⟨w, F⟩ ⟨w', F⟩ (fun b hb => ⟨hb, hk b hb⟩) h⟩
section
variable {P : Program} {N : Frm} {w0 w : World} {K : Act → World → Prop} {e : Env} {R : List Piece} {H H' : List HP} {Q : Exit → Act → World → Prop} {ops : Array Oper} {rest : List Oper}
variable {d : Nat} {ty : TypeId} {pos : String} {aft : Array Edge}
theorem hlt_of {α : Type} {H : List α} {i : Nat} {p : α} (hi : H[i]? = some p) : i < H.length := (List.getElem?_eq_some_iff.1 hi).1
/-- chunk i, and what may come of it -/
theorem St.chunk (st : St w0 R H w) {i : Nat} {p : HP} (hi : H[i]? = some p) : ∃ F, p.sat F w ∧ (∀ b, F b → b < w.heap.size) ∧ (∀ q ∈ R, q.Le ⟨w, fun b => b < w.heap.size ∧ ¬ F b⟩) ∧ ∀ w' F' q, q.sat F' w' → Turns w w' F F' → St w0 R (H.set i q) w' := by
  obtain ⟨Z, F, hz, hrr, hs, hff, hdd⟩ := st.ex
  refine ⟨F i, hs i p hi, (fun b hb => (hff i b hb).2), (fun q hqR b hb => ⟨⟨hz b (hrr q hqR b hb).1, fun hfb => (hff i b hfb).1 (hrr q hqR b hb).1⟩, (hrr q hqR b hb).2⟩), fun w' F' q hq' ht => ?_⟩
  have hlt := hlt_of hi
  refine ⟨ht.os.trans st.os, ht.tape.trans st.tape, ht.output.trans st.output, Nat.le_trans st.size ht.size, Z, fun j => if j = i then F' else F j, fun b h => Nat.lt_of_lt_of_le (hz b h) ht.size, fun p hp b h => ?_, fun j r hj => ?_, fun j b h => ?_, fun j k b hjk h => ?_⟩
  · exact ⟨(hrr p hp b h).1, (ht.old b (hz b (hrr p hp b h).1) (fun hfb => (hff i b hfb).1 (hrr p hp b h).1)).trans (hrr p hp b h).2⟩
  · rw [List.getElem?_set] at hj
    split at hj
    · rename_i e; subst e
      first | (rw [if_pos hlt] at hj; cases hj) | cases hj
      simpa using hq'
    · rename_i e
      simp only [if_neg (Ne.symm e)]
      exact r.loc _ _ _ (hs j r hj) (fun b hb => ht.old b (hff j b hb).2 (hdd j i b (Ne.symm e) hb))
  · dsimp only at h
    split at h
    · refine ⟨fun hzb => ?_, (ht.new b h).2⟩
      rcases (ht.new b h).1 with h | h
      · exact (hff i b h).1 hzb
      · have := hz b hzb; omega
    · exact ⟨(hff j b h).1, Nat.lt_of_lt_of_le (hff j b h).2 ht.size⟩
  · dsimp only at h ⊢
    split at h <;> split
    · rename_i h1 h2; omega
    · rename_i e1 e2
      intro hk
      rcases (ht.new b h).1 with h | h
      · exact hdd i k b (by omega) h hk
      · have := (hff k b hk).2; omega
    · rename_i e1 e2
      intro hk
      rcases (ht.new b hk).1 with hk | hk
      · exact hdd j i b (by omega) h hk
      · have := (hff j b h).2; omega
    · exact hdd j k b hjk h
/-- chunk i is known otherwise -/
theorem XK.reuse (i : Nat) {p q : HP} (hi : H[i]? = some p) (hq : ∀ F w, p.sat F w → q.sat F w) (h : XK N w0 K e R (H.set i q)) : XK N w0 K e R H := fun a w hr st => by
  obtain ⟨F, hp, hlt, _, hk⟩ := st.chunk hi
  exact h a w hr (hk w F q (hq F w hp) ⟨rfl, rfl, rfl, Nat.le_refl _, fun b hb => ⟨.inl hb, hlt b hb⟩, fun _ _ _ => rfl⟩)
/-- .. not at all -/
theorem XK.drop (i : Nat) {p : HP} (hi : H[i]? = some p) (h : XK N w0 K e R (H.set i HP.emp)) : XK N w0 K e R H := XK.reuse i hi (fun _ _ _ => trivial) h
/-- two pictures are one -/
theorem XK.joinPic {Φ Ψ X : Piece → Prop} {h1 : ∀ p q : Piece, p.Le q → Φ p → Φ q} {h2 : ∀ p q : Piece, p.Le q → Ψ p → Ψ q} {h3 : ∀ p q : Piece, p.Le q → X p → X q} (hX : ∀ p, Φ p → Ψ p → X p) (h : XK N w0 K e R (HP.pic X h3 :: H)) : XK N w0 K e R (HP.pic Φ h1 :: HP.pic Ψ h2 :: H) := fun a w hr st => by
  obtain ⟨Z, F, hz, hrr, hs, hff, hdd⟩ := st.ex
  refine h a w hr ⟨st.os, st.tape, st.output, st.size, Z, fun j => match j with | 0 => fun b => F 0 b ∨ F 1 b | j + 1 => F (j + 2), hz, hrr, fun j r hj => ?_, fun j b hb => ?_, fun j k b hjk hj hk => ?_⟩
  · cases j with
    | zero =>
      simp at hj
      subst hj
      exact hX _ (h1 ⟨w, F 0⟩ _ (fun b hb => ⟨.inl hb, rfl⟩) (hs 0 _ rfl)) (h2 ⟨w, F 1⟩ _ (fun b hb => ⟨.inr hb, rfl⟩) (hs 1 _ rfl))
    | succ j => exact hs (j + 2) r (by simpa using hj)
  · cases j with
    | zero => rcases hb with hb | hb <;> exact hff _ b hb
    | succ j => exact hff _ b hb
  · cases j with
    | zero => cases k with
      | zero => exact hjk rfl
      | succ k => rcases hj with hj | hj
                  · exact hdd 0 (k + 2) b (by omega) hj hk
                  · exact hdd 1 (k + 2) b (by omega) hj hk
    | succ j => cases k with
      | zero => rcases hk with hk | hk
                · exact hdd 0 (j + 2) b (by omega) hk hj
                · exact hdd 1 (j + 2) b (by omega) hk hj
      | succ k => exact hdd (j + 2) (k + 2) b (by omega) hj hk
/-- a piece that is new is the call's own, as a picture -/
theorem XK.ownP {q : Piece} {Φ : Piece → Prop} {hm : ∀ p q : Piece, p.Le q → Φ p → Φ q} (hf : Fresh w0 q) (hR : ∀ p ∈ R, ∀ b, p.Z b → b < w0.heap.size) (hΦ : Φ q) (h : XK N w0 K e R (HP.pic Φ hm :: H)) : XK N w0 K e (q :: R) H := fun a w hr st => by
  obtain ⟨Z, F, hz, hrr, hs, hff, hdd⟩ := st.ex
  have hq := hrr q (by simp)
  refine h a w hr ⟨st.os, st.tape, st.output, st.size, fun b => Z b ∧ ¬ q.Z b, fun j => match j with | 0 => q.Z | j + 1 => F j, fun b hb => hz b hb.1, fun p hp b hb => ?_, fun j r hj => ?_, fun j b hb => ?_, fun j k b hjk hj hk => ?_⟩
  · refine ⟨⟨(hrr p (by simp [hp]) b hb).1, fun hqb => ?_⟩, (hrr p (by simp [hp]) b hb).2⟩
    have h1 := hR p hp b hb
    have h2 := hf b hqb
    omega
  · cases j with
    | zero =>
      simp at hj
      subst hj
      exact hm q _ (fun b hb => ⟨hb, (hq b hb).2⟩) hΦ
    | succ j => exact hs j r (by simpa using hj)
  · cases j with
    | zero => exact ⟨fun hh => hh.2 hb, hz b (hq b hb).1⟩
    | succ j => exact ⟨fun hh => (hff j b hb).1 hh.1, (hff j b hb).2⟩
  · cases j with
    | zero => cases k with
      | zero => exact hjk rfl
      | succ k => exact (hff k b hk).1 (hq b hj).1
    | succ j => cases k with
      | zero => exact (hff j b hj).1 (hq b hk).1
      | succ k => exact hdd j k b (by omega) hj hk
/-- the call returns, with chunk i turned; or panics -/
def OutT (v : Value) (G : Prop) (q : HP) (Pp : Prop) (w : World) (F : Nat → Prop) : Ending → World → Prop := fun y w' => (y = .returned v ∧ G ∧ ∃ F', q.sat F' w' ∧ Turns w w' F F') ∨ (Pp ∧ (∃ T u, y = .panicked (pan (.iface T u))) ∧ ∃ F', Turns w w' F F')
theorem xk_callT (i : Nat) {f : FuncId} {x : Operand} {args : List Operand} {fi ca vs : List Value} {tys : Array TypeId} {p : HP} {v : Value} (q : HP) (G Pp : Prop) (hf : callB P f = true) (hx : e.ev x = some (.func (.func f) fi.toArray ca.toArray)) (ha : e.evs args = some vs) (hi : H[i]? = some p) (hd : d < N.n)
    (hc : ∀ w F, St w0 R H w → p.sat F w → (∀ b, F b → b < w.heap.size) → (∀ q ∈ R, q.Le ⟨w, fun b => b < w.heap.size ∧ ¬ F b⟩) → Calls P f (fi ++ vs ++ ca).toArray w (OutT v G q Pp w F))
    (kp : Pp → ∀ T u, XK N w0 (Q (.panic (pan (.iface T u)))) e R (H.set i HP.emp))
    (k : G → XK N w0 (wpList P ops Q rest) ((d, v) :: e) R (H.set i q)) : XK N w0 (wpList P ops Q (⟨some d, .call { callee := .value x, args := args.toArray, argTypes := tys }, ty, pos, aft, none⟩ :: rest)) e R H := fun a w hr st => wpList_plain rfl fun K hK => by
  unfold callB at hf
  cases hq : P.funcs[f]? with
  | none => simp [hq] at hf
  | some fn =>
    simp [hq] at hf
    obtain ⟨hf1, hf2⟩ := hf
    have hrun : (execOp a.eval (⟨some d, .call { callee := .value x, args := args.toArray, argTypes := tys }, ty, pos, aft, none⟩ : Oper)).run P w = .ok (.enter f (fi ++ vs ++ ca).toArray) w := by
      cases hb : fn.body with
      | none => simp [hb] at hf2
      | some c => simp [execOp, resolve, hr.ev hx, Deferred.ofValue, invoke, callFunc, hq, hf1, hb, hr.evs ha]
    obtain ⟨F, hp, hlt, hle, hset⟩ := st.chunk hi
    unfold Oper.wp
    rw [hrun]
    refine (hc w F st hp hlt hle).mono fun y w' hy => ?_
    rcases hy with ⟨rfl, hG, F', hs, ht⟩ | ⟨hpp, ⟨T, u, rfl⟩, F', ht⟩
    · exact hK _ _ (k hG _ _ (hr.put hd v) (hset w' F' q hs ht))
    · exact kp hpp T u a w' hr (hset w' F' HP.emp trivial ht)
theorem Below.drewN (w : World) (n : Nat) : Below w.heap.size w (w.drewN n) := ⟨rfl, rfl, rfl, Nat.le_refl _, fun _ _ => rfl⟩
end
end Go.Proofs.YtgopaoidgcgalaaGreatDoor
/- Events, as they lie in memory; what an audit counts and finds of them, in plain words; dead and each, walked. -/
namespace Go.Proofs.YtgopaoidgcgalaaGreatDoor
set_option linter.all false
open Go.RowKit Go.Shelf
attribute [local go_sem] Oper.semAt_some
/-- an event: its cells, one by one; wA, wc: the slice of its words ws -/
structure Ev where
  kind : Int
  task : Int
  ck : Int
  dev : Int
  reg : Int
  cv : Int
  err : Int
  rv : Int
  aid : Int
  adev : Int
  adead : Bool
  av : Int
  alive : Bool
  wA : Option Addr
  wc : Nat
  ws : List Int
def Ev.cells (e : Ev) : List Value :=
  [.int .u8 e.kind, .int .i64 e.task, .int .u8 e.ck, .int .i64 e.dev, .int .i64 e.reg, .int .u32 e.cv, .int .i64 e.err, .int .u32 e.rv, .int .i64 e.aid, .int .i64 e.adev, .bool e.adead, .int .u32 e.av, .bool e.alive, .slice e.wA e.ws.length e.wc]
theorem Ev.cells_len (e : Ev) : e.cells.length = 14 := rfl
/-- the event at a place -/
def EvAt (w : World) (b o : Nat) (e : Ev) : Prop := ∀ f u, e.cells[f]? = some u → w.cell? ⟨b, o + f, none⟩ = some u
/-- words as cells -/
def u32Cells (zs : List Int) : List Value := zs.map (Value.int .u32)
def EvWs (w : World) (B : Nat) (e : Ev) : Prop := Sl w B 1 e.wA e.ws.length (u32Cells e.ws)
/-- events in memory: a slice of 14 cells an element; their words -/
def Evs (w : World) (B : Nat) (A : Option Addr) (evs : List Ev) : Prop := Sl w B 14 A evs.length (evs.flatMap Ev.cells) ∧ ∀ e ∈ evs, EvWs w B e
theorem Evs.at_ {w : World} {B : Nat} {A : Option Addr} {evs : List Ev} (h : Evs w B A evs) {k : Nat} {e : Ev} (hk : evs[k]? = some e) :
    ∃ b off, A = some ⟨b, off, none⟩ ∧ b < B ∧ EvAt w b (off + k * 14) e := by
  have hlt : k < evs.length := by
    rcases Nat.lt_or_ge k evs.length with h | h
    · exact h
    · rw [List.getElem?_eq_none h] at hk; cases hk
  obtain ⟨b, off, hA, hb, hc⟩ := Sl.at_ h.1 hlt
  refine ⟨b, off, hA, hb, fun f u hu => ?_⟩
  have hf : f < 14 := by
    rcases Nat.lt_or_ge f 14 with h | h
    · exact h
    · rw [List.getElem?_eq_none (by rw [Ev.cells_len]; exact h)] at hu; cases hu
  exact hc f u (by rw [flat_get Ev.cells 14 evs (fun _ _ => rfl) k f e hk hf]; exact hu)
theorem Evs.below {w w' : World} {B : Nat} {A : Option Addr} {evs : List Ev} (h : Evs w B A evs) (hb : Below B w w') : Evs w' B A evs := ⟨h.1.below hb, fun e he => (h.2 e he).below hb⟩
theorem Evs.thn {w w' : World} {A : Option Addr} {evs : List Ev} (h : Evs w w.heap.size A evs) (hb : Below w.heap.size w w') : Evs w' w'.heap.size A evs := ⟨h.1.thn hb, fun e he => (h.2 e he).thn hb⟩

end Go.Proofs.YtgopaoidgcgalaaGreatDoor
/- The small logic: pointers that are not nil, parts of slices, maps of counts; events that a piece shows. -/
namespace Go.Proofs.YtgopaoidgcgalaaGreatDoor
set_option linter.all false
open Go.RowKit
section
variable {P : Program} {N : Frm} {w0 : World} {e : Env} {R : List Piece} {H : List HP} {Q : Exit → Act → World → Prop} {ops : Array Oper} {rest : List Oper}
variable {d : Nat} {ty : TypeId} {pos : String} {aft : Array Edge}
theorem does_nilC {x : Operand} {a : Addr} (hx : e.ev x = some (.pointer (some a))) : Does P N w0 e R H ⟨some d, .nilCheck x, ty, pos, aft, none⟩ (.pointer (some a)) := does_of (fun b w hr => by simp [execOp, hr.ev hx])
theorem xk_nilC {x : Operand} {a : Addr} (hx : e.ev x = some (.pointer (some a))) (hd : d < N.n) (k : XK N w0 (wpList P ops Q rest) ((d, .pointer (some a)) :: e) R H) : XK N w0 (wpList P ops Q (⟨some d, .nilCheck x, ty, pos, aft, none⟩ :: rest)) e R H :=
  xk_pure hd (fun b w hr => by simp [execOp, hr.ev hx]) k
theorem sl_elem {t el : TypeId} (ht : P.underlying t = some (.slice el)) : P.underlying t = some (.slice (P.elem t)) := by
  unfold Program.elem
  rw [ht]
theorem elem_eq {t el : TypeId} (ht : P.underlying t = some (.slice el)) : P.elem t = el := by unfold Program.elem; rw [ht]
/-- the first k of a row -/
theorem run_sliceH {t el : TypeId} {sz n c k : Nat} {A : Option Addr} {kd : IntKind} (ht : P.underlying t = some (.slice el)) (hsz : (P.info? el).map (·.size) = some sz) (hk : k ≤ c) (w : World) :
    ∃ A', (0 < k → (∃ b off, A = some ⟨b, off, none⟩) → A' = A) ∧ (Instr.sliceAt t (.slice A n c) none (some (.int kd (k : Int))) none).run P w = .ok (.slice A' k c) w := by
  obtain ⟨i, hi, hs⟩ := Option.map_eq_some_iff.1 hsz
  have hel := elem_eq ht
  refine ⟨_, ?_, by rw [run_sliceAt_slice w t _ _ _ _ (sl_elem ht), run_slice_h w t A n c (sl_elem ht) kd k (by omega) (by omega), hel]; simp [sizeOf, typeInfo, hi, sliced]; rfl⟩
  rintro h0 ⟨b, off, rfl⟩
  split
  · rfl
  · simp [Addr.add]
/-- all but the first k -/
theorem run_sliceL {t el : TypeId} {sz n c k : Nat} {A : Option Addr} {kd : IntKind} (ht : P.underlying t = some (.slice el)) (hsz : (P.info? el).map (·.size) = some sz) (hk : k ≤ n) (hc : n ≤ c) (w : World) :
    ∃ A', (k < n → ∀ b off, A = some ⟨b, off, none⟩ → A' = some ⟨b, off + k * sz, none⟩) ∧ (Instr.sliceAt t (.slice A n c) (some (.int kd (k : Int))) none none).run P w = .ok (.slice A' (n - k) (c - k)) w := by
  obtain ⟨i, hi, hs⟩ := Option.map_eq_some_iff.1 hsz
  have hel := elem_eq ht
  refine ⟨_, ?_, by rw [run_sliceAt_slice w t _ _ _ _ (sl_elem ht), run_slice_l w t A n c (sl_elem ht) kd k (by omega) (by omega), hel]; simp [sizeOf, typeInfo, hi, sliced]; rfl⟩
  rintro h0 b off rfl
  rw [if_neg (by omega)]
  simp [Addr.add, hs]
theorem xk_sliceH (k : Nat) {x hi : Operand} {t el : TypeId} {sz n c : Nat} {A : Option Addr} {kd : IntKind} {j : Int} (ht : P.underlying t = some (.slice el)) (hsz : (P.info? el).map (·.size) = some sz) (hx : e.ev x = some (.slice A n c)) (hh : e.ev hi = some (.int kd j)) (hj : j = (k : Int)) (hk : k ≤ c) (hd : d < N.n)
    (kk : ∀ A', (0 < k → (∃ b off, A = some ⟨b, off, none⟩) → A' = A) → XK N w0 (wpList P ops Q rest) ((d, .slice A' k c) :: e) R H) : XK N w0 (wpList P ops Q (⟨some d, .slice t x none (some hi) none, ty, pos, aft, none⟩ :: rest)) e R H :=
  xk_run rfl fun a w hr st => by
    subst hj
    obtain ⟨A', h1, h2⟩ := run_sliceH (P := P) (kd := kd) ht hsz hk w (n := n) (A := A)
    exact ⟨_, w, by simp only [execOp, hr.ev hx, Option.map_some, Option.map_none, hr.ev hh, Sem.run_bind, h2, Result.andThen_ok, Sem.run_pure], kk A' h1 _ _ (hr.put hd _) st⟩
theorem xk_sliceL (k : Nat) {x lo : Operand} {t el : TypeId} {sz n c : Nat} {A : Option Addr} {kd : IntKind} {j : Int} (ht : P.underlying t = some (.slice el)) (hsz : (P.info? el).map (·.size) = some sz) (hx : e.ev x = some (.slice A n c)) (hh : e.ev lo = some (.int kd j)) (hj : j = (k : Int)) (hk : k ≤ n) (hc : n ≤ c) (hd : d < N.n)
    (kk : ∀ A', (k < n → ∀ b off, A = some ⟨b, off, none⟩ → A' = some ⟨b, off + k * sz, none⟩) → XK N w0 (wpList P ops Q rest) ((d, .slice A' (n - k) (c - k)) :: e) R H) : XK N w0 (wpList P ops Q (⟨some d, .slice t x (some lo) none none, ty, pos, aft, none⟩ :: rest)) e R H :=
  xk_run rfl fun a w hr st => by
    subst hj
    obtain ⟨A', h1, h2⟩ := run_sliceL (P := P) (kd := kd) ht hsz hk hc w (A := A)
    exact ⟨_, w, by simp only [execOp, hr.ev hx, Option.map_some, Option.map_none, hr.ev hh, Sem.run_bind, h2, Result.andThen_ok, Sem.run_pure], kk A' h1 _ _ (hr.put hd _) st⟩
end
theorem SlS.takeP {p : Piece} {sz n k : Nat} {A A' : Option Addr} {xs : List Value} (h : SlS p sz A n xs) (hk : k ≤ n) (hA : 0 < k → (∃ b off, A = some ⟨b, off, none⟩) → A' = A) : SlS p sz A' k (xs.take (k * sz)) := by
  refine ⟨by rw [List.length_take, h.1]; exact Nat.min_eq_left (Nat.mul_le_mul_right _ hk), fun h0 => ?_⟩
  obtain ⟨b, off, hA2, hz, hc⟩ := h.2 (by omega)
  refine ⟨b, off, by rw [hA h0 ⟨b, off, hA2⟩, hA2], hz, fun j u hu => hc j u ?_⟩
  rw [List.getElem?_take] at hu
  split at hu
  · exact hu
  · cases hu
/-- events that a piece shows -/
def EvS (p : Piece) (A : Option Addr) (evs : List Ev) : Prop := SlS p 14 A evs.length (evs.flatMap Ev.cells)
theorem EvS.le {p q : Piece} {A : Option Addr} {evs : List Ev} (h : EvS p A evs) (hl : p.Le q) : EvS q A evs := SlS.le h hl
theorem EvS.ev {p : Piece} {b off : Nat} {evs : List Ev} (h : EvS p (some ⟨b, off, none⟩) evs) {k : Nat} {x : Ev} (hk : evs[k]? = some x) : p.Z b ∧ ∀ f u, x.cells[f]? = some u → p.w.cell? ⟨b, off + k * 14 + f, none⟩ = some u := by
  have hlt := (List.getElem?_eq_some_iff.1 hk).1
  obtain ⟨b', off', hA, hb, hc⟩ := SlS.at_ h hlt
  cases hA
  refine ⟨hb, fun f u hu => hc f u ?_⟩
  have hf : f < 14 := by
    rw [← Ev.cells_len x]
    rcases Nat.lt_or_ge f x.cells.length with h | h
    · exact h
    · rw [List.getElem?_eq_none h] at hu; cases hu
  rw [flat_get Ev.cells 14 evs (fun _ _ => Ev.cells_len _) k f x hk hf, hu]
/-! counts, as a map -/
end Go.Proofs.YtgopaoidgcgalaaGreatDoor
/-
  DERIVED: THE SHELF's CONTRACTS AT THIS DUMP, IN PLAIN WORDS (tools/lay-plain.mjs out of 'YtgopaoidgcgalaaGreatDoorShelf.lean', which tools/lay-shelf.mjs wrote): THE SAME DECLARATIONS UNDER THE SAME NAMES: 'import', 'namespace', 'open', 'def', 'theorem' AND NOTHING ELSE: no command of the shelf's: FOR A HAND-IN. Each laying: the table of numbers ('.._ren') and one theorem, a field a fact of the dump's own or the kernel's comparison; each contract: ONE APPLICATION.
-/
namespace Go.Proofs
open Go.Shelf
def Tryz.lays169_ren : Go.Shelf.Ren := ⟨fun | 169 => 38 | n => n, fun | 70 => 73 | 9 => 9 | 0 => 0 | 72 => 76 | 37 => 74 | 127 => 131 | 3 => 3 | 5 => 5 | n => n, fun | n => n⟩
theorem Tryz.lays169 : Go.Proofs.Lays.n169 Tryz.prog Tryz.lays169_ren := {
  mixed := by kernel_rfl
  f169 := Tryz.func38.trans (congrArg some (by kernel_rfl))
  t0 := Tryz.underlying0
  a0 := Tryz.isAgg0
  z0 := Tryz.sizeOf0
  v0 := Tryz.zeroValue0
  t3 := Tryz.underlying3
  a3 := Tryz.isAgg3
  z3 := Tryz.sizeOf3
  v3 := Tryz.zeroValue3
  t9 := Tryz.underlying9
  a9 := Tryz.isAgg9
  z9 := Tryz.sizeOf9
  v9 := Tryz.zeroValue9
  t37 := Tryz.underlying74
  a37 := Tryz.isAgg74
  z37 := Tryz.sizeOf74
  v37 := Tryz.zeroValue74
  t70 := Tryz.underlying73
  a70 := Tryz.isAgg73
  z70 := Tryz.sizeOf73
  v70 := Tryz.zeroValue73
  t72 := Tryz.underlying76
  a72 := Tryz.isAgg76
  z72 := Tryz.sizeOf76
  v72 := Tryz.zeroValue76
  t127 := Tryz.underlying131
  a127 := Tryz.isAgg131
  z127 := Tryz.sizeOf131
  v127 := Tryz.zeroValue131 }
theorem Tryz.Builder_Extra_169 : Builder.Extra Tryz.prog Tryz.lays169_ren := {
  sizeBuilder := by kernel_rfl
  liesBuilder := by kernel_rfl
  t5 := Tryz.underlying5
  a5 := Tryz.isAgg5
  z5 := Tryz.sizeOf5
  v5 := Tryz.zeroValue5
  infoByte := by kernel_rfl
  cellsByte := by kernel_rfl
  sizeByte := by kernel_rfl
  neB5 := by decide }
open Go.RowKit in
/-- (*strings.Builder).String: "String returns the accumulated string.": WHATEVER THE BUILDER HOLDS. (LAID: no walk: one application.) -/
theorem Tryz.Builder_String_any (B b : Nat) (l : List UInt8) (w : World) (h : Lib.IsBuilder 76 5 B b (Lib.byteCells l) w) (hBw : B ≤ w.heap.size) :
    Calls Tryz.prog 38 #[.pointer (some ⟨b, 0, none⟩)] w fun e w' => e = .returned (.string ⟨l.toArray⟩) ∧ Below B w w' := Any.Builder_String_any Tryz.lays169 Tryz.Builder_Extra_169 B b l w h hBw
def Tryz.lays156_ren : Go.Shelf.Ren := ⟨fun | 156 => 92 | 165 => 128 | 166 => 91 | 169 => 38 | 240 => 127 | 241 => 141 | 276 => 140 | 277 => 153 | n => n, fun | 31 => 42 | 9 => 9 | 3 => 3 | 4 => 4 | 0 => 0 | 20 => 20 | 72 => 76 | 76 => 126 | 70 => 73 | 37 => 74 | 75 => 125 | 127 => 131 | 164 => 153 | 5 => 5 | 80 => 83 | n => n, fun | n => n⟩
theorem Tryz.lays156 : Go.Proofs.Lays.n156 Tryz.prog Tryz.lays156_ren := {
  mixed := by kernel_rfl
  f156 := Tryz.func92.trans (congrArg some (by kernel_rfl))
  f165 := Tryz.func128.trans (congrArg some (by kernel_rfl))
  f166 := Tryz.func91.trans (congrArg some (by kernel_rfl))
  f169 := Tryz.func38.trans (congrArg some (by kernel_rfl))
  f240 := Tryz.func127.trans (congrArg some (by kernel_rfl))
  f241 := Tryz.func141.trans (congrArg some (by kernel_rfl))
  f276 := Tryz.func140.trans (congrArg some (by kernel_rfl))
  f277 := Tryz.func153.trans (congrArg some (by kernel_rfl))
  t0 := Tryz.underlying0
  a0 := Tryz.isAgg0
  z0 := Tryz.sizeOf0
  v0 := Tryz.zeroValue0
  t3 := Tryz.underlying3
  a3 := Tryz.isAgg3
  z3 := Tryz.sizeOf3
  v3 := Tryz.zeroValue3
  t4 := Tryz.underlying4
  a4 := Tryz.isAgg4
  z4 := Tryz.sizeOf4
  v4 := Tryz.zeroValue4
  t9 := Tryz.underlying9
  a9 := Tryz.isAgg9
  z9 := Tryz.sizeOf9
  v9 := Tryz.zeroValue9
  t20 := Tryz.underlying20
  a20 := Tryz.isAgg20
  z20 := Tryz.sizeOf20
  v20 := Tryz.zeroValue20
  t31 := Tryz.underlying42
  a31 := Tryz.isAgg42
  z31 := Tryz.sizeOf42
  v31 := Tryz.zeroValue42
  t37 := Tryz.underlying74
  a37 := Tryz.isAgg74
  z37 := Tryz.sizeOf74
  v37 := Tryz.zeroValue74
  t70 := Tryz.underlying73
  a70 := Tryz.isAgg73
  z70 := Tryz.sizeOf73
  v70 := Tryz.zeroValue73
  t72 := Tryz.underlying76
  a72 := Tryz.isAgg76
  z72 := Tryz.sizeOf76
  v72 := Tryz.zeroValue76
  t75 := Tryz.underlying125
  a75 := Tryz.isAgg125
  z75 := Tryz.sizeOf125
  v75 := Tryz.zeroValue125
  t76 := Tryz.underlying126
  a76 := Tryz.isAgg126
  z76 := Tryz.sizeOf126
  v76 := Tryz.zeroValue126
  t127 := Tryz.underlying131
  a127 := Tryz.isAgg131
  z127 := Tryz.sizeOf131
  v127 := Tryz.zeroValue131
  t164 := Tryz.underlying153
  a164 := Tryz.isAgg153
  z164 := Tryz.sizeOf153
  v164 := Tryz.zeroValue153 }
theorem Tryz.Builder_Extra_156 : Builder.Extra Tryz.prog Tryz.lays156_ren := {
  sizeBuilder := by kernel_rfl
  liesBuilder := by kernel_rfl
  t5 := Tryz.underlying5
  a5 := Tryz.isAgg5
  z5 := Tryz.sizeOf5
  v5 := Tryz.zeroValue5
  infoByte := by kernel_rfl
  cellsByte := by kernel_rfl
  sizeByte := by kernel_rfl
  neB5 := by decide }
open Go.RowKit in
/-- strings.Join: "Join concatenates the elements of its first argument to create a single string. The separator string sep is placed between elements in the resulting string.": HOWEVER MANY ELEMENTS. Below the heap's end the world is as it was. (LAID: no walk: one application.) -/
theorem Tryz.strings_Join (bk o c : Nat) (xs : List ByteArray) (sep : ByteArray) (w : World) (hcells : ∀ (j : Nat) x, xs[j]? = some x → w.cell? ⟨bk, o + j, none⟩ = some (.string x)) (hbk : bk < w.heap.size) (hN : xs.length ≤ 140737488355328) (hcap : xs.length ≤ c) (hlen : (Lib.join (xs.map (·.data.toList)) sep.data.toList).length ≤ 140737488355328) :
    Calls Tryz.prog 92 #[.slice (some ⟨bk, o, none⟩) xs.length c, .string sep] w fun e w' => e = .returned (.string ⟨(Lib.join (xs.map (·.data.toList)) sep.data.toList).toArray⟩) ∧ Below w.heap.size w w' := Any.strings_Join Tryz.lays156 Tryz.Builder_Extra_156 bk o c xs sep w hcells hbk hN hcap hlen
def Tryz.lays283_ren : Go.Shelf.Ren := ⟨fun | 283 => 142 | n => n, fun | 3 => 3 | 9 => 9 | 4 => 4 | n => n, fun | n => n⟩
theorem Tryz.lays283 : Go.Proofs.Lays.n283 Tryz.prog Tryz.lays283_ren := {
  mixed := by kernel_rfl
  f283 := Tryz.func142.trans (congrArg some (by kernel_rfl))
  t3 := Tryz.underlying3
  a3 := Tryz.isAgg3
  z3 := Tryz.sizeOf3
  v3 := Tryz.zeroValue3
  t4 := Tryz.underlying4
  a4 := Tryz.isAgg4
  z4 := Tryz.sizeOf4
  v4 := Tryz.zeroValue4
  t9 := Tryz.underlying9
  a9 := Tryz.isAgg9
  z9 := Tryz.sizeOf9
  v9 := Tryz.zeroValue9 }
open Go.Lib in
/-- internal/strconv.small: "small returns the string for an i with 0 <= i < nSmalls.": i's decimal numeral. The world is as it was. (LAID: no walk: one application.) -/
theorem Tryz.internal_strconv_small (i : Nat) (h : i < 100) (w : World) :
    Calls Tryz.prog 142 #[.int .i64 i] w fun e w' => e = .returned (.string ⟨(Lib.decDigits i).toArray⟩) ∧ w' = w := Any.internal_strconv_small Tryz.lays283 i h w
def Tryz.laysM284_ren : Go.Shelf.Ren := ⟨fun | 284 => 143 | 129 => 155 | 317 => 154 | 318 => 156 | n => n, fun | 53 => 32 | 3 => 3 | 212 => 170 | 0 => 0 | 4 => 4 | 46 => 149 | 5 => 5 | 9 => 9 | n => n, fun | 17 => 1 | n => n⟩
theorem Tryz.laysM284 : Go.Proofs.LaysM.n284 Tryz.prog Tryz.laysM284_ren := {
  mixed := by kernel_rfl
  f129 := Tryz.func155.trans (congrArg some (by kernel_rfl))
  f284 := Tryz.func143.trans (congrArg some (by kernel_rfl))
  f317 := Tryz.func154.trans (congrArg some (by kernel_rfl))
  f318 := Tryz.func156.trans (congrArg some (by kernel_rfl))
  t0 := Tryz.underlying0
  a0 := Tryz.isAgg0
  z0 := Tryz.sizeOf0
  v0 := Tryz.zeroValue0
  t3 := Tryz.underlying3
  a3 := Tryz.isAgg3
  z3 := Tryz.sizeOf3
  v3 := Tryz.zeroValue3
  t4 := Tryz.underlying4
  a4 := Tryz.isAgg4
  z4 := Tryz.sizeOf4
  v4 := Tryz.zeroValue4
  t5 := Tryz.underlying5
  a5 := Tryz.isAgg5
  z5 := Tryz.sizeOf5
  v5 := Tryz.zeroValue5
  t9 := Tryz.underlying9
  a9 := Tryz.isAgg9
  z9 := Tryz.sizeOf9
  v9 := Tryz.zeroValue9
  t46 := Tryz.underlying149
  a46 := Tryz.isAgg149
  z46 := Tryz.sizeOf149
  v46 := Tryz.zeroValue149
  t53 := Tryz.underlying32
  a53 := Tryz.isAgg32
  z53 := Tryz.sizeOf32
  v53 := Tryz.zeroValue32
  t212 := Tryz.underlying170
  a212 := Tryz.isAgg170
  z212 := Tryz.sizeOf170
  v212 := Tryz.zeroValue170
  g17 := by kernel_rfl
  i0 := by kernel_rfl
  i3 := by kernel_rfl
  i4 := by kernel_rfl
  i5 := by kernel_rfl
  i9 := by kernel_rfl
  i46 := by kernel_rfl
  i53 := by kernel_rfl
  i212 := by kernel_rfl
  m17 := by kernel_rfl }
open Go.Lib in
/-- internal/strconv.numDigits, at a d that is not 0: THE NUMBER OF d's DECIMAL DIGITS. The world is as it was. (LAID: no walk: one application.) -/
theorem Tryz.internal_strconv_numDigits (u : Nat) (h1 : 1 ≤ u) (h2 : u < 18446744073709551616) (w : World) (htab : Lib.TabIs Tryz.prog w "internal/strconv.uint64pow10" .u64 Lib.pow10Tab) :
    Calls Tryz.prog 143 #[.int .u64 u] w fun e w' => e = .returned (.int .i64 (Lib.nDigits u)) ∧ w' = w := Any.internal_strconv_numDigits Tryz.laysM284 u h1 h2 w htab
def Tryz.lays285_ren : Go.Shelf.Ren := ⟨fun | 285 => 144 | n => n, fun | 37 => 74 | 53 => 32 | 3 => 3 | 4 => 4 | 51 => 48 | 9 => 9 | 5 => 5 | 0 => 0 | n => n, fun | n => n⟩
theorem Tryz.lays285 : Go.Proofs.Lays.n285 Tryz.prog Tryz.lays285_ren := {
  mixed := by kernel_rfl
  f285 := Tryz.func144.trans (congrArg some (by kernel_rfl))
  t0 := Tryz.underlying0
  a0 := Tryz.isAgg0
  z0 := Tryz.sizeOf0
  v0 := Tryz.zeroValue0
  t3 := Tryz.underlying3
  a3 := Tryz.isAgg3
  z3 := Tryz.sizeOf3
  v3 := Tryz.zeroValue3
  t4 := Tryz.underlying4
  a4 := Tryz.isAgg4
  z4 := Tryz.sizeOf4
  v4 := Tryz.zeroValue4
  t5 := Tryz.underlying5
  a5 := Tryz.isAgg5
  z5 := Tryz.sizeOf5
  v5 := Tryz.zeroValue5
  t9 := Tryz.underlying9
  a9 := Tryz.isAgg9
  z9 := Tryz.sizeOf9
  v9 := Tryz.zeroValue9
  t37 := Tryz.underlying74
  a37 := Tryz.isAgg74
  z37 := Tryz.sizeOf74
  v37 := Tryz.zeroValue74
  t51 := Tryz.underlying48
  a51 := Tryz.isAgg48
  z51 := Tryz.sizeOf48
  v51 := Tryz.zeroValue48
  t53 := Tryz.underlying32
  a53 := Tryz.isAgg32
  z53 := Tryz.sizeOf32
  v53 := Tryz.zeroValue32 }
open Go.RowKit Go.Sort Go.Lib in
/-- internal/strconv.formatBase10: "formatBase10 formats the decimal representation of u into a. The caller is responsible for ensuring that a is big enough to hold u. If a is too big, leading zeros will be filled in as needed.": THE ROW HOLDS u's DIGITS ('FmtInv .. 0 ..': every place t holds 'dg u (len - 1 - t)'); all else is as it was but for the count of draws. (LAID: no walk: one application.) -/
theorem Tryz.internal_strconv_formatBase10 (blk off cap : Nat) (u : Nat) (d : Array UInt8) (w : World) (hH : Holds (fun (b : UInt8) => Value.int .u8 (b.toNat : Int)) w blk off d) (hu : u < 10 ^ d.size) (hu64 : u < 18446744073709551616) (hsz : d.size < 4611686018427387904) :
    Calls Tryz.prog 144 #[.slice (some ⟨blk, off, none⟩) d.size cap, .int .u64 u] w fun e w' =>
      e = .returned (.tuple #[]) ∧ ∃ (n v' : Nat) (dk : Array UInt8), w' = (putRow (fun (b : UInt8) => Value.int .u8 (b.toNat : Int)) w blk off dk).drewN n ∧ FmtInv d.size u 0 v' dk := Any.internal_strconv_formatBase10 Tryz.lays285 blk off cap u d w hH hu hu64 hsz
def Tryz.laysM171_ren : Go.Shelf.Ren := ⟨fun | 171 => 34 | 243 => 95 | 246 => 130 | 283 => 142 | 284 => 143 | 285 => 144 | 286 => 145 | 129 => 155 | 317 => 154 | 318 => 156 | 319 => 157 | 320 => 158 | 337 => 159 | 338 => 160 | n => n, fun | 3 => 3 | 9 => 9 | 2 => 2 | 4 => 4 | 171 => 155 | 0 => 0 | 53 => 32 | 37 => 74 | 5 => 5 | 173 => 158 | 212 => 170 | 51 => 48 | 20 => 20 | 213 => 171 | 46 => 149 | 232 => 179 | 233 => 180 | n => n, fun | 17 => 1 | 18 => 4 | 19 => 5 | n => n⟩
theorem Tryz.laysM171 : Go.Proofs.LaysM.n171 Tryz.prog Tryz.laysM171_ren := {
  mixed := by kernel_rfl
  f129 := Tryz.func155.trans (congrArg some (by kernel_rfl))
  f171 := Tryz.func34.trans (congrArg some (by kernel_rfl))
  f243 := Tryz.func95.trans (congrArg some (by kernel_rfl))
  f246 := Tryz.func130.trans (congrArg some (by kernel_rfl))
  f283 := Tryz.func142.trans (congrArg some (by kernel_rfl))
  f284 := Tryz.func143.trans (congrArg some (by kernel_rfl))
  f285 := Tryz.func144.trans (congrArg some (by kernel_rfl))
  f286 := Tryz.func145.trans (congrArg some (by kernel_rfl))
  f317 := Tryz.func154.trans (congrArg some (by kernel_rfl))
  f318 := Tryz.func156.trans (congrArg some (by kernel_rfl))
  f319 := Tryz.func157.trans (congrArg some (by kernel_rfl))
  f320 := Tryz.func158.trans (congrArg some (by kernel_rfl))
  f337 := Tryz.func159.trans (congrArg some (by kernel_rfl))
  f338 := Tryz.func160.trans (congrArg some (by kernel_rfl))
  t0 := Tryz.underlying0
  a0 := Tryz.isAgg0
  z0 := Tryz.sizeOf0
  v0 := Tryz.zeroValue0
  t2 := Tryz.underlying2
  a2 := Tryz.isAgg2
  z2 := Tryz.sizeOf2
  v2 := Tryz.zeroValue2
  t3 := Tryz.underlying3
  a3 := Tryz.isAgg3
  z3 := Tryz.sizeOf3
  v3 := Tryz.zeroValue3
  t4 := Tryz.underlying4
  a4 := Tryz.isAgg4
  z4 := Tryz.sizeOf4
  v4 := Tryz.zeroValue4
  t5 := Tryz.underlying5
  a5 := Tryz.isAgg5
  z5 := Tryz.sizeOf5
  v5 := Tryz.zeroValue5
  t9 := Tryz.underlying9
  a9 := Tryz.isAgg9
  z9 := Tryz.sizeOf9
  v9 := Tryz.zeroValue9
  t20 := Tryz.underlying20
  a20 := Tryz.isAgg20
  z20 := Tryz.sizeOf20
  v20 := Tryz.zeroValue20
  t37 := Tryz.underlying74
  a37 := Tryz.isAgg74
  z37 := Tryz.sizeOf74
  v37 := Tryz.zeroValue74
  t46 := Tryz.underlying149
  a46 := Tryz.isAgg149
  z46 := Tryz.sizeOf149
  v46 := Tryz.zeroValue149
  t51 := Tryz.underlying48
  a51 := Tryz.isAgg48
  z51 := Tryz.sizeOf48
  v51 := Tryz.zeroValue48
  t53 := Tryz.underlying32
  a53 := Tryz.isAgg32
  z53 := Tryz.sizeOf32
  v53 := Tryz.zeroValue32
  t171 := Tryz.underlying155
  a171 := Tryz.isAgg155
  z171 := Tryz.sizeOf155
  v171 := Tryz.zeroValue155
  t173 := Tryz.underlying158
  a173 := Tryz.isAgg158
  z173 := Tryz.sizeOf158
  v173 := Tryz.zeroValue158
  t212 := Tryz.underlying170
  a212 := Tryz.isAgg170
  z212 := Tryz.sizeOf170
  v212 := Tryz.zeroValue170
  t213 := Tryz.underlying171
  a213 := Tryz.isAgg171
  z213 := Tryz.sizeOf171
  t232 := Tryz.underlying179
  a232 := Tryz.isAgg179
  z232 := Tryz.sizeOf179
  v232 := Tryz.zeroValue179
  t233 := Tryz.underlying180
  a233 := Tryz.isAgg180
  z233 := Tryz.sizeOf180
  v233 := Tryz.zeroValue180
  g17 := by kernel_rfl
  g18 := by kernel_rfl
  g19 := by kernel_rfl
  i0 := by kernel_rfl
  i2 := by kernel_rfl
  i3 := by kernel_rfl
  i4 := by kernel_rfl
  i5 := by kernel_rfl
  i9 := by kernel_rfl
  i20 := by kernel_rfl
  i37 := by kernel_rfl
  i46 := by kernel_rfl
  i51 := by kernel_rfl
  i53 := by kernel_rfl
  i171 := by kernel_rfl
  i173 := by kernel_rfl
  i212 := by kernel_rfl
  i232 := by kernel_rfl
  i233 := by kernel_rfl
  m17 := by kernel_rfl
  m18 := by kernel_rfl
  m19 := by kernel_rfl }
open Go.RowKit Go.Sort Go.Lib in
/-- strconv.Itoa: "Itoa is equivalent to FormatInt(int64(i), 10).": i's DECIMAL NUMERAL ('Lib.itoa': a '-' where i is negative, then the digits), FOR EVERY int. The world behind the call: the world before it, new blocks behind the heap (the library's 'var a [24]byte'), draws. (LAID: no walk: one application.) -/
theorem Tryz.strconv_Itoa (n : Int) (h0 : -9223372036854775808 ≤ n) (h1 : n ≤ 9223372036854775807) (w : World) (htab : Lib.TabIs Tryz.prog w "internal/strconv.uint64pow10" .u64 Lib.pow10Tab) :
    Calls Tryz.prog 34 #[.int .i64 n] w fun e w' => e = .returned (.string ⟨(Lib.itoa n).toArray⟩) ∧ ∃ k os, w' = grow (w.drewN k) os := Any.strconv_Itoa Tryz.laysM171 n h0 h1 w htab
def Tryz.lays145_ren : Go.Shelf.Ren := ⟨fun | 145 => 24 | 220 => 74 | 219 => 117 | 217 => 132 | 225 => 133 | 224 => 134 | 267 => 135 | 266 => 150 | 314 => 151 | n => n, fun | 9 => 9 | 4 => 4 | 59 => 60 | 3 => 3 | 5 => 5 | 46 => 149 | 146 => 165 | 51 => 48 | n => n, fun | 1 => 0 | n => n⟩
theorem Tryz.lays145 : Go.Proofs.Lays.n145 Tryz.prog Tryz.lays145_ren := {
  mixed := by kernel_rfl
  f145 := Tryz.func24.trans (congrArg some (by kernel_rfl))
  f217 := Tryz.func132.trans (congrArg some (by kernel_rfl))
  f219 := Tryz.func117.trans (congrArg some (by kernel_rfl))
  f220 := Tryz.func74.trans (congrArg some (by kernel_rfl))
  f224 := Tryz.func134.trans (congrArg some (by kernel_rfl))
  f225 := Tryz.func133.trans (congrArg some (by kernel_rfl))
  f266 := Tryz.func150.trans (congrArg some (by kernel_rfl))
  f267 := Tryz.func135.trans (congrArg some (by kernel_rfl))
  f314 := Tryz.func151.trans (congrArg some (by kernel_rfl))
  t3 := Tryz.underlying3
  a3 := Tryz.isAgg3
  z3 := Tryz.sizeOf3
  v3 := Tryz.zeroValue3
  t4 := Tryz.underlying4
  a4 := Tryz.isAgg4
  z4 := Tryz.sizeOf4
  v4 := Tryz.zeroValue4
  t5 := Tryz.underlying5
  a5 := Tryz.isAgg5
  z5 := Tryz.sizeOf5
  v5 := Tryz.zeroValue5
  t9 := Tryz.underlying9
  a9 := Tryz.isAgg9
  z9 := Tryz.sizeOf9
  v9 := Tryz.zeroValue9
  t46 := Tryz.underlying149
  a46 := Tryz.isAgg149
  z46 := Tryz.sizeOf149
  v46 := Tryz.zeroValue149
  t51 := Tryz.underlying48
  a51 := Tryz.isAgg48
  z51 := Tryz.sizeOf48
  v51 := Tryz.zeroValue48
  t59 := Tryz.underlying60
  a59 := Tryz.isAgg60
  z59 := Tryz.sizeOf60
  v59 := Tryz.zeroValue60
  t146 := Tryz.underlying165
  a146 := Tryz.isAgg165
  z146 := Tryz.sizeOf165
  v146 := Tryz.zeroValue165
  g1 := by kernel_rfl }
open Go.RowKit Go.Lib in
/-- strings.Cut: "Cut slices s around the first instance of sep, returning the text before and after sep. The found result reports whether sep appears in s. If sep does not appear in s, cut returns s, "", false.": IT RETURNS 'Lib.cut s sep'; the world is as it was but for the count of draws. (LAID: no walk: one application.) -/
theorem Tryz.strings_Cut (s sep : ByteArray) (m : Int) (w : World) (hs : s.size < 4294967281) (hm : w.cell? ⟨0, 0, none⟩ = some (.int .i64 m)) :
    Calls Tryz.prog 24 #[.string s, .string sep] w fun e w' => e = .returned (.tuple #[.string ⟨(Lib.cut s.data.toList sep.data.toList).1.toArray⟩, .string ⟨(Lib.cut s.data.toList sep.data.toList).2.1.toArray⟩, .bool (Lib.cut s.data.toList sep.data.toList).2.2]) ∧ ∃ n, w' = w.drewN n := Any.strings_Cut Tryz.lays145 s sep m w hs hm
def Tryz.laysM145_ren : Go.Shelf.Ren := ⟨fun | 145 => 24 | 220 => 74 | 219 => 117 | 217 => 132 | 225 => 133 | 224 => 134 | 267 => 135 | 266 => 150 | 314 => 151 | n => n, fun | 9 => 9 | 4 => 4 | 59 => 60 | 3 => 3 | 5 => 5 | 46 => 149 | 146 => 165 | 51 => 48 | n => n, fun | 1 => 0 | n => n⟩
theorem Tryz.laysM145 : Go.Proofs.LaysM.n145 Tryz.prog Tryz.laysM145_ren := {
  mixed := by kernel_rfl
  f145 := Tryz.func24.trans (congrArg some (by kernel_rfl))
  f217 := Tryz.func132.trans (congrArg some (by kernel_rfl))
  f219 := Tryz.func117.trans (congrArg some (by kernel_rfl))
  f220 := Tryz.func74.trans (congrArg some (by kernel_rfl))
  f224 := Tryz.func134.trans (congrArg some (by kernel_rfl))
  f225 := Tryz.func133.trans (congrArg some (by kernel_rfl))
  f266 := Tryz.func150.trans (congrArg some (by kernel_rfl))
  f267 := Tryz.func135.trans (congrArg some (by kernel_rfl))
  f314 := Tryz.func151.trans (congrArg some (by kernel_rfl))
  t3 := Tryz.underlying3
  a3 := Tryz.isAgg3
  z3 := Tryz.sizeOf3
  v3 := Tryz.zeroValue3
  t4 := Tryz.underlying4
  a4 := Tryz.isAgg4
  z4 := Tryz.sizeOf4
  v4 := Tryz.zeroValue4
  t5 := Tryz.underlying5
  a5 := Tryz.isAgg5
  z5 := Tryz.sizeOf5
  v5 := Tryz.zeroValue5
  t9 := Tryz.underlying9
  a9 := Tryz.isAgg9
  z9 := Tryz.sizeOf9
  v9 := Tryz.zeroValue9
  t46 := Tryz.underlying149
  a46 := Tryz.isAgg149
  z46 := Tryz.sizeOf149
  v46 := Tryz.zeroValue149
  t51 := Tryz.underlying48
  a51 := Tryz.isAgg48
  z51 := Tryz.sizeOf48
  v51 := Tryz.zeroValue48
  t59 := Tryz.underlying60
  a59 := Tryz.isAgg60
  z59 := Tryz.sizeOf60
  v59 := Tryz.zeroValue60
  t146 := Tryz.underlying165
  a146 := Tryz.isAgg165
  z146 := Tryz.sizeOf165
  v146 := Tryz.zeroValue165
  g1 := by kernel_rfl
  i3 := by kernel_rfl
  i4 := by kernel_rfl
  i5 := by kernel_rfl
  i9 := by kernel_rfl
  i46 := by kernel_rfl
  i51 := by kernel_rfl
  i59 := by kernel_rfl
  i146 := by kernel_rfl
  m1 := by kernel_rfl
  s1_3 := fun w h => Go.Proofs.cell_of_shapedOpen_int (zero := #[.int .i64 0]) (t := 3) h (of_decide_eq_true (by kernel_rfl)) (by kernel_rfl) rfl (by kernel_rfl) (by kernel_rfl) Tryz.underlying3 }
def Tryz.lays146_ren : Go.Shelf.Ren := ⟨fun | 146 => 26 | 221 => 81 | 268 => 118 | 138 => 119 | 143 => 120 | 195 => 136 | 197 => 137 | 218 => 138 | 219 => 117 | 260 => 152 | 217 => 132 | 225 => 133 | 224 => 134 | 267 => 135 | 266 => 150 | 314 => 151 | n => n, fun | 9 => 9 | 31 => 42 | 3 => 3 | 4 => 4 | 0 => 0 | 105 => 150 | 21 => 21 | 5 => 5 | 46 => 149 | 119 => 174 | 139 => 177 | 138 => 176 | 146 => 165 | 51 => 48 | n => n, fun | 1 => 0 | 3 => 2 | 4 => 3 | n => n⟩
theorem Tryz.lays146 : Go.Proofs.Lays.n146 Tryz.prog Tryz.lays146_ren := {
  mixed := by kernel_rfl
  f138 := Tryz.func119.trans (congrArg some (by kernel_rfl))
  f143 := Tryz.func120.trans (congrArg some (by kernel_rfl))
  f146 := Tryz.func26.trans (congrArg some (by kernel_rfl))
  f195 := Tryz.func136.trans (congrArg some (by kernel_rfl))
  f197 := Tryz.func137.trans (congrArg some (by kernel_rfl))
  f217 := Tryz.func132.trans (congrArg some (by kernel_rfl))
  f218 := Tryz.func138.trans (congrArg some (by kernel_rfl))
  f219 := Tryz.func117.trans (congrArg some (by kernel_rfl))
  f221 := Tryz.func81.trans (congrArg some (by kernel_rfl))
  f224 := Tryz.func134.trans (congrArg some (by kernel_rfl))
  f225 := Tryz.func133.trans (congrArg some (by kernel_rfl))
  f260 := Tryz.func152.trans (congrArg some (by kernel_rfl))
  f266 := Tryz.func150.trans (congrArg some (by kernel_rfl))
  f267 := Tryz.func135.trans (congrArg some (by kernel_rfl))
  f268 := Tryz.func118.trans (congrArg some (by kernel_rfl))
  f314 := Tryz.func151.trans (congrArg some (by kernel_rfl))
  t0 := Tryz.underlying0
  a0 := Tryz.isAgg0
  z0 := Tryz.sizeOf0
  v0 := Tryz.zeroValue0
  t3 := Tryz.underlying3
  a3 := Tryz.isAgg3
  z3 := Tryz.sizeOf3
  v3 := Tryz.zeroValue3
  t4 := Tryz.underlying4
  a4 := Tryz.isAgg4
  z4 := Tryz.sizeOf4
  v4 := Tryz.zeroValue4
  t5 := Tryz.underlying5
  a5 := Tryz.isAgg5
  z5 := Tryz.sizeOf5
  v5 := Tryz.zeroValue5
  t9 := Tryz.underlying9
  a9 := Tryz.isAgg9
  z9 := Tryz.sizeOf9
  v9 := Tryz.zeroValue9
  t21 := Tryz.underlying21
  a21 := Tryz.isAgg21
  z21 := Tryz.sizeOf21
  v21 := Tryz.zeroValue21
  t31 := Tryz.underlying42
  a31 := Tryz.isAgg42
  z31 := Tryz.sizeOf42
  v31 := Tryz.zeroValue42
  t46 := Tryz.underlying149
  a46 := Tryz.isAgg149
  z46 := Tryz.sizeOf149
  v46 := Tryz.zeroValue149
  t51 := Tryz.underlying48
  a51 := Tryz.isAgg48
  z51 := Tryz.sizeOf48
  v51 := Tryz.zeroValue48
  t105 := Tryz.underlying150
  a105 := Tryz.isAgg150
  z105 := Tryz.sizeOf150
  v105 := Tryz.zeroValue150
  t119 := Tryz.underlying174
  a119 := Tryz.isAgg174
  z119 := Tryz.sizeOf174
  t138 := Tryz.underlying176
  a138 := Tryz.isAgg176
  z138 := Tryz.sizeOf176
  v138 := Tryz.zeroValue176
  t139 := Tryz.underlying177
  a139 := Tryz.isAgg177
  z139 := Tryz.sizeOf177
  v139 := Tryz.zeroValue177
  t146 := Tryz.underlying165
  a146 := Tryz.isAgg165
  z146 := Tryz.sizeOf165
  v146 := Tryz.zeroValue165
  g1 := by kernel_rfl
  g3 := by kernel_rfl
  g4 := by kernel_rfl }
open Go.RowKit Go.Lib in
/-- strings.Split. (LAID: no walk: one application.) -/
theorem Tryz.strings_Split (s sep : ByteArray) (m : Int) (w : World) (hs : s.size < 4294967281) (hm : w.cell? ⟨0, 0, none⟩ = some (.int .i64 m)) (h1 : 1 ≤ sep.size) :
    Calls Tryz.prog 26 #[.string s, .string sep] w fun e w' =>
      e = .returned (.slice (some ⟨w.heap.size, 0, none⟩) (Lib.countB s sep + 1) (Lib.countB s sep + 1)) ∧ w' = w.alloc (.cells ((Lib.splitB sep 0 (Lib.countB s sep) s).map Value.string).toArray 9) := Any.strings_Split Tryz.lays146 (by kernel_rfl) s sep m w hs hm h1
end Go.Proofs
/- strings.Builder as a chunk; FormatUint. -/
namespace Go.Proofs.YtgopaoidgcgalaaGreatDoor
set_option linter.all false
open Go.RowKit
/-- append of a string: the row that was there, or a new one -/
theorem run_append_str {P : Program} (w : World) (t u ty e : TypeId) (i : TypeInfo) (ht : P.underlying t = some (.slice e)) (hu : P.underlying u = some .string) (hi : P.info? e = some i) (hz : i.zero = some (.int .u8 0)) (hsize : i.size = 1) (hby : i.bytes = 1)
    (v : Value) (n : Nat) (xs : List Value) (hown : w.ownsRow 0 e 1 v n xs) (s : ByteArray) (hb : n + s.size ≤ 140737488355328) :
    ∃ v' w', (Builtin.append_ #[t, u] ty #[v, .string s]).run P w = .ok v' w' ∧ w'.ownsRow 0 e 1 v' (n + s.size) (xs ++ Lib.strCells s) ∧ w.grownBy w' v.ownBlock ∧ (v'.ownBlock = v.ownBlock ∨ v'.ownBlock = some w.heap.size) := by
  obtain ⟨v', w', h1, h2, h3, h4⟩ := Lib.run_append_own_string (P := P) (w := w) 0 t u ty e i ht hu hi hz hsize hby v n xs hown s (by unfold maxLen; omega) hb (Nat.zero_le _)
  refine ⟨v', w', h1, h2, h3, ?_⟩
  rcases hown.2 with ⟨rfl, rfl⟩ | ⟨g, cap, cur, rfl, _, hg, hnc, hcm, hcs, htake⟩
  · by_cases h0 : s.size = 0
    · exact .inl (by rw [h4.2 ⟨rfl, h0⟩])
    · have hr := run_append_nil_string (P := P) (w := w) t u ty e i (.int .u8 0) ht hu hi hz s (by omega) (by omega) (by rw [hby]; omega)
      rw [hr] at h1
      injection h1 with h1 _
      exact .inr (by rw [← h1]; rfl)
  · by_cases hroom : n + s.size ≤ cap
    · have hr := Lib.run_append_room_string (P := P) (w := w) t u ty e i ht hu hi hsize g n cap cur hg s hroom (by omega)
      rw [hr] at h1
      injection h1 with h1 _
      exact .inl (by rw [← h1]; rfl)
    · have hr := Lib.run_append_grow_string (P := P) (w := w) t u ty e i (.int .u8 0) ht hu hi hz ⟨g, 0, none⟩ n cap xs (by rw [hsize]; exact hown.1) (fun j u hj => by
        have := hown.cells (g := g) rfl j u hj
        simpa [Addr.add] using this) s (by omega) (by omega) (by rw [hby]; exact growslice_fits (by omega) (by omega))
      rw [hr] at h1
      injection h1 with h1 _
      exact .inr (by rw [← h1]; rfl)
section
variable {P : Program} {N : Frm} {w0 : World} {e : Env} {R : List Piece} {H : List HP} {Q : Exit → Act → World → Prop} {ops : Array Oper} {rest : List Oper}
variable {d : Nat} {ty : TypeId} {pos : String} {aft : Array Edge}
/-- an operation that yields v -/
theorem xk_val {op : Op} {v : Value} (hd : d < N.n) (h : ∀ a w, Rep N e a → St w0 R H w → (execOp a.eval ⟨some d, op, ty, pos, aft, none⟩).run P w = .ok (.value v) w)
    (k : XK N w0 (wpList P ops Q rest) ((d, v) :: e) R H) : XK N w0 (wpList P ops Q (⟨some d, op, ty, pos, aft, none⟩ :: rest)) e R H :=
  xk_run rfl fun a w hr st => ⟨v, w, h a w hr st, k _ _ (hr.put hd v) st⟩
theorem xk_appendStr (i : Nat) {x y : Operand} {t u el : TypeId} {n : Nat} {v : Value} {xs : List Value} {s : ByteArray} (ht : P.underlying t = some (.slice el)) (hu : P.underlying u = some .string) (hT : (P.info? el).map (fun i => (i.zero, i.size, i.bytes)) = some (some (.int .u8 0), 1, 1))
    (hi : H[i]? = some (HP.own el 1 v n xs)) (hx : e.ev x = some v) (hy : e.ev y = some (.string s)) (hb : n + s.size ≤ 140737488355328) (hd : d < N.n)
    (k : ∀ A' k', XK N w0 (wpList P ops Q rest) ((d, .slice A' (n + s.size) k') :: e) R (H.set i (HP.own el 1 (.slice A' (n + s.size) k') (n + s.size) (xs ++ Lib.strCells s)))) :
    XK N w0 (wpList P ops Q (⟨some d, .call { callee := .builtin .append, args := #[x, y], argTypes := #[t, u] }, ty, pos, aft, none⟩ :: rest)) e R H :=
  xk_run rfl fun a w hr st => by
    obtain ⟨ti, hti, hz⟩ := Option.map_eq_some_iff.1 hT
    simp only [Prod.mk.injEq] at hz
    have hown := st.own hi
    obtain ⟨v', w', hrun, h2, h3, h4⟩ := run_append_str (P := P) w t u ty el ti ht hu hti hz.1 hz.2.1 hz.2.2 v n xs hown s hb
    obtain ⟨A', k', rfl, _⟩ := own_slice h2
    refine ⟨_, w', by simp only [execOp, resolve, invoke, builtin, hr.ev hx, hr.ev hy, List.map_toArray, List.map_cons, List.map_nil, Sem.run_bind, Sem.run_pure, Result.andThen_ok, hrun], k A' k' _ _ (hr.put hd _) ?_⟩
    refine st.turn hi h3.size h3.os h3.tape h3.output fun F hF hlt => ⟨fun b => F b ∨ (w.heap.size ≤ b ∧ b < w'.heap.size), ⟨fun g hg => ?_, h2⟩, fun b hb => ?_, fun b hb hnb => h3.block b hb (fun he => hnb (hF.1 b he.symm))⟩
    · rcases h4 with h4 | h4
      · exact .inl (hF.1 g (h4 ▸ hg))
      · rw [h4] at hg
        cases hg
        refine .inr ⟨Nat.le_refl _, ?_⟩
        exact (h2.lt w.heap.size h4).2
    · rcases hb with hb | hb
      · exact ⟨.inl hb, Nat.lt_of_lt_of_le (hlt b hb) h3.size⟩
      · exact ⟨.inr hb.1, hb.2⟩
end
/-- a builder that has the bytes l -/
abbrev BlX (b : Nat) (l : List UInt8) : Type := {x : Value × Option Addr × Nat × Nat // (x.1 = .pointer none ∨ x.1 = .pointer (some ⟨b, 0, none⟩)) ∧ x.2.2.1 = l.length}
def BlX.hp {b : Nat} {l : List UInt8} (x : BlX b l) : HP := HP.many [HP.own 5 1 (.slice x.1.2.1 x.1.2.2.1 x.1.2.2.2) x.1.2.2.1 (Lib.byteCells l), HP.blk b 76 [x.1.1, .slice x.1.2.1 x.1.2.2.1 x.1.2.2.2]]
def HP.bldr (b : Nat) (l : List UInt8) : HP := HP.ex fun x : BlX b l => x.hp

theorem run_neq_self {P : Program} (w : World) {t : TypeId} (a : Addr) (h : P.underlying t = some (.pointer (P.pointee t))) (hs : ∀ w, (Go.sizeOf (P.pointee t)).run P w = .ok 2 w) : (binOp .neq t (.pointer (some a)) (.pointer (some a))).run P w = .ok (.bool false) w := by
  have h2 : (Op.equal t (.pointer (some a)) (.pointer (some a))).run P w = .ok true w := by
    have key : ∀ d, (Op.equalIn (d + 1) t (.pointer (some a)) (.pointer (some a))).run P w = .ok true w := fun d => by simp [Op.equalIn, run_underlying h, hs, sameAddr]
    exact key 9999
  simp only [binOp]
  simp [h2]
theorem bld_shape {w : World} {b : Nat} {cs : List Value} (h : Blk w b 76 cs.toArray) (hl : cs.length = 2) : w.shape? b = some (76, 2) := by
  unfold Blk at h
  simp [World.shape?, h, hl]
theorem bld_size : (Tryz.prog.info? 76).map (·.size) = some 2 := by kernel_rfl
theorem bld_lies : liesAt Tryz.prog Tryz.prog.depth 76 (2 / Tryz.prog.cellsOf 76) 0 76 1 = true := by kernel_rfl
theorem byte_info : (Tryz.prog.info? 5).map (fun i => (i.zero, i.size, i.bytes)) = some (some (.int .u8 0), 1, 1) := by kernel_rfl
theorem ccFresh_ok (b : Nat) (sv : Value) (w : World) (F : Nat → Prop) (hp : (HP.blk b 76 [.pointer none, sv]).sat F w) (hF : ∀ b, F b → b < w.heap.size) :
    Calls Tryz.prog 127 #[.pointer (some ⟨b, 0, none⟩)] w (fun y w' => y = .returned (.tuple #[]) ∧ ∃ F', (HP.blk b 76 [.pointer (some ⟨b, 0, none⟩), sv]).sat F' w' ∧ Turns w w' F F') := by
  refine XK.enterM (p := HP.blk b 76 [.pointer none, sv]) (F := F) (vs := [.pointer (some ⟨b, 0, none⟩)]) Tryz.func127 rfl Tryz.ntmps127 (by simp) hp hF ?_
  obtain ⟨p0, hp0⟩ : ∃ p0, p0 = (⟨w, fun b => b < w.heap.size ∧ ¬ F b⟩ : Piece) := ⟨_, rfl⟩
  rw [← hp0]
  refine XK.seq ?_

  refine XK.region ?_
  refine xk_move rfl (by decide) ?_
  refine xk_nilC rfl (by decide) ?_
  refine xk_field (off := 0) (by kernel_rfl) rfl (by decide) ?_
  refine xk_ld rfl ?_
  refine xk_val (v := .bool true) (by decide) (fun a w1 hr st => by
    have h5 := hr.ev (x := .tmp 5) rfl
    have hc := run_eql_pointer_nil (P := Tryz.prog) w1 73 (none) (by kernel_rfl)
    have hk := hr.ev (x := .const (.pointer none)) rfl
    simp only [execOp, h5, hk, eqGuard]
    simp [hc]) ?_
  refine XK.nilN ?_
  refine XK.cond rfl (fun _ => ?_) (fun h => by cases h)
  ·

    refine XK.region ?_
    refine xk_move rfl (by decide) ?_
    refine xk_move rfl (by decide) ?_
    refine xk_val (v := .pointer (some ⟨b, 0, none⟩)) (by decide) (fun a w1 hr st => by
      have h8 := hr.ev (x := .tmp 8) rfl
      obtain ⟨j, hj, hjs⟩ := Option.map_eq_some_iff.1 bld_size
      have hsh := bld_shape (st.blk (i := 0) rfl) rfl
      have hc := Lib.run_to_unsafe (P := Tryz.prog) (w := w1) (src := 73) (dst := 153) ⟨b, 0, none⟩ Tryz.underlying73 Tryz.underlying153 hj (by rw [hjs]; decide) hsh (Nat.zero_lt_succ 1)
      simp [execOp, h8, hc]) ?_
    refine xk_val (v := .pointer (some ⟨b, 0, none⟩)) (by decide) (fun a w1 hr st => by
      have h9 := hr.ev (x := .tmp 9) rfl
      have hc := run_callFunc_extern (P := Tryz.prog) (f := 140) Tryz.func140 (by kernel_rfl) (by kernel_rfl) (by kernel_rfl) (e := Extern.AbiNoEscape.same) (by kernel_rfl) #[.pointer (some ⟨b, 0, none⟩)] w1
      rw [Lib.run_noEscape] at hc
      have hf := hr.ev (x := .func 140) rfl
      simp only [execOp, resolve, hf, h9, Deferred.ofValue, invoke, List.map_toArray, List.map_cons, List.map_nil, Sem.run_bind, Sem.run_pure, Result.andThen_ok]
      first | exact hc | (rw [hc]; rfl) | (simp [hc]; done) | simpa using hc) ?_
    refine xk_val (v := .pointer (some ⟨b, 0, none⟩)) (by decide) (fun a w1 hr st => by
      have h10 := hr.ev (x := .tmp 10) rfl
      obtain ⟨j, hj, hjs⟩ := Option.map_eq_some_iff.1 bld_size
      have hsh := bld_shape (st.blk (i := 0) rfl) rfl
      have hc := Lib.run_from_unsafe (P := Tryz.prog) (w := w1) (src := 153) (dst := 73) ⟨b, 0, none⟩ Tryz.underlying153 Tryz.underlying73 hj hsh bld_lies
      simp [execOp, h10, hc]) ?_
    refine xk_nilC rfl (by decide) ?_
    refine xk_field (off := 0) (by kernel_rfl) rfl (by decide) ?_
    refine xk_st rfl rfl ?_; dsimp only [List.set]
    refine XK.nilN ?_
    exact XK.ret0 (.inr rfl) rfl fun w1 st => ⟨rfl, st.turns hF (by simp [hp0]) (i := 0) rfl⟩

theorem ccUsed_ok (b : Nat) (sv : Value) (w : World) (F : Nat → Prop) (hp : (HP.blk b 76 [.pointer (some ⟨b, 0, none⟩), sv]).sat F w) (hF : ∀ b, F b → b < w.heap.size) :
    Calls Tryz.prog 127 #[.pointer (some ⟨b, 0, none⟩)] w (fun y w' => y = .returned (.tuple #[]) ∧ ∃ F', (HP.blk b 76 [.pointer (some ⟨b, 0, none⟩), sv]).sat F' w' ∧ Turns w w' F F') := by
  refine XK.enterM (p := HP.blk b 76 [.pointer (some ⟨b, 0, none⟩), sv]) (F := F) (vs := [.pointer (some ⟨b, 0, none⟩)]) Tryz.func127 rfl Tryz.ntmps127 (by simp) hp hF ?_
  obtain ⟨p0, hp0⟩ : ∃ p0, p0 = (⟨w, fun b => b < w.heap.size ∧ ¬ F b⟩ : Piece) := ⟨_, rfl⟩
  rw [← hp0]
  refine XK.seq ?_

  refine XK.region ?_
  refine xk_move rfl (by decide) ?_
  refine xk_nilC rfl (by decide) ?_
  refine xk_field (off := 0) (by kernel_rfl) rfl (by decide) ?_
  refine xk_ld rfl ?_
  refine xk_val (v := .bool false) (by decide) (fun a w1 hr st => by
    have h5 := hr.ev (x := .tmp 5) rfl
    have hc := run_eql_pointer_nil (P := Tryz.prog) w1 73 (some ⟨b, 0, none⟩) (by kernel_rfl)
    have hk := hr.ev (x := .const (.pointer none)) rfl
    simp only [execOp, h5, hk, eqGuard]
    simp [hc]) ?_
  refine XK.nilN ?_
  refine XK.cond rfl (fun h => by cases h) (fun _ => ?_)
  ·
    refine XK.seq ?_

    refine XK.region ?_
    refine xk_move rfl (by decide) ?_
    refine xk_nilC rfl (by decide) ?_
    refine xk_field (off := 0) (by kernel_rfl) rfl (by decide) ?_
    refine xk_ld rfl ?_
    refine xk_move rfl (by decide) ?_
    refine xk_val (v := .bool false) (by decide) (fun a w1 hr st => by
      have h17 := hr.ev (x := .tmp 17) rfl
      have h18 := hr.ev (x := .tmp 18) rfl
      have hc := run_neq_self (P := Tryz.prog) w1 (t := 73) ⟨b, 0, none⟩ (by kernel_rfl) (fun w => by rw [show Tryz.prog.pointee 73 = 76 from by kernel_rfl]; exact Tryz.sizeOf76 w)
      simp only [execOp, h17, h18, eqGuard]
      simp [hc]) ?_
    refine XK.nilN ?_
    refine XK.cond rfl (fun h => by cases h) (fun _ => ?_)
    ·
      refine XK.skip ?_
      refine XK.norm ?_
      exact XK.ret0 (.inr rfl) rfl fun w1 st => ⟨rfl, st.turns hF (by simp [hp0]) (i := 0) rfl⟩

theorem cc_ok (b : Nat) (pv sv : Value) (hv : pv = .pointer none ∨ pv = .pointer (some ⟨b, 0, none⟩)) (w : World) (F : Nat → Prop) (hp : (HP.blk b 76 [pv, sv]).sat F w) (hF : ∀ b, F b → b < w.heap.size) :
    Calls Tryz.prog 127 #[.pointer (some ⟨b, 0, none⟩)] w (fun y w' => y = .returned (.tuple #[]) ∧ ∃ F', (HP.blk b 76 [.pointer (some ⟨b, 0, none⟩), sv]).sat F' w' ∧ Turns w w' F F') := by
  rcases hv with rfl | rfl
  · exact ccFresh_ok b sv w F hp hF
  · exact ccUsed_ok b sv w F hp hF
theorem wstr_ok (b : Nat) (l : List UInt8) (s : ByteArray) (hlen : l.length + s.size ≤ 140737488355328) (w : World) (F : Nat → Prop) (hp : (HP.bldr b l).sat F w) (hF : ∀ b, F b → b < w.heap.size) :
    Calls Tryz.prog 91 #[.pointer (some ⟨b, 0, none⟩), .string s] w (fun y w' => y = .returned (.tuple #[.int .i64 (s.size : Int), .nilIface]) ∧ ∃ F', (HP.bldr b (l ++ s.data.toList)).sat F' w' ∧ Turns w w' F F') := by
  refine XK.enterM (p := HP.bldr b l) (F := F) (vs := [.pointer (some ⟨b, 0, none⟩), .string s]) Tryz.func91 rfl Tryz.ntmps91 (by simp) hp hF ?_
  obtain ⟨p0, hp0⟩ : ∃ p0, p0 = (⟨w, fun b => b < w.heap.size ∧ ¬ F b⟩ : Piece) := ⟨_, rfl⟩
  rw [← hp0]
  refine XK.seq ?_

  refine XK.region ?_
  refine xk_assign rfl (by decide) ?_
  refine xk_assign rfl (by decide) ?_
  refine XK.nilN ?_
  refine XK.seq ?_

  refine XK.region ?_
  refine xk_move rfl (by decide) ?_
  refine XK.openEx 0 rfl ?_
  rintro ⟨⟨pv, A1, n1, c1⟩, hpv, hn1⟩
  dsimp only [List.set, BlX.hp] at hpv hn1 ⊢
  refine XK.take 0 1 rfl rfl ?_
  dsimp only [List.set]
  refine xk_callE 0 (f := 127) (fi := []) (ca := []) (HP.blk b 76 [.pointer (some ⟨b, 0, none⟩), .slice A1 n1 c1]) (by kernel_rfl) rfl rfl rfl ⟨by decide, rfl⟩ (fun w1 F1 st hs hl hq => cc_ok b pv _ hpv w1 F1 hs hl) ?_
  dsimp only [List.set]
  refine XK.nilN ?_
  refine XK.seq ?_

  refine XK.region ?_
  refine xk_move rfl (by decide) ?_
  refine xk_move rfl (by decide) ?_
  refine xk_nilC rfl (by decide) ?_
  refine xk_field (off := 1) (by kernel_rfl) rfl (by decide) ?_
  refine xk_ld rfl ?_
  refine xk_move rfl (by decide) ?_
  refine XK.take 1 0 rfl rfl ?_
  dsimp only [List.set]
  refine xk_appendStr 0 (by kernel_rfl) (by kernel_rfl) byte_info rfl rfl rfl (by omega) (by decide) fun A2 c2 => ?_
  dsimp only [List.set]
  refine xk_nilC rfl (by decide) ?_
  refine xk_field (off := 1) (by kernel_rfl) rfl (by decide) ?_
  refine xk_st rfl rfl ?_; dsimp only [List.set]
  refine XK.nilN ?_
  refine XK.seq ?_

  refine XK.region ?_
  refine xk_move rfl (by decide) ?_
  refine xk_lenS (by kernel_rfl) rfl (by decide) ?_
  refine xk_assign rfl (by decide) ?_
  refine xk_assign rfl (by decide) ?_
  refine XK.nilN ?_
  refine XK.ret ?_
  refine XK.norm ?_
  refine XK.give 1 0 rfl rfl ?_
  dsimp only [List.set]
  refine XK.give 0 1 rfl rfl ?_
  dsimp only [List.set]
  rw [show Lib.byteCells l ++ Lib.strCells s = Lib.byteCells (l ++ s.data.toList) from by rw [Lib.strCells_eq, ← Lib.byteCells_append]]
  refine XK.toEx 0 (f := fun x : BlX b (l ++ s.data.toList) => x.hp) ⟨(.pointer (some ⟨b, 0, none⟩), A2, n1 + s.size, c2), .inr rfl, by simp [hn1]⟩ rfl ?_
  exact XK.ret2 rfl rfl rfl fun w1 st => ⟨rfl, st.turns hF (by simp [hp0]) (i := 0) rfl⟩

theorem wbyte_ok (b : Nat) (l : List UInt8) (hlen : l.length + 1 ≤ 140737488355328) (w : World) (F : Nat → Prop) (hp : (HP.bldr b l).sat F w) (hF : ∀ b, F b → b < w.heap.size) :
    Calls Tryz.prog 93 #[.pointer (some ⟨b, 0, none⟩), .int .u8 10] w (fun y w' => y = .returned .nilIface ∧ ∃ F', (HP.bldr b (l ++ [10])).sat F' w' ∧ Turns w w' F F') := by
  refine XK.enterM (p := HP.bldr b l) (F := F) (vs := [.pointer (some ⟨b, 0, none⟩), .int .u8 10]) Tryz.func93 rfl Tryz.ntmps93 (by simp) hp hF ?_
  obtain ⟨p0, hp0⟩ : ∃ p0, p0 = (⟨w, fun b => b < w.heap.size ∧ ¬ F b⟩ : Piece) := ⟨_, rfl⟩
  rw [← hp0]
  refine XK.seq ?_

  refine XK.region ?_
  refine xk_assign rfl (by decide) ?_
  refine XK.nilN ?_
  refine XK.seq ?_

  refine XK.region ?_
  refine xk_move rfl (by decide) ?_
  refine XK.openEx 0 rfl ?_
  rintro ⟨⟨pv, A1, n1, c1⟩, hpv, hn1⟩
  dsimp only [List.set, BlX.hp] at hpv hn1 ⊢
  refine XK.take 0 1 rfl rfl ?_
  dsimp only [List.set]
  refine xk_callE 0 (f := 127) (fi := []) (ca := []) (HP.blk b 76 [.pointer (some ⟨b, 0, none⟩), .slice A1 n1 c1]) (by kernel_rfl) rfl rfl rfl ⟨by decide, rfl⟩ (fun w1 F1 st hs hl hq => cc_ok b pv _ hpv w1 F1 hs hl) ?_
  dsimp only [List.set]
  refine XK.nilN ?_
  refine XK.seq ?_

  refine XK.region ?_
  refine xk_move rfl (by decide) ?_
  refine xk_move rfl (by decide) ?_
  refine xk_nilC rfl (by decide) ?_
  refine xk_field (off := 1) (by kernel_rfl) rfl (by decide) ?_
  refine xk_ld rfl ?_
  refine xk_move rfl (by decide) ?_
  refine xk_slice (el := 5) (sz := 1) (zs := [.int .u8 0]) (by kernel_rfl) (zeroB_of (by kernel_rfl)) (by kernel_rfl) rfl (by decide) (by decide) rfl (by simp [fillL, setN, Value.cells, List.range_succ, List.set]; rfl) (by decide) fun g1 => ?_
  refine XK.take 2 0 rfl rfl ?_
  dsimp only [List.set]
  refine xk_appendT 0 1 1 1 (n' := n1 + 1) (el := 5) (by kernel_rfl) (by kernel_rfl) (by decide) rfl rfl rfl (sl_blk 1 rfl rfl) (by simp [Value.oneCell']) rfl (by omega) (by omega) (by decide) fun A2 c2 => ?_
  dsimp only [List.set]
  refine xk_nilC rfl (by decide) ?_
  refine xk_field (off := 1) (by kernel_rfl) rfl (by decide) ?_
  refine xk_st rfl rfl ?_; dsimp only [List.set]
  refine XK.nilN ?_
  refine XK.seq ?_

  refine XK.region ?_
  refine xk_assign rfl (by decide) ?_
  refine XK.nilN ?_
  refine XK.ret ?_
  refine XK.norm ?_
  refine XK.weak [0, 2, 3] rfl (by decide) (fun _ h => h) ?_
  refine XK.give 1 0 rfl rfl ?_
  dsimp only [List.set]
  refine XK.give 0 1 rfl rfl ?_
  dsimp only [List.set]
  rw [show Lib.byteCells l ++ [Value.int .u8 10] = Lib.byteCells (l ++ [10]) from by rw [Lib.byteCells_append]; rfl]
  refine XK.toEx 0 (f := fun x : BlX b (l ++ [10]) => x.hp) ⟨(.pointer (some ⟨b, 0, none⟩), A2, n1 + 1, c2), .inr rfl, by simp [hn1]⟩ rfl ?_
  exact XK.ret1 rfl rfl fun w1 st => ⟨rfl, st.turns hF (by simp [hp0]) (i := 0) rfl⟩

end Go.Proofs.YtgopaoidgcgalaaGreatDoor
/- package lines: words. -/
namespace Go.Proofs.YtgopaoidgcgalaaGreatDoor
set_option linter.all false
open Go.RowKit
def bAt (s : ByteArray) (i : Nat) : UInt8 := s[i]?.getD 0
theorem bAt_get {s : ByteArray} {i : Nat} (h : i < s.size) : s[i]? = some (bAt s i) := by rw [bAt, ByteArray.getElem?_lt' s i h]; rfl
theorem drop_bAt {s : ByteArray} {k : Nat} (h : k < s.size) : s.data.toList.drop k = bAt s k :: s.data.toList.drop (k + 1) := by
  have hl : k < s.data.toList.length := by simpa using h
  rw [List.drop_eq_getElem_cons hl, bAt, ByteArray.getElem?_lt' s k h]
  rfl
theorem drop_end {s : ByteArray} {k : Nat} (h : s.size ≤ k) : s.data.toList.drop k = [] := List.drop_eq_nil_of_le (by simpa using h)
/-- digits are read -/
def digL : List UInt8 → Nat → Option Nat
  | [], n => some n
  | b :: r, n => if b.toNat < 48 ∨ 57 < b.toNat then none else digL r (n * 10 + (b.toNat - 48))
def numBad (s : ByteArray) : Prop := s.size < 1 ∨ 15 < s.size ∨ (1 < s.size ∧ ((bAt s 0).toNat : Int) = 48)
instance (s : ByteArray) : Decidable (numBad s) := by unfold numBad; infer_instance
def numF (s : ByteArray) : Option Nat := if numBad s then none else digL s.data.toList 0
def numV (o : Option Nat) : Value := .tuple #[.int .u64 ((o.getD 0 : Nat) : Int), .bool o.isSome]
theorem digL_lt : ∀ (l : List UInt8) (n m : Nat), digL l n = some m → m < (n + 1) * 10 ^ l.length
  | [], n, m, h => by simp [digL] at h; simp; omega
  | b :: r, n, m, h => by
    unfold digL at h
    split at h
    · cases h
    · have := digL_lt r _ _ h
      have hp : 0 < 10 ^ r.length := Nat.pow_pos (by omega)
      rw [List.length_cons, Nat.pow_succ, Nat.mul_comm (10 ^ r.length) 10, ← Nat.mul_assoc]
      exact Nat.lt_of_lt_of_le this (Nat.mul_le_mul_right _ (by omega))
theorem numF_lt {s : ByteArray} {n : Nat} (h : numF s = some n) : n < 1000000000000000 := by
  unfold numF at h
  split at h
  · cases h
  · rename_i hb
    have := digL_lt _ _ _ h
    have hs : s.data.toList.length ≤ 15 := by
      have : s.data.toList.length = s.size := by simp
      rw [this]; unfold numBad at hb; omega
    have hp := Nat.pow_le_pow_right (n := 10) (by omega) hs
    omega

theorem number_ok (s : ByteArray) (hs : s.size < 4294967296) (w : World) :
    Calls Tryz.prog 13 #[.string s] w (Rt (numV (numF s)) w) := by
  refine XK.enter (vs := [.string s]) Tryz.func13 rfl Tryz.ntmps13 (by simp) ?_
  refine XK.seq ?_

  refine XK.region ?_
  refine xk_assign rfl (by decide) ?_
  refine xk_assign rfl (by decide) ?_
  refine XK.nilN ?_
  refine XK.seq ?_
  refine XK.cutB 23 (s.size < 1 ∨ 15 < s.size ∨ (1 < s.size ∧ ((bAt s 0).toNat : Int) = 48)) ?_ ?_
  · skip

    refine XK.region ?_
    refine xk_move rfl (by decide) ?_
    refine xk_lenS (by kernel_rfl) rfl (by decide) ?_
    refine xk_lss rfl rfl (by decide) ?_
    refine xk_move rfl (by decide) ?_
    (first | refine xk_split (t := 9) rfl (fun hg => ?_) (fun hg => ?_) | refine xk_splitB (t := 9) rfl (fun hg => ?_) (fun hg => ?_))
    ·
      refine xk_guardF rfl rfl rfl (by decide) ?_
      refine xk_guardF rfl rfl rfl (by decide) ?_
      refine xk_guardF rfl rfl rfl (by decide) ?_
      (first | refine xk_pickT rfl rfl (by decide) ?_ | refine xk_pickF rfl rfl (by decide) ?_)
      refine xk_move rfl (by decide) ?_
      refine xk_guardF rfl rfl rfl (by decide) ?_
      refine xk_guardF rfl rfl rfl (by decide) ?_
      refine xk_guardF rfl rfl rfl (by decide) ?_
      refine xk_guardF rfl rfl rfl (by decide) ?_
      refine xk_guardU rfl rfl (by decide) ?_
      refine xk_guardU rfl rfl (by decide) ?_
      refine xk_guardU rfl rfl (by decide) ?_
      refine xk_guardF rfl rfl rfl (by decide) ?_
      (first | refine xk_pickT rfl rfl (by decide) ?_ | refine xk_pickF rfl rfl (by decide) ?_)
      refine XK.nilN ?_
      exact XK.meetB (by repeat (first | exact trivial | refine ⟨rfl, ?_⟩)) (by first | (refine get_iff rfl ?_; omega) | (refine get_iff rfl ?_; simp_all; done) | (refine get_false rfl ?_; first | omega | (simp_all; done)) | (refine get_true rfl ?_; first | omega | (simp_all; done)) | (refine get_bool rfl ?_; simp_all; done) | (refine get_iff rfl ⟨fun hh => ?_, fun hh => ?_⟩ <;> first | omega | (simp_all; done) | (simp_all; omega)) | (exfalso; omega))
    ·
      refine xk_guardT rfl rfl ?_; refine xk_move rfl (by decide) ?_
      refine xk_guardT rfl rfl ?_; refine xk_lenS (by kernel_rfl) rfl (by decide) ?_
      refine xk_guardT rfl rfl ?_; refine xk_gtr rfl rfl (by decide) ?_
      (first | refine xk_pickT rfl rfl (by decide) ?_ | refine xk_pickF rfl rfl (by decide) ?_)
      refine xk_move rfl (by decide) ?_
      (first | refine xk_split (t := 14) rfl (fun hg => ?_) (fun hg => ?_) | refine xk_splitB (t := 14) rfl (fun hg => ?_) (fun hg => ?_))
      ·
        refine xk_guardF rfl rfl rfl (by decide) ?_
        refine xk_guardF rfl rfl rfl (by decide) ?_
        refine xk_guardF rfl rfl rfl (by decide) ?_
        refine xk_guardF rfl rfl rfl (by decide) ?_
        refine xk_guardU rfl rfl (by decide) ?_
        refine xk_guardU rfl rfl (by decide) ?_
        refine xk_guardU rfl rfl (by decide) ?_
        refine xk_guardF rfl rfl rfl (by decide) ?_
        (first | refine xk_pickT rfl rfl (by decide) ?_ | refine xk_pickF rfl rfl (by decide) ?_)
        refine XK.nilN ?_
        exact XK.meetB (by repeat (first | exact trivial | refine ⟨rfl, ?_⟩)) (by first | (refine get_iff rfl ?_; omega) | (refine get_iff rfl ?_; simp_all; done) | (refine get_false rfl ?_; first | omega | (simp_all; done)) | (refine get_true rfl ?_; first | omega | (simp_all; done)) | (refine get_bool rfl ?_; simp_all; done) | (refine get_iff rfl ⟨fun hh => ?_, fun hh => ?_⟩ <;> first | omega | (simp_all; done) | (simp_all; omega)) | (exfalso; omega))
      ·
        refine xk_guardT rfl rfl ?_; refine xk_move rfl (by decide) ?_
        refine xk_guardT rfl rfl ?_; refine xk_lenS (by kernel_rfl) rfl (by decide) ?_
        refine xk_guardT rfl rfl ?_; refine xk_gtr rfl rfl (by decide) ?_
        refine xk_guardT rfl rfl ?_; refine xk_move rfl (by decide) ?_
        (first | refine xk_split (t := 18) rfl (fun hg => ?_) (fun hg => ?_) | refine xk_splitB (t := 18) rfl (fun hg => ?_) (fun hg => ?_))
        ·
          refine xk_guardT rfl rfl ?_; refine xk_move rfl (by decide) ?_
          refine xk_guardT rfl rfl ?_; refine xk_byte 0 (by kernel_rfl) rfl rfl rfl (bAt_get (by omega)) (by decide) ?_
          refine xk_guardT rfl rfl ?_; refine xk_eql rfl rfl (by decide) ?_
          refine xk_guardT rfl rfl ?_; (first | refine xk_pickT rfl rfl (by decide) ?_ | refine xk_pickF rfl rfl (by decide) ?_)
          (first | refine xk_pickT rfl rfl (by decide) ?_ | refine xk_pickF rfl rfl (by decide) ?_)
          refine XK.nilN ?_
          exact XK.meetB (by repeat (first | exact trivial | refine ⟨rfl, ?_⟩)) (by first | (refine get_iff rfl ?_; omega) | (refine get_iff rfl ?_; simp_all; done) | (refine get_false rfl ?_; first | omega | (simp_all; done)) | (refine get_true rfl ?_; first | omega | (simp_all; done)) | (refine get_bool rfl ?_; simp_all; done) | (refine get_iff rfl ⟨fun hh => ?_, fun hh => ?_⟩ <;> first | omega | (simp_all; done) | (simp_all; omega)) | (exfalso; omega))
        ·
          refine xk_guardF rfl rfl rfl (by decide) ?_
          refine xk_guardF rfl rfl rfl (by decide) ?_
          refine xk_guardF rfl rfl rfl (by decide) ?_
          refine xk_guardT rfl rfl ?_; (first | refine xk_pickT rfl rfl (by decide) ?_ | refine xk_pickF rfl rfl (by decide) ?_)
          (first | refine xk_pickT rfl rfl (by decide) ?_ | refine xk_pickF rfl rfl (by decide) ?_)
          refine XK.nilN ?_
          exact XK.meetB (by repeat (first | exact trivial | refine ⟨rfl, ?_⟩)) (by first | (refine get_iff rfl ?_; omega) | (refine get_iff rfl ?_; simp_all; done) | (refine get_false rfl ?_; first | omega | (simp_all; done)) | (refine get_true rfl ?_; first | omega | (simp_all; done)) | (refine get_bool rfl ?_; simp_all; done) | (refine get_iff rfl ⟨fun hh => ?_, fun hh => ?_⟩ <;> first | omega | (simp_all; done) | (simp_all; omega)) | (exfalso; omega))
  refine XK.if_ rfl (fun hbad => ?_) (fun hbad => ?_)
  ·
    refine XK.seq ?_

    refine XK.region ?_
    refine xk_assign rfl (by decide) ?_
    refine xk_assign rfl (by decide) ?_
    refine XK.nilN ?_
    refine XK.ret ?_
    refine XK.norm ?_
    have hn : numF s = none := if_pos hbad
    exact XK.ret2 rfl rfl rfl fun w1 st => ⟨by rw [hn]; rfl, st.below (by simp)⟩
  ·
    refine XK.skip ?_
    refine XK.norm ?_
    refine XK.seq ?_

    refine XK.region ?_
    refine xk_assign rfl (by decide) ?_
    refine XK.nilN ?_
    refine XK.seq ?_
    refine XK.seq ?_

    refine XK.region ?_
    refine xk_assign rfl (by decide) ?_
    refine XK.nilN ?_
    refine XK.envS [(5, .int .i64 0), (4, .int .u64 0), (3, .bool false), (2, .int .u64 0), (0, .string s)] ?_
    refine XK.block ?_
    refine XK.loop (fun m e R H => ∃ (k n : Nat), k ≤ s.size ∧ n < 10 ^ k ∧ numF s = digL (s.data.toList.drop k) n ∧ m = s.size - k ∧ e = [(5, .int .i64 (k : Int)), (4, .int .u64 (n : Int)), (3, .bool false), (2, .int .u64 0), (0, .string s)] ∧ R = [all w] ∧ H = []) s.size ⟨0, 0, by omega, by omega, if_neg hbad, rfl, rfl, rfl, rfl⟩ fun m e R H hI => ?_
    obtain ⟨k, n, hk, hn, hnum, rfl, rfl, rfl, rfl⟩ := hI
    refine XK.seq ?_
    refine XK.seq ?_

    refine XK.region ?_
    refine xk_move rfl (by decide) ?_
    refine xk_move rfl (by decide) ?_
    refine xk_lenS (by kernel_rfl) rfl (by decide) ?_
    refine xk_lss rfl rfl (by decide) ?_
    refine XK.nilN ?_
    refine XK.if_ rfl (fun hlt => ?_) (fun hlt => ?_)
    have hks : k < s.size := by omega
    rw [drop_bAt hks, digL] at hnum
    have hsz : s.size ≤ 15 := by omega
    have hp1 := Nat.pow_le_pow_right (n := 10) (by omega) (show k ≤ 14 by omega)
    have hpk : 10 ^ (k + 1) = 10 ^ k * 10 := Nat.pow_succ 10 k
    ·
      refine XK.skip ?_
      refine XK.norm ?_
      refine XK.seq ?_
      refine XK.block ?_
      refine XK.seq ?_
      refine XK.cutB 39 ((bAt s k).toNat < 48 ∨ 57 < (bAt s k).toNat) ?_ ?_
      · skip

        refine XK.region ?_
        refine xk_move rfl (by decide) ?_
        refine xk_move rfl (by decide) ?_
        refine xk_byte k (by kernel_rfl) rfl rfl rfl (bAt_get hks) (by decide) ?_
        refine xk_lss rfl rfl (by decide) ?_
        refine xk_move rfl (by decide) ?_
        (first | refine xk_split (t := 34) rfl (fun hg => ?_) (fun hg => ?_) | refine xk_splitB (t := 34) rfl (fun hg => ?_) (fun hg => ?_))
        ·
          refine xk_guardF rfl rfl rfl (by decide) ?_
          refine xk_guardF rfl rfl rfl (by decide) ?_
          refine xk_guardF rfl rfl rfl (by decide) ?_
          refine xk_guardF rfl rfl rfl (by decide) ?_
          (first | refine xk_pickT rfl rfl (by decide) ?_ | refine xk_pickF rfl rfl (by decide) ?_)
          refine XK.nilN ?_
          exact XK.meetB (by repeat (first | exact trivial | refine ⟨rfl, ?_⟩)) (by first | (refine get_iff rfl ?_; omega) | (refine get_iff rfl ?_; simp_all; done) | (refine get_false rfl ?_; first | omega | (simp_all; done)) | (refine get_true rfl ?_; first | omega | (simp_all; done)) | (refine get_bool rfl ?_; simp_all; done) | (refine get_iff rfl ⟨fun hh => ?_, fun hh => ?_⟩ <;> first | omega | (simp_all; done) | (simp_all; omega)) | (exfalso; omega))
        ·
          refine xk_guardT rfl rfl ?_; refine xk_move rfl (by decide) ?_
          refine xk_guardT rfl rfl ?_; refine xk_move rfl (by decide) ?_
          refine xk_guardT rfl rfl ?_; refine xk_byte k (by kernel_rfl) rfl rfl rfl (bAt_get hks) (by decide) ?_
          refine xk_guardT rfl rfl ?_; refine xk_gtr rfl rfl (by decide) ?_
          (first | refine xk_pickT rfl rfl (by decide) ?_ | refine xk_pickF rfl rfl (by decide) ?_)
          refine XK.nilN ?_
          exact XK.meetB (by repeat (first | exact trivial | refine ⟨rfl, ?_⟩)) (by first | (refine get_iff rfl ?_; omega) | (refine get_iff rfl ?_; simp_all; done) | (refine get_false rfl ?_; first | omega | (simp_all; done)) | (refine get_true rfl ?_; first | omega | (simp_all; done)) | (refine get_bool rfl ?_; simp_all; done) | (refine get_iff rfl ⟨fun hh => ?_, fun hh => ?_⟩ <;> first | omega | (simp_all; done) | (simp_all; omega)) | (exfalso; omega))
      refine XK.if_ rfl (fun hb => ?_) (fun hb => ?_)
      ·
        refine XK.seq ?_

        refine XK.region ?_
        refine xk_assign rfl (by decide) ?_
        refine xk_assign rfl (by decide) ?_
        refine XK.nilN ?_
        refine XK.ret ?_
        refine XK.norm ?_
        rw [if_pos hb] at hnum
        exact XK.ret2 rfl rfl rfl fun w1 st => ⟨by rw [hnum]; rfl, st.below (by simp)⟩
      ·
        refine XK.skip ?_
        refine XK.norm ?_
        rw [if_neg hb] at hnum
        have hb8 : (bAt s k).toNat < 256 := (bAt s k).toNat_lt

        refine XK.region ?_
        refine xk_move rfl (by decide) ?_
        refine xk_mul rfl rfl (wrap_u64 (by omega)) (by decide) ?_
        refine xk_move rfl (by decide) ?_
        refine xk_move rfl (by decide) ?_
        refine xk_byte k (by kernel_rfl) rfl rfl rfl (bAt_get hks) (by decide) ?_
        refine xk_sub rfl rfl (wrap_u8 (by omega)) (by decide) ?_
        refine xk_conv (ds := .int .u8) (by kernel_rfl) (by kernel_rfl) rfl (wrap_u64 (by omega)) (by decide) ?_
        refine xk_add rfl rfl (wrap_u64 (by omega)) (by decide) ?_
        refine xk_assign rfl (by decide) ?_
        refine XK.nilN ?_

        refine XK.region ?_
        refine xk_move rfl (by decide) ?_
        refine xk_add rfl rfl (wrap_in (by omega)) (by decide) ?_
        refine xk_assign rfl (by decide) ?_
        refine XK.nilN ?_
        exact XK.env [(5, .int .i64 ((k + 1 : Nat) : Int)), (4, .int .u64 ((n * 10 + ((bAt s k).toNat - 48) : Nat) : Int)), (3, .bool false), (2, .int .u64 0), (0, .string s)] ⟨rfl, by rw [show ((n * 10 + ((bAt s k).toNat - 48) : Nat) : Int) = (n : Int) * 10 + (((bAt s k).toNat : Int) - 48) by omega]; rfl, rfl, rfl, rfl, trivial⟩ (XK.round _ (by omega) ⟨k + 1, _, by omega, by omega, hnum, rfl, rfl, rfl, rfl⟩)
    ·
      refine XK.exit ?_
      refine XK.norm ?_
      refine XK.seq ?_

      refine XK.region ?_
      refine xk_move rfl (by decide) ?_
      refine xk_assign rfl (by decide) ?_
      refine xk_assign rfl (by decide) ?_
      refine XK.nilN ?_
      refine XK.ret ?_
      refine XK.norm ?_
      have hke : s.size ≤ k := by omega
      rw [drop_end hke, digL] at hnum
      exact XK.ret2 rfl rfl rfl fun w1 st => ⟨by rw [hnum]; rfl, st.below (by simp)⟩

theorem must_x (p : Prop) [Decidable p] (w : World) :
    Calls Tryz.prog 76 #[.bool (decide p)] w (OutX (fun v _ _ => p ∧ v = .tuple #[]) (¬ p) w) := by
  refine XK.enter (vs := [.bool (decide p)]) Tryz.func76 rfl Tryz.ntmps76 (by simp) ?_
  refine XK.seq ?_

  refine XK.region ?_
  refine xk_move rfl (by decide) ?_
  (first | refine xk_notD rfl (by decide) ?_ | refine xk_not rfl (by decide) ?_)
  refine XK.nilN ?_
  refine XK.if_ rfl (fun h => ?_) (fun h => ?_)
  ·

    refine XK.region ?_
    refine xk_buildS (zs := []) (L := []) (zeroB_of (by kernel_rfl)) (by kernel_rfl) rfl (by simp [fillL, setN, Value.cells]; rfl) (by decide) ?_
    refine xk_iface (T := 59) (by kernel_rfl) rfl (by decide) ?_
    refine xk_panic rfl ?_
    (repeat (first | refine XK.thenP ?_ | refine XK.inP ?_))
    exact XK.retP fun w1 st => ⟨.inr ⟨h, _, _, rfl⟩, st.below (by simp)⟩
  ·
    refine XK.skip ?_
    refine XK.norm ?_
    exact XK.ret0 (.inr rfl) rfl fun w1 st => ⟨.inl ⟨_, rfl, by simpa using h, rfl⟩, st.below (by simp)⟩

theorem toInt_x (s : ByteArray) (hs : s.size < 4294967296) (w : World) :
    Calls Tryz.prog 77 #[.string s] w (OutX (fun v _ _ => ∃ n, numF s = some n ∧ v = .int .i64 (n : Int)) (numF s = none) w) := by
  refine XK.enter (vs := [.string s]) Tryz.func77 rfl Tryz.ntmps77 (by simp) ?_
  refine XK.seq ?_

  refine XK.region ?_
  refine xk_assign rfl (by decide) ?_
  refine XK.nilN ?_
  refine XK.seq ?_

  refine XK.region ?_
  refine xk_move rfl (by decide) ?_
  refine xk_callR (f := 13) (fi := []) (ca := []) (by kernel_rfl) rfl rfl (by decide) (fun w1 st => number_ok s hs w1) ?_
  dsimp only [numV]
  refine xk_move rfl (by decide) ?_
  refine xk_extract rfl rfl (by decide) ?_
  refine xk_extract rfl rfl (by decide) ?_
  refine xk_assign rfl (by decide) ?_
  refine xk_assign rfl (by decide) ?_
  refine XK.nilN ?_
  refine XK.seq ?_

  refine XK.region ?_
  refine xk_move rfl (by decide) ?_
  rw [show (numF s).isSome = decide ((numF s).isSome = true) by simp]
  refine xk_callXV (f := 76) (fi := []) (ca := []) (by kernel_rfl) rfl rfl (by decide) (fun v => ((numF s).isSome = true) ∧ v = .tuple #[]) (¬ ((numF s).isSome = true)) (fun w1 st => must_x ((numF s).isSome = true) w1) (fun hp T u => by
    (repeat (first | refine XK.thenP ?_ | refine XK.inP ?_))
    exact XK.retP fun w1 st => ⟨.inr ⟨by simpa using hp, T, u, rfl⟩, st.below (by simp)⟩) ?_
  rintro _ ⟨hm, rfl⟩
  obtain ⟨n, hn⟩ := Option.isSome_iff_exists.1 hm
  have hlt := numF_lt hn
  simp only [hn, Option.getD_some]
  refine XK.nilN ?_
  refine XK.seq ?_

  refine XK.region ?_
  refine xk_move rfl (by decide) ?_
  refine xk_conv (ds := .int .u64) (by kernel_rfl) (by kernel_rfl) rfl (wrap_in (by omega)) (by decide) ?_
  refine xk_assign rfl (by decide) ?_
  refine XK.nilN ?_
  refine XK.ret ?_
  refine XK.norm ?_
  exact XK.ret1 rfl rfl fun w1 st => ⟨.inl ⟨_, rfl, n, rfl, rfl⟩, st.below (by simp)⟩

def strCells (ws : List ByteArray) : List Value := ws.map .string
theorem strCells_len (ws : List ByteArray) : (strCells ws).length = ws.length := by simp [strCells]
theorem strCells_at {ws : List ByteArray} {i : Nat} {s : ByteArray} (h : ws[i]? = some s) : (strCells ws)[i]? = some (.string s) := by rw [strCells, List.getElem?_map, h]; rfl
def numsF : List ByteArray → Option (List Int)
  | [] => some []
  | s :: r => match numF s with
    | none => none
    | some n => (numsF r).map ((n : Int) :: ·)
theorem intCells_one (l : List Int) (n : Int) : intCells l ++ [.int .i64 n] = intCells (l ++ [n]) := by simp [intCells]
theorem drop_get {α : Type} {l : List α} {k : Nat} {s : α} (h : l[k]? = some s) : l.drop k = s :: l.drop (k + 1) := by
  obtain ⟨hk, he⟩ := List.getElem?_eq_some_iff.1 h
  rw [List.drop_eq_getElem_cons hk, he]
theorem numsF_len : ∀ (ws : List ByteArray) (l : List Int), numsF ws = some l → l.length = ws.length
  | [], l, h => by simp [numsF] at h; simp [← h]
  | s :: r, l, h => by
    unfold numsF at h
    split at h
    · cases h
    · rw [Option.map_eq_some_iff] at h
      obtain ⟨l1, h1, rfl⟩ := h
      simp [numsF_len r l1 h1]
theorem numsF_one (s : ByteArray) : numsF [s] = (numF s).map fun n => [(n : Int)] := by
  unfold numsF
  cases numF s with
  | none => rfl
  | some n => rfl
theorem toInts_x (ws : List ByteArray) (A : Option Addr) (n c : Nat) (w : World) (hS : SlS (all w) 1 A n (strCells ws)) (hn : ws.length = n) (hn63 : n ≤ 1000000) (hsz : ∀ s ∈ ws, s.size < 4294967296) :
    Calls Tryz.prog 79 #[.slice A n c] w (OutX (fun v w w' => ∃ l A' c', numsF ws = some l ∧ v = .slice A' l.length c' ∧ SlS (fresh w w') 1 A' l.length (intCells l)) (numsF ws = none) w) := by
  refine XK.enter (vs := [.slice A n c]) Tryz.func79 rfl Tryz.ntmps79 (by simp) ?_
  refine XK.seq ?_

  refine XK.region ?_
  refine xk_assign rfl (by decide) ?_
  refine XK.nilN ?_
  refine XK.seq ?_

  refine XK.region ?_
  refine xk_assign rfl (by decide) ?_
  refine XK.nilN ?_
  refine XK.seq ?_
  refine XK.seq ?_
  refine XK.nilrow 3 1 ?_

  refine XK.region ?_
  refine xk_move rfl (by decide) ?_
  refine xk_len (el := 9) (by kernel_rfl) rfl (by decide) ?_
  refine xk_move rfl (by decide) ?_
  refine XK.nilN ?_
  refine XK.envS [(8, .int .i64 0), (7, .int .i64 (n : Int)), (6, .slice A n c), (3, .slice none 0 0), (2, .slice none 0 0)] ?_
  refine XK.block ?_
  refine XK.loop (fun m e R H => ∃ (k : Nat) (l : List Int) (A1 : Option Addr) (c1 : Nat), k ≤ n ∧ l.length = k ∧ numsF ws = (numsF (ws.drop k)).map (l ++ ·) ∧ m = n - k ∧ e = [(8, .int .i64 (k : Int)), (7, .int .i64 (n : Int)), (6, .slice A n c), (3, .slice A1 k c1), (2, .slice none 0 0)] ∧ R = [all w] ∧ H = [HP.own 3 1 (.slice A1 k c1) k (intCells l)]) n ⟨0, [], none, 0, by omega, rfl, by simp, rfl, rfl, rfl, rfl⟩ fun m e R H hI => ?_
  obtain ⟨k, l, A1, c1, hk, hlk, hnum, rfl, rfl, rfl, rfl⟩ := hI
  refine XK.seq ?_

  refine XK.region ?_
  refine xk_lss rfl rfl (by decide) ?_
  refine XK.nilN ?_
  refine XK.seq ?_
  refine XK.if_ rfl (fun hlt => ?_) (fun hlt => ?_)
  ·
    refine XK.skip ?_
    refine XK.norm ?_
    refine XK.seq ?_
    refine XK.block ?_
    refine XK.seq ?_
    have hks : k < n := by omega
    obtain ⟨b, off, rfl, hz, hc⟩ := hS.2 (by omega)
    obtain ⟨s, hs⟩ : ∃ s, ws[k]? = some s := ⟨_, List.getElem?_eq_getElem (by omega)⟩
    have hss := hsz s (List.mem_of_getElem? hs)
    have hdr := drop_get hs
    rw [hdr, numsF] at hnum

    refine XK.region ?_
    refine xk_at (k) (off + k) (el := 9) (sz := 1) (by kernel_rfl) (by kernel_rfl) rfl rfl (by omega) (by omega) (by omega) (by decide) ?_
    refine xk_load (by kernel_rfl) rfl (Rd.ro (p := all w) (by simp) hz (hc k _ (strCells_at hs))) (by decide) ?_
    refine xk_assign rfl (by decide) ?_
    refine XK.nilN ?_

    refine XK.region ?_
    refine xk_move rfl (by decide) ?_
    refine xk_move rfl (by decide) ?_
    refine xk_callXV (f := 77) (fi := []) (ca := []) (by kernel_rfl) rfl rfl (by decide) (fun v => ∃ n, numF s = some n ∧ v = .int .i64 (n : Int)) (numF s = none) (fun w1 st => toInt_x s hss w1) (fun hp T u => by
      (repeat (first | refine XK.thenP ?_ | refine XK.inP ?_))
      exact XK.retP fun w1 st => ⟨.inr ⟨by rw [hnum, hp]; rfl, T, u, rfl⟩, st.below (by simp)⟩) ?_
    rintro _ ⟨nn, hn, rfl⟩
    rw [hn] at hnum
    refine xk_slice (el := 3) (sz := 1) (zs := [.int .i64 0]) (by kernel_rfl) (zeroB_of (by kernel_rfl)) (by kernel_rfl) rfl (by decide) (by decide) rfl (by simp [fillL, setN, Value.cells, List.range_succ, List.set]; rfl) (by decide) fun g1 => ?_
    refine xk_appendT 1 1 8 1 (n' := k + 1) (el := 3) (by kernel_rfl) (by kernel_rfl) (by decide) rfl rfl rfl (sl_blk 0 rfl rfl) (by simp [Value.oneCell']) rfl (by omega) (by omega) (by decide) fun A2 c2 => ?_
    dsimp only [List.set]
    rw [intCells_one]
    refine xk_assign rfl (by decide) ?_
    refine XK.nilN ?_

    refine XK.region ?_
    refine xk_add rfl rfl (wrap_in (by omega)) (by decide) ?_
    refine xk_move rfl (by decide) ?_
    refine XK.nilN ?_
    exact XK.weak [1] rfl (by decide) (by simp) (XK.envS [(8, .int .i64 ((k + 1 : Nat) : Int)), (7, .int .i64 (n : Int)), (6, .slice (some ⟨b, off, none⟩) n c), (3, .slice A2 (k + 1) c2), (2, .slice none 0 0)] (XK.round _ (by omega) ⟨k + 1, l ++ [(nn : Int)], A2, c2, by omega, by simp [hlk], by rw [hnum]; cases numsF (ws.drop (k + 1)) <;> simp, rfl, rfl, rfl, rfl⟩))
  ·
    refine XK.exit ?_
    refine XK.norm ?_
    refine XK.seq ?_

    refine XK.region ?_
    refine xk_move rfl (by decide) ?_
    refine xk_assign rfl (by decide) ?_
    refine XK.nilN ?_
    refine XK.ret ?_
    refine XK.norm ?_
    have hkn : k = n := by omega
    have hdn : ws.drop k = [] := List.drop_eq_nil_of_le (by omega)
    rw [hdn] at hnum
    refine XK.still [] [0] [] (by simp) rfl (by decide) (by decide) fun q hq _ hfr => ?_
    exact XK.ret1 rfl rfl fun w1 st => ⟨.inl ⟨_, rfl, l, A1, c1, by rw [hnum]; simp [numsF], by rw [hlk], by
      have h := SlS.own (hq 0 _ (by simp) rfl)
      rw [← hlk] at h
      exact SlS.le h (st.fresh_le (by simp) (hfr (by simp) (by simp)))⟩, st.below (by simp)⟩

def w32F (s : ByteArray) : Option Nat := match numF s with
  | none => none
  | some n => if n ≤ 4294967295 then some n else none
theorem toWord32_x (s : ByteArray) (hs : s.size < 4294967296) (w : World) :
    Calls Tryz.prog 80 #[.string s] w (OutX (fun v _ _ => ∃ n : Nat, w32F s = some n ∧ v = .int .u32 (n : Int)) (w32F s = none) w) := by
  refine XK.enter (vs := [.string s]) Tryz.func80 rfl Tryz.ntmps80 (by simp) ?_
  refine XK.seq ?_

  refine XK.region ?_
  refine xk_assign rfl (by decide) ?_
  refine XK.nilN ?_
  refine XK.seq ?_

  refine XK.region ?_
  refine xk_move rfl (by decide) ?_
  refine xk_callR (f := 13) (fi := []) (ca := []) (by kernel_rfl) rfl rfl (by decide) (fun w1 st => number_ok s hs w1) ?_
  dsimp only [numV]
  refine xk_move rfl (by decide) ?_
  refine xk_extract rfl rfl (by decide) ?_
  refine xk_extract rfl rfl (by decide) ?_
  refine xk_assign rfl (by decide) ?_
  refine xk_assign rfl (by decide) ?_
  refine XK.nilN ?_
  refine XK.seq ?_

  refine XK.region ?_
  refine xk_move rfl (by decide) ?_
  refine xk_move rfl (by decide) ?_
  (first | refine xk_split (t := 11) rfl (fun hg => ?_) (fun hg => ?_) | refine xk_splitB (t := 11) rfl (fun hg => ?_) (fun hg => ?_))
  ·
    obtain ⟨n, hn⟩ := Option.isSome_iff_exists.1 hg
    have hlt := numF_lt hn
    simp only [hn, Option.getD_some]
    refine xk_guardT rfl rfl ?_; refine xk_move rfl (by decide) ?_
    refine xk_guardT rfl rfl ?_; refine xk_leq rfl rfl (by decide) ?_
    (first | refine xk_pickT rfl rfl (by decide) ?_ | refine xk_pickF rfl rfl (by decide) ?_)
    refine xk_callXV (f := 76) (fi := []) (ca := []) (by kernel_rfl) rfl rfl (by decide) (fun v => ((n : Int) ≤ 4294967295) ∧ v = .tuple #[]) (¬ ((n : Int) ≤ 4294967295)) (fun w1 st => must_x ((n : Int) ≤ 4294967295) w1) (fun hp T u => by
      (repeat (first | refine XK.thenP ?_ | refine XK.inP ?_))
      exact XK.retP fun w1 st => ⟨.inr ⟨by rw [w32F, hn]; dsimp only; rw [if_neg (by omega)], T, u, rfl⟩, st.below (by simp)⟩) ?_
    rintro _ ⟨hm, rfl⟩
    refine XK.nilN ?_
    refine XK.seq ?_

    refine XK.region ?_
    refine xk_move rfl (by decide) ?_
    refine xk_conv (ds := .int .u64) (by kernel_rfl) (by kernel_rfl) rfl (wrap_u32 (by omega)) (by decide) ?_
    refine xk_assign rfl (by decide) ?_
    refine XK.nilN ?_
    refine XK.ret ?_
    refine XK.norm ?_
    exact XK.ret1 rfl rfl fun w1 st => ⟨.inl ⟨_, rfl, n, by rw [w32F, hn]; dsimp only; rw [if_pos (by omega)], rfl⟩, st.below (by simp)⟩
  ·
    refine xk_guardF rfl rfl rfl (by decide) ?_
    refine xk_guardF rfl rfl rfl (by decide) ?_
    (first | refine xk_pickT rfl rfl (by decide) ?_ | refine xk_pickF rfl rfl (by decide) ?_)
    refine xk_callXV (f := 76) (fi := []) (ca := []) (by kernel_rfl) rfl rfl (by decide) (fun v => (False) ∧ v = .tuple #[]) (¬ (False)) (fun w1 st => must_x (False) w1) (fun hp T u => by
      (repeat (first | refine XK.thenP ?_ | refine XK.inP ?_))
      exact XK.retP fun w1 st => ⟨.inr ⟨by rw [w32F]; cases hh : numF s with | none => rfl | some n => (rw [hh] at hg; cases hg), T, u, rfl⟩, st.below (by simp)⟩) ?_
    rintro _ ⟨hm, rfl⟩
    exact hm.elim

def keepS : ByteArray := ⟨#[107, 101, 101, 112]⟩
def loseS : ByteArray := ⟨#[108, 111, 115, 101]⟩
def keptF (s : ByteArray) : Option Bool := if s = keepS then some true else if s = loseS then some false else none
theorem toKept_x (s : ByteArray) (w : World) :
    Calls Tryz.prog 78 #[.string s] w (OutX (fun v _ _ => ∃ b : Bool, keptF s = some b ∧ v = .bool b) (keptF s = none) w) := by
  refine XK.enter (vs := [.string s]) Tryz.func78 rfl Tryz.ntmps78 (by simp) ?_
  refine XK.seq ?_

  refine XK.region ?_
  refine xk_assign rfl (by decide) ?_
  refine XK.nilN ?_
  refine XK.seq ?_

  refine XK.region ?_
  refine xk_move rfl (by decide) ?_
  refine xk_eqlStr (by kernel_rfl) rfl rfl (by decide) ?_
  refine xk_move rfl (by decide) ?_
  refine xk_split (t := 5) (p := s = keepS) rfl (fun hg => ?_) (fun hg => ?_)
  ·
    refine xk_guardF rfl rfl rfl (by decide) ?_
    refine xk_guardF rfl rfl rfl (by decide) ?_
    (first | refine xk_pickT rfl rfl (by decide) ?_ | refine xk_pickF rfl rfl (by decide) ?_)
    refine xk_callXV (f := 76) (fi := []) (ca := []) (by kernel_rfl) rfl rfl (by decide) (fun v => (True) ∧ v = .tuple #[]) (¬ (True)) (fun w1 st => must_x (True) w1) (fun hp T u => by
      (repeat (first | refine XK.thenP ?_ | refine XK.inP ?_))
      exact XK.retP fun w1 st => absurd trivial hp) ?_
    rintro _ ⟨hm, rfl⟩
    refine XK.nilN ?_
    refine XK.seq ?_

    refine XK.region ?_
    refine xk_move rfl (by decide) ?_
    refine xk_eqlStr (by kernel_rfl) rfl rfl (by decide) ?_
    refine xk_assign rfl (by decide) ?_
    refine XK.nilN ?_
    refine XK.ret ?_
    refine XK.norm ?_
    exact XK.ret1 rfl rfl fun w1 st => ⟨.inl ⟨_, rfl, true, by rw [keptF, if_pos hg], congrArg Value.bool (decide_eq_true hg)⟩, st.below (by simp)⟩
  ·
    refine xk_guardT rfl rfl ?_; refine xk_move rfl (by decide) ?_
    refine xk_guardT rfl rfl ?_; refine xk_eqlStr (by kernel_rfl) rfl rfl (by decide) ?_
    (first | refine xk_pickT rfl rfl (by decide) ?_ | refine xk_pickF rfl rfl (by decide) ?_)
    refine xk_callXV (f := 76) (fi := []) (ca := []) (by kernel_rfl) rfl rfl (by decide) (fun v => (s = loseS) ∧ v = .tuple #[]) (¬ (s = loseS)) (fun w1 st => must_x (s = loseS) w1) (fun hp T u => by
      (repeat (first | refine XK.thenP ?_ | refine XK.inP ?_))
      exact XK.retP fun w1 st => ⟨.inr ⟨by rw [keptF, if_neg hg, if_neg hp], T, u, rfl⟩, st.below (by simp)⟩) ?_
    rintro _ ⟨hm, rfl⟩
    refine XK.nilN ?_
    refine XK.seq ?_

    refine XK.region ?_
    refine xk_move rfl (by decide) ?_
    refine xk_eqlStr (by kernel_rfl) rfl rfl (by decide) ?_
    refine xk_assign rfl (by decide) ?_
    refine XK.nilN ?_
    refine XK.ret ?_
    refine XK.norm ?_
    exact XK.ret1 rfl rfl fun w1 st => ⟨.inl ⟨_, rfl, false, by rw [keptF, if_neg hg, if_pos hm], congrArg Value.bool (decide_eq_false hg)⟩, st.below (by simp)⟩

end Go.Proofs.YtgopaoidgcgalaaGreatDoor
/- package lines: a clock's words. -/
namespace Go.Proofs.YtgopaoidgcgalaaGreatDoor
set_option linter.all false
open Go.RowKit
def clockN (kd : Nat) : Option (List Int) → Option Clk
  | none => none
  | some l => if kd = 111 then (match l with | [a] => some ⟨111, [], a, 0, 0, 0⟩ | _ => none)
    else if kd = 112 then (match l with | [a, b, c, d] => some ⟨112, [a], 0, b, c, d⟩ | _ => none)
    else if kd = 109 then some ⟨109, l, 0, 0, 0, 0⟩
    else if kd = 100 then (match l with | [a, b] => some ⟨100, [a], 0, 0, b, 0⟩ | _ => none)
    else if kd = 103 then (match l with | [a] => some ⟨103, [a], 0, 0, 0, 0⟩ | _ => none) else none
/-- what the words behind 'clock' say -/
def clockF : List ByteArray → Option Clk
  | [] => none
  | k :: r => if k.size = 1 ∧ 1 ≤ r.length then clockN (bAt k 0).toNat (numsF r) else none
theorem len1 {α : Type} {l : List α} (h : l.length = 1) : ∃ a, l = [a] := by
  match l, h with
  | [a], _ => exact ⟨a, rfl⟩
theorem len2 {α : Type} {l : List α} (h : l.length = 2) : ∃ a b, l = [a, b] := by
  match l, h with
  | [a, b], _ => exact ⟨a, b, rfl⟩
theorem len3 {α : Type} {l : List α} (h : l.length = 3) : ∃ a b c, l = [a, b, c] := by
  match l, h with
  | [a, b, c], _ => exact ⟨a, b, c, rfl⟩
theorem len4 {α : Type} {l : List α} (h : l.length = 4) : ∃ a b c d, l = [a, b, c, d] := by
  match l, h with
  | [a, b, c, d], _ => exact ⟨a, b, c, d, rfl⟩
theorem clockN_o {r : List ByteArray} (h : r.length ≠ 1) : clockN 111 (numsF r) = none := by
  cases hn : numsF r with
  | none => rfl
  | some l =>
    have := numsF_len r l hn
    match l, this with
    | [], _ => rfl
    | [a], h1 => simp at h1; omega
    | a :: b :: l, _ => rfl
theorem clockN_p {r : List ByteArray} (h : r.length ≠ 4) : clockN 112 (numsF r) = none := by
  cases hn : numsF r with
  | none => rfl
  | some l =>
    have := numsF_len r l hn
    match l, this with
    | [], _ => rfl
    | [a], _ => rfl
    | [a, b], _ => rfl
    | [a, b, c], _ => rfl
    | [a, b, c, d], h1 => simp at h1; omega
    | a :: b :: c :: d :: x :: l, _ => rfl
theorem clockN_d {r : List ByteArray} (h : r.length ≠ 2) : clockN 100 (numsF r) = none := by
  cases hn : numsF r with
  | none => rfl
  | some l =>
    have := numsF_len r l hn
    match l, this with
    | [], _ => rfl
    | [a], _ => rfl
    | [a, b], h1 => simp at h1; omega
    | a :: b :: c :: l, _ => rfl
theorem clockN_g {r : List ByteArray} (h : r.length ≠ 1) : clockN 103 (numsF r) = none := by
  cases hn : numsF r with
  | none => rfl
  | some l =>
    have := numsF_len r l hn
    match l, this with
    | [], _ => rfl
    | [a], h1 => simp at h1; omega
    | a :: b :: l, _ => rfl
theorem SlS.dropP {p : Piece} {sz n k : Nat} {A A' : Option Addr} {xs : List Value} (h : SlS p sz A n xs) (hk : k ≤ n) (hA : k < n → ∀ b off, A = some ⟨b, off, none⟩ → A' = some ⟨b, off + k * sz, none⟩) : SlS p sz A' (n - k) (xs.drop (k * sz)) := by
  refine ⟨by rw [List.length_drop, h.1, Nat.sub_mul], fun h0 => ?_⟩
  obtain ⟨b, off, hA2, hz, hc⟩ := h.2 (by omega)
  refine ⟨b, off + k * sz, hA (by omega) b off hA2, hz, fun j u hu => ?_⟩
  rw [List.getElem?_drop] at hu
  rw [Nat.add_assoc]
  exact hc _ u hu
theorem strCells_drop (ws : List ByteArray) (k : Nat) : (strCells ws).drop (k * 1) = strCells (ws.drop k) := by simp [strCells, List.map_drop]
theorem strCells_take (ws : List ByteArray) (k : Nat) : (strCells ws).take (k * 1) = strCells (ws.take k) := by simp [strCells, List.map_take]
theorem HP.blk_sls {q : Piece} {t : TypeId} {g sz n : Nat} {xs : List Value} (h : ∃ F, (HP.blk g t xs).sat F q.w ∧ ∀ b, F b → q.Z b) (hn : xs.length = n * sz) : SlS q sz (some ⟨g, 0, none⟩) n xs := by
  obtain ⟨F, h1, h2⟩ := h
  exact SlS.of_blk (Y := q.Z) (w := q.w) (c := 0) h1 h2 hn

theorem toClock_x (ws : List ByteArray) (A : Option Addr) (n c : Nat) (w : World) (hS : SlS (all w) 1 A n (strCells ws)) (hn : ws.length = n) (hnc : n ≤ c) (hn63 : n ≤ 1000000) (hsz : ∀ s ∈ ws, s.size < 4294967296) :
    Calls Tryz.prog 75 #[.slice A n c] w (OutX (fun v w w' => ∃ (cl : Clk) (A' : Option Addr) (c' : Nat), clockF ws = some cl ∧ v = .agg #[.int .u8 cl.kind, .slice A' cl.src.length c', .int .u64 cl.rate, .int .i64 cl.mul, .int .i64 cl.div, .int .i64 cl.lock] ∧ SlS (fresh w w') 1 A' cl.src.length (intCells cl.src)) (clockF ws = none) w) := by
  refine XK.enter (vs := [.slice A n c]) Tryz.func75 rfl Tryz.ntmps75 (by simp) ?_
  refine XK.seq ?_

  refine XK.region ?_
  refine xk_alloc (cs := [.int .u8 0, .slice none 0 0, .int .u64 0, .int .i64 0, .int .i64 0, .int .i64 0]) (zeroB_of (by kernel_rfl)) (by decide) fun g1 => ?_
  refine XK.nilN ?_
  refine XK.cut (fun e R H => ∃ (k0 : ByteArray) (r : List ByteArray), ws = k0 :: r ∧ k0.size = 1 ∧ 1 ≤ r.length ∧ e = [(2, .pointer (some ⟨g1, 0, none⟩)), (0, .slice A n c)] ∧ R = [all w] ∧ H = [HP.blk g1 55 [.int .u8 0, .slice none 0 0, .int .u64 0, .int .i64 0, .int .i64 0, .int .i64 0]]) ?_ ?_
  ·

    refine XK.region ?_
    refine xk_move rfl (by decide) ?_
    refine xk_len (el := 9) (by kernel_rfl) rfl (by decide) ?_
    refine xk_geq rfl rfl (by decide) ?_
    refine xk_move rfl (by decide) ?_
    (first | refine xk_split (t := 11) rfl (fun hg => ?_) (fun hg => ?_) | refine xk_splitB (t := 11) rfl (fun hg => ?_) (fun hg => ?_))
    ·
      obtain ⟨b0, off, rfl, hz, hc⟩ := hS.2 (by omega)
      obtain ⟨k0, r, rfl⟩ : ∃ k0 r, ws = k0 :: r := by
        cases ws with
        | nil => simp at hn; omega
        | cons k0 r => exact ⟨k0, r, rfl⟩
      have hrl : 1 ≤ r.length := by simp at hn; omega
      refine xk_guardT rfl rfl ?_; refine xk_move rfl (by decide) ?_
      refine xk_guardT rfl rfl ?_; refine xk_at 0 (off + 0) (el := 9) (sz := 1) (by kernel_rfl) (by kernel_rfl) rfl rfl (by rfl) (by omega) (by omega) (by decide) ?_
      refine xk_guardT rfl rfl ?_; refine xk_load (by kernel_rfl) rfl (Rd.ro (p := all w) (by simp) hz (hc 0 _ rfl)) (by decide) ?_
      refine xk_guardT rfl rfl ?_; refine xk_lenS (by kernel_rfl) rfl (by decide) ?_
      refine xk_guardT rfl rfl ?_; refine xk_eql rfl rfl (by decide) ?_
      (first | refine xk_pickT rfl rfl (by decide) ?_ | refine xk_pickF rfl rfl (by decide) ?_)
      refine xk_callXV (f := 76) (fi := []) (ca := []) (by kernel_rfl) rfl rfl (by decide) (fun v => ((k0.size : Int) = 1) ∧ v = .tuple #[]) (¬ ((k0.size : Int) = 1)) (fun w1 st => must_x ((k0.size : Int) = 1) w1) (fun hp T u => by
        (repeat (first | refine XK.thenP ?_ | refine XK.inP ?_))
        exact XK.retP fun w1 st => ⟨.inr ⟨if_neg (by omega), T, u, rfl⟩, st.below (by simp)⟩) ?_
      rintro _ ⟨hm, rfl⟩
      refine XK.nilN ?_
      exact XK.envS [(2, .pointer (some ⟨g1, 0, none⟩)), (0, .slice (some ⟨b0, off, none⟩) n c)] (XK.meet ⟨k0, r, rfl, by omega, hrl, rfl, rfl, rfl⟩)
    ·
      refine xk_guardF rfl rfl rfl (by decide) ?_
      refine xk_guardF rfl rfl rfl (by decide) ?_
      refine xk_guardF rfl rfl rfl (by decide) ?_
      refine xk_guardF rfl rfl rfl (by decide) ?_
      refine xk_guardF rfl rfl rfl (by decide) ?_
      (first | refine xk_pickT rfl rfl (by decide) ?_ | refine xk_pickF rfl rfl (by decide) ?_)
      refine xk_callXV (f := 76) (fi := []) (ca := []) (by kernel_rfl) rfl rfl (by decide) (fun v => (False) ∧ v = .tuple #[]) (¬ (False)) (fun w1 st => must_x (False) w1) (fun hp T u => by
        (repeat (first | refine XK.thenP ?_ | refine XK.inP ?_))
        exact XK.retP fun w1 st => ⟨.inr ⟨(by
          have h2 : ¬ 2 ≤ ws.length := by omega
          match ws, h2 with
          | [], _ => rfl
          | [k0], _ => exact if_neg (by simp)
          | k0 :: k1 :: r, h2 => simp at h2), T, u, rfl⟩, st.below (by simp)⟩) ?_
      rintro _ ⟨hm, rfl⟩
      exact hm.elim

  rintro _ _ _ ⟨k0, r, rfl, hk0, hrl, rfl, rfl, rfl⟩
  obtain ⟨b0, off, rfl, hz, hc⟩ := hS.2 (by simp at hn; omega)
  have hnr : n = r.length + 1 := by simp at hn; omega
  have hcF : clockF (k0 :: r) = clockN (bAt k0 0).toNat (numsF r) := if_pos ⟨hk0, hrl⟩
  have hsr : ∀ s ∈ r, s.size < 4294967296 := fun s hs => hsz s (by simp [hs])
  refine XK.seq ?_

  refine XK.region ?_
  refine xk_move rfl (by decide) ?_
  refine xk_at 0 (off + 0) (el := 9) (sz := 1) (by kernel_rfl) (by kernel_rfl) rfl rfl (by rfl) (by omega) (by omega) (by decide) ?_
  refine xk_load (by kernel_rfl) rfl (Rd.ro (p := all w) (by simp) hz (hc 0 _ rfl)) (by decide) ?_
  refine xk_byte 0 (by kernel_rfl) rfl rfl rfl (bAt_get (by omega)) (by decide) ?_
  refine xk_buildS (zs := [.int .u8 0, .slice none 0 0, .int .u64 0, .int .i64 0, .int .i64 0, .int .i64 0]) (L := [(0, 1), (1, 1), (2, 1), (3, 1), (4, 1), (5, 1)]) (zeroB_of (by kernel_rfl)) (by kernel_rfl) rfl (by simp [fillL, setN, Value.cells]; rfl) (by decide) ?_
  refine xk_alloc (cs := [.int .u8 0, .slice none 0 0, .int .u64 0, .int .i64 0, .int .i64 0, .int .i64 0]) (zeroB_of (by kernel_rfl)) (by decide) fun g2 => ?_
  (first | (refine xk_storeN 0 rfl rfl rfl (by kernel_rfl) (by simp [Value.cells, Value.oneCell']) (by simp [Value.cells]) ?_) | (refine xk_storeN 1 rfl rfl rfl (by kernel_rfl) (by simp [Value.cells, Value.oneCell']) (by simp [Value.cells]) ?_) | (refine xk_storeN 2 rfl rfl rfl (by kernel_rfl) (by simp [Value.cells, Value.oneCell']) (by simp [Value.cells]) ?_) | (refine xk_storeN 3 rfl rfl rfl (by kernel_rfl) (by simp [Value.cells, Value.oneCell']) (by simp [Value.cells]) ?_) | (refine xk_storeN 4 rfl rfl rfl (by kernel_rfl) (by simp [Value.cells, Value.oneCell']) (by simp [Value.cells]) ?_) | (refine xk_storeN 5 rfl rfl rfl (by kernel_rfl) (by simp [Value.cells, Value.oneCell']) (by simp [Value.cells]) ?_) | (refine xk_storeN 6 rfl rfl rfl (by kernel_rfl) (by simp [Value.cells, Value.oneCell']) (by simp [Value.cells]) ?_) | (refine xk_storeN 7 rfl rfl rfl (by kernel_rfl) (by simp [Value.cells, Value.oneCell']) (by simp [Value.cells]) ?_) | (refine xk_storeN 8 rfl rfl rfl (by kernel_rfl) (by simp [Value.cells, Value.oneCell']) (by simp [Value.cells]) ?_)); simp only [putN, Value.cells, List.set, List.take, List.drop, List.nil_append, List.append_nil, List.length_cons, List.length_nil, List.cons_append, Nat.reduceAdd]
  refine XK.nilN ?_
  refine XK.seq ?_

  refine XK.region ?_
  refine xk_move rfl (by decide) ?_
  refine xk_sliceL 1 (el := 9) (sz := 1) (by kernel_rfl) (by kernel_rfl) rfl rfl rfl (by omega) hnc (by decide) fun A2 hA2 => ?_
  have hS2 : SlS (all w) 1 A2 (n - 1) (strCells r) := by
    have h := SlS.dropP (k := 1) hS (by omega) hA2
    rw [strCells_drop] at h
    exact h
  rw [show n - 1 = r.length by omega] at hS2 ⊢
  generalize hkd : bAt k0 0 = kd at hcF ⊢
  refine xk_assign rfl (by decide) ?_
  refine XK.nilN ?_
  refine XK.envS [(3, .pointer (some ⟨g2, 0, none⟩)), (2, .pointer (some ⟨g1, 0, none⟩)), (0, .slice A2 r.length (c - 1))] ?_
  refine XK.cut (fun e R H => ∃ (cl : Clk) (Af : Option Addr) (cf : Nat) (q : Piece), clockF (k0 :: r) = some cl ∧ Fresh w q ∧ SlS q 1 Af cl.src.length (intCells cl.src) ∧ e = [(3, .pointer (some ⟨g2, 0, none⟩)), (2, .pointer (some ⟨g1, 0, none⟩))] ∧ R = [q, all w] ∧ H = [HP.blk g2 55 [.int .u8 cl.kind, .slice Af cl.src.length cf, .int .u64 cl.rate, .int .i64 cl.mul, .int .i64 cl.div, .int .i64 cl.lock], HP.blk g1 55 [.int .u8 0, .slice none 0 0, .int .u64 0, .int .i64 0, .int .i64 0, .int .i64 0]]) ?_ ?_
  ·
    refine XK.seq ?_

    refine XK.region ?_
    refine xk_field (off := 0) (by kernel_rfl) rfl (by decide) ?_
    refine xk_ld rfl ?_
    refine XK.nilN ?_
    refine XK.block ?_
    refine XK.seq ?_

    refine XK.region ?_
    refine xk_eql rfl rfl (by decide) ?_
    refine xk_assign rfl (by decide) ?_
    refine XK.nilN ?_
    refine XK.if_ rfl (fun ho => ?_) (fun ho => ?_)
    ·
      have hk8 : kd.toNat = 111 := by omega
      rw [hk8] at hcF ⊢
      refine XK.seq ?_

      refine XK.region ?_
      refine xk_move rfl (by decide) ?_
      refine xk_len (el := 9) (by kernel_rfl) rfl (by decide) ?_
      refine xk_eql rfl rfl (by decide) ?_
      refine xk_callXV (f := 76) (fi := []) (ca := []) (by kernel_rfl) rfl rfl (by decide) (fun v => ((r.length : Int) = 1) ∧ v = .tuple #[]) (¬ ((r.length : Int) = 1)) (fun w1 st => must_x ((r.length : Int) = 1) w1) (fun hp T u => by
        (repeat (first | refine XK.thenP ?_ | refine XK.inP ?_))
        exact XK.retP fun w1 st => ⟨.inr ⟨hcF.trans (clockN_o (by omega)), T, u, rfl⟩, st.below (by simp)⟩) ?_
      rintro _ ⟨hm, rfl⟩
      obtain ⟨s1, rfl⟩ := len1 (show r.length = 1 by omega)
      obtain ⟨b2, off2, rfl, hz2, hc2⟩ := hS2.2 (by simp)
      refine XK.nilN ?_
      refine XK.seq ?_

      refine XK.region ?_
      refine xk_move rfl (by decide) ?_
      refine xk_at 0 (off2 + 0) (el := 9) (sz := 1) (by kernel_rfl) (by kernel_rfl) rfl rfl (by rfl) (by omega) (by omega) (by decide) ?_
      refine xk_load (by kernel_rfl) rfl (Rd.ro (p := all w) (by simp) hz2 (hc2 0 _ rfl)) (by decide) ?_
      refine xk_callR (f := 13) (fi := []) (ca := []) (by kernel_rfl) rfl rfl (by decide) (fun w1 st => number_ok s1 (hsr s1 (by simp)) w1) ?_
      dsimp only [numV]
      refine xk_move rfl (by decide) ?_
      refine xk_extract rfl rfl (by decide) ?_
      refine xk_extract rfl rfl (by decide) ?_
      refine xk_assign rfl (by decide) ?_
      refine xk_assign rfl (by decide) ?_
      refine XK.nilN ?_
      refine XK.seq ?_

      refine XK.region ?_
      refine xk_move rfl (by decide) ?_
      rw [show (numF s1).isSome = decide ((numF s1).isSome = true) by simp]
      refine xk_callXV (f := 76) (fi := []) (ca := []) (by kernel_rfl) rfl rfl (by decide) (fun v => ((numF s1).isSome = true) ∧ v = .tuple #[]) (¬ ((numF s1).isSome = true)) (fun w1 st => must_x ((numF s1).isSome = true) w1) (fun hp T u => by
        (repeat (first | refine XK.thenP ?_ | refine XK.inP ?_))
        exact XK.retP fun w1 st => ⟨.inr ⟨(hcF.trans (by rw [numsF_one]; cases hh : numF s1 with | none => rfl | some n => (rw [hh] at hp; exact absurd rfl hp))), T, u, rfl⟩, st.below (by simp)⟩) ?_
      rintro _ ⟨hm, rfl⟩
      obtain ⟨nn, hnn⟩ := Option.isSome_iff_exists.1 hm
      rw [numsF_one, hnn] at hcF
      simp only [hnn, Option.getD_some]
      refine XK.nilN ?_

      refine XK.region ?_
      refine xk_move rfl (by decide) ?_
      refine xk_field (off := 2) (by kernel_rfl) rfl (by decide) ?_
      refine xk_st rfl rfl ?_; dsimp only [List.set]
      refine XK.nilN ?_
      refine XK.still [] [] [0, 1] (by simp) rfl (by decide) (by decide) fun q _ _ hfr => ?_
      exact XK.envS [(3, .pointer (some ⟨g2, 0, none⟩)), (2, .pointer (some ⟨g1, 0, none⟩))] (XK.meet ⟨⟨111, [], nn, 0, 0, 0⟩, none, 0, q, hcF, hfr (by simp) (by simp), SlS.nil _ _, rfl, rfl, rfl⟩)
    ·
      refine XK.seq ?_

      refine XK.region ?_
      refine xk_eql rfl rfl (by decide) ?_
      refine xk_assign rfl (by decide) ?_
      refine XK.nilN ?_
      refine XK.if_ rfl (fun hp_ => ?_) (fun hp_ => ?_)
      ·
        have hk8 : kd.toNat = 112 := by omega
        rw [hk8] at hcF ⊢
        refine XK.seq ?_

        refine XK.region ?_
        refine xk_move rfl (by decide) ?_
        refine xk_len (el := 9) (by kernel_rfl) rfl (by decide) ?_
        refine xk_eql rfl rfl (by decide) ?_
        refine xk_callXV (f := 76) (fi := []) (ca := []) (by kernel_rfl) rfl rfl (by decide) (fun v => ((r.length : Int) = 4) ∧ v = .tuple #[]) (¬ ((r.length : Int) = 4)) (fun w1 st => must_x ((r.length : Int) = 4) w1) (fun hp T u => by
          (repeat (first | refine XK.thenP ?_ | refine XK.inP ?_))
          exact XK.retP fun w1 st => ⟨.inr ⟨hcF.trans (clockN_p (by omega)), T, u, rfl⟩, st.below (by simp)⟩) ?_
        rintro _ ⟨hm, rfl⟩
        refine XK.nilN ?_
        refine XK.seq ?_

        refine XK.region ?_
        refine xk_move rfl (by decide) ?_
        refine xk_callX [] (f := 79) (fi := []) (ca := []) (by kernel_rfl) rfl rfl (by decide) (by simp) (fun v w w' => ∃ l A' c', numsF r = some l ∧ v = .slice A' l.length c' ∧ SlS (fresh w w') 1 A' l.length (intCells l)) (numsF r = none) (fun w1 st => toInts_x r A2 r.length (c - 1) w1 (hS2.le (all_le (st.started (by simp)))) rfl (by omega) hsr) (fun hp T u => by
          (repeat (first | refine XK.thenP ?_ | refine XK.inP ?_))
          exact XK.retP fun w1 st => ⟨.inr ⟨hcF.trans (by rw [hp]; rfl), T, u, rfl⟩, st.below (by simp)⟩) ?_
        rintro _ w1 q1 ⟨l, A3, c3, hl, rfl, hS3⟩ hq1 _ hF1
        have hS3 := hS3.le hq1
        have hF1 := hF1 (by simp)
        have hll := numsF_len r l hl
        rw [hl] at hcF
        obtain ⟨a0, a1, a2, a3, rfl⟩ := len4 (show l.length = 4 by omega)
        obtain ⟨b3, off3, rfl, hz3, hc3⟩ := hS3.2 (by simp)
        refine xk_assign rfl (by decide) ?_
        refine XK.nilN ?_

        refine XK.draw1 [q1, all w] [HP.blk g1 55 [.int .u8 0, .slice none 0 0, .int .u64 0, .int .i64 0, .int .i64 0, .int .i64 0]] 19 (by kernel_rfl) (by kernel_rfl) ?_
        refine XA.dA 0 rfl rfl rfl (does_move rfl) ?_
        refine XA.dA 1 rfl rfl rfl (does_at 0 (off3 + 0) (el := 3) (sz := 1) (by kernel_rfl) (by kernel_rfl) rfl rfl rfl (by simp) (by omega)) ?_
        refine XA.dA 2 rfl rfl rfl (does_load (by kernel_rfl) rfl (Rd.ro (p := q1) (by simp) hz3 (hc3 0 _ rfl))) ?_
        refine XA.dA 4 rfl rfl rfl (does_move rfl) ?_
        refine XA.dA 5 rfl rfl rfl (does_at 1 (off3 + 1) (el := 3) (sz := 1) (by kernel_rfl) (by kernel_rfl) rfl rfl rfl (by simp) (by omega)) ?_
        refine XA.dA 6 rfl rfl rfl (does_load (by kernel_rfl) rfl (Rd.ro (p := q1) (by simp) hz3 (hc3 1 _ rfl))) ?_
        refine XA.dA 7 rfl rfl rfl (does_move rfl) ?_
        refine XA.dA 8 rfl rfl rfl (does_at 2 (off3 + 2) (el := 3) (sz := 1) (by kernel_rfl) (by kernel_rfl) rfl rfl rfl (by simp) (by omega)) ?_
        refine XA.dA 9 rfl rfl rfl (does_load (by kernel_rfl) rfl (Rd.ro (p := q1) (by simp) hz3 (hc3 2 _ rfl))) ?_
        refine XA.dA 10 rfl rfl rfl (does_move rfl) ?_
        refine XA.dA 11 rfl rfl rfl (does_at 3 (off3 + 3) (el := 3) (sz := 1) (by kernel_rfl) (by kernel_rfl) rfl rfl rfl (by simp) (by omega)) ?_
        refine XA.dA 12 rfl rfl rfl (does_load (by kernel_rfl) rfl (Rd.ro (p := q1) (by simp) hz3 (hc3 3 _ rfl))) ?_
        refine XA.next 3 rfl (by kernel_rfl) ?_
        refine xk_slice (el := 3) (sz := 1) (zs := [.int .i64 0]) (by kernel_rfl) (zeroB_of (by kernel_rfl)) (by kernel_rfl) rfl (by decide) (by decide) rfl (by simp [fillL, setN, Value.cells, List.range_succ, List.set]; rfl) (by decide) fun g3 => ?_
        refine XA.bk ?_
        refine XA.dA 13 rfl rfl rfl (does_field (off := 1) (by kernel_rfl) rfl) ?_
        refine XA.next 14 rfl (by kernel_rfl) ?_
        refine xk_st rfl rfl ?_; dsimp only [List.set]
        refine XA.bk ?_
        refine XA.dA 15 rfl rfl rfl (does_field (off := 3) (by kernel_rfl) rfl) ?_
        refine XA.next 16 rfl (by kernel_rfl) ?_
        refine xk_st rfl rfl ?_; dsimp only [List.set]
        refine XA.bk ?_
        refine XA.dA 17 rfl rfl rfl (does_field (off := 4) (by kernel_rfl) rfl) ?_
        refine XA.next 18 rfl (by kernel_rfl) ?_
        refine xk_st rfl rfl ?_; dsimp only [List.set]
        refine XA.bk ?_
        refine XA.next 19 rfl (by kernel_rfl) ?_
        refine xk_field (off := 5) (by kernel_rfl) rfl (by decide) ?_
        refine XA.bt ?_
        refine XA.next 20 rfl (by kernel_rfl) ?_
        refine xk_st rfl rfl ?_; dsimp only [List.set]
        refine XA.bt ?_
        refine XA.done (by kernel_rfl) ?_
        refine XK.norm ?_
        refine XK.still [] [0] [1, 2] (by simp) rfl (by decide) (by decide) fun q hq _ hfr => ?_
        exact XK.weakR (R' := [q, all w]) (by simp) (XK.envS [(3, .pointer (some ⟨g2, 0, none⟩)), (2, .pointer (some ⟨g1, 0, none⟩))] (XK.meet ⟨⟨112, [a0], 0, a1, a2, a3⟩, _, 1, q, hcF, hfr (by simp) (by simp), HP.blk_sls (hq 0 _ (by simp) rfl) rfl, rfl, rfl, rfl⟩))
      ·
        refine XK.seq ?_

        refine XK.region ?_
        refine xk_eql rfl rfl (by decide) ?_
        refine xk_assign rfl (by decide) ?_
        refine XK.nilN ?_
        refine XK.if_ rfl (fun hm_ => ?_) (fun hm_ => ?_)
        ·
          have hk8 : kd.toNat = 109 := by omega
          rw [hk8] at hcF ⊢

          refine XK.region ?_
          refine xk_move rfl (by decide) ?_
          refine xk_callX [] (f := 79) (fi := []) (ca := []) (by kernel_rfl) rfl rfl (by decide) (by simp) (fun v w w' => ∃ l A' c', numsF r = some l ∧ v = .slice A' l.length c' ∧ SlS (fresh w w') 1 A' l.length (intCells l)) (numsF r = none) (fun w1 st => toInts_x r A2 r.length (c - 1) w1 (hS2.le (all_le (st.started (by simp)))) rfl (by omega) hsr) (fun hp T u => by
            (repeat (first | refine XK.thenP ?_ | refine XK.inP ?_))
            exact XK.retP fun w1 st => ⟨.inr ⟨hcF.trans (by rw [hp]; rfl), T, u, rfl⟩, st.below (by simp)⟩) ?_
          rintro _ w1 q1 ⟨l, A3, c3, hl, rfl, hS3⟩ hq1 _ hF1
          have hS3 := hS3.le hq1
          have hF1 := hF1 (by simp)
          have hll := numsF_len r l hl
          rw [hl] at hcF
          refine xk_field (off := 1) (by kernel_rfl) rfl (by decide) ?_
          refine xk_st rfl rfl ?_; dsimp only [List.set]
          refine XK.nilN ?_
          exact XK.envS [(3, .pointer (some ⟨g2, 0, none⟩)), (2, .pointer (some ⟨g1, 0, none⟩))] (XK.meet ⟨⟨109, l, 0, 0, 0, 0⟩, A3, c3, q1, hcF, hF1, hS3, rfl, rfl, rfl⟩)
        ·
          refine XK.seq ?_

          refine XK.region ?_
          refine xk_eql rfl rfl (by decide) ?_
          refine xk_assign rfl (by decide) ?_
          refine XK.nilN ?_
          refine XK.if_ rfl (fun hd_ => ?_) (fun hd_ => ?_)
          ·
            have hk8 : kd.toNat = 100 := by omega
            rw [hk8] at hcF ⊢
            refine XK.seq ?_

            refine XK.region ?_
            refine xk_move rfl (by decide) ?_
            refine xk_len (el := 9) (by kernel_rfl) rfl (by decide) ?_
            refine xk_eql rfl rfl (by decide) ?_
            refine xk_callXV (f := 76) (fi := []) (ca := []) (by kernel_rfl) rfl rfl (by decide) (fun v => ((r.length : Int) = 2) ∧ v = .tuple #[]) (¬ ((r.length : Int) = 2)) (fun w1 st => must_x ((r.length : Int) = 2) w1) (fun hp T u => by
              (repeat (first | refine XK.thenP ?_ | refine XK.inP ?_))
              exact XK.retP fun w1 st => ⟨.inr ⟨hcF.trans (clockN_d (by omega)), T, u, rfl⟩, st.below (by simp)⟩) ?_
            rintro _ ⟨hm, rfl⟩
            refine XK.nilN ?_
            refine XK.seq ?_

            refine XK.region ?_
            refine xk_move rfl (by decide) ?_
            refine xk_callX [] (f := 79) (fi := []) (ca := []) (by kernel_rfl) rfl rfl (by decide) (by simp) (fun v w w' => ∃ l A' c', numsF r = some l ∧ v = .slice A' l.length c' ∧ SlS (fresh w w') 1 A' l.length (intCells l)) (numsF r = none) (fun w1 st => toInts_x r A2 r.length (c - 1) w1 (hS2.le (all_le (st.started (by simp)))) rfl (by omega) hsr) (fun hp T u => by
              (repeat (first | refine XK.thenP ?_ | refine XK.inP ?_))
              exact XK.retP fun w1 st => ⟨.inr ⟨hcF.trans (by rw [hp]; rfl), T, u, rfl⟩, st.below (by simp)⟩) ?_
            rintro _ w1 q1 ⟨l, A3, c3, hl, rfl, hS3⟩ hq1 _ hF1
            have hS3 := hS3.le hq1
            have hF1 := hF1 (by simp)
            have hll := numsF_len r l hl
            rw [hl] at hcF
            obtain ⟨a0, a1, rfl⟩ := len2 (show l.length = 2 by omega)
            obtain ⟨b3, off3, rfl, hz3, hc3⟩ := hS3.2 (by simp)
            refine xk_assign rfl (by decide) ?_
            refine XK.nilN ?_

            refine XK.draw1 [q1, all w] [HP.blk g1 55 [.int .u8 0, .slice none 0 0, .int .u64 0, .int .i64 0, .int .i64 0, .int .i64 0]] 9 (by kernel_rfl) (by kernel_rfl) ?_
            refine XA.dA 0 rfl rfl rfl (does_move rfl) ?_
            refine XA.dA 1 rfl rfl rfl (does_at 0 (off3 + 0) (el := 3) (sz := 1) (by kernel_rfl) (by kernel_rfl) rfl rfl rfl (by simp) (by omega)) ?_
            refine XA.dA 2 rfl rfl rfl (does_load (by kernel_rfl) rfl (Rd.ro (p := q1) (by simp) hz3 (hc3 0 _ rfl))) ?_
            refine XA.dA 4 rfl rfl rfl (does_move rfl) ?_
            refine XA.dA 5 rfl rfl rfl (does_at 1 (off3 + 1) (el := 3) (sz := 1) (by kernel_rfl) (by kernel_rfl) rfl rfl rfl (by simp) (by omega)) ?_
            refine XA.dA 6 rfl rfl rfl (does_load (by kernel_rfl) rfl (Rd.ro (p := q1) (by simp) hz3 (hc3 1 _ rfl))) ?_
            refine XA.next 3 rfl (by kernel_rfl) ?_
            refine xk_slice (el := 3) (sz := 1) (zs := [.int .i64 0]) (by kernel_rfl) (zeroB_of (by kernel_rfl)) (by kernel_rfl) rfl (by decide) (by decide) rfl (by simp [fillL, setN, Value.cells, List.range_succ, List.set]; rfl) (by decide) fun g4 => ?_
            refine XA.bk ?_
            refine XA.dA 7 rfl rfl rfl (does_field (off := 1) (by kernel_rfl) rfl) ?_
            refine XA.next 8 rfl (by kernel_rfl) ?_
            refine xk_st rfl rfl ?_; dsimp only [List.set]
            refine XA.bk ?_
            refine XA.next 9 rfl (by kernel_rfl) ?_
            refine xk_field (off := 4) (by kernel_rfl) rfl (by decide) ?_
            refine XA.bt ?_
            refine XA.next 10 rfl (by kernel_rfl) ?_
            refine xk_st rfl rfl ?_; dsimp only [List.set]
            refine XA.bt ?_
            refine XA.done (by kernel_rfl) ?_
            refine XK.norm ?_
            refine XK.still [] [0] [1, 2] (by simp) rfl (by decide) (by decide) fun q hq _ hfr => ?_
            exact XK.weakR (R' := [q, all w]) (by simp) (XK.envS [(3, .pointer (some ⟨g2, 0, none⟩)), (2, .pointer (some ⟨g1, 0, none⟩))] (XK.meet ⟨⟨100, [a0], 0, 0, a1, 0⟩, _, 1, q, hcF, hfr (by simp) (by simp), HP.blk_sls (hq 0 _ (by simp) rfl) rfl, rfl, rfl, rfl⟩))
          ·
            refine XK.seq ?_

            refine XK.region ?_
            refine xk_eql rfl rfl (by decide) ?_
            refine xk_assign rfl (by decide) ?_
            refine XK.nilN ?_
            refine XK.if_ rfl (fun hg_ => ?_) (fun hg_ => ?_)
            ·
              have hk8 : kd.toNat = 103 := by omega
              rw [hk8] at hcF ⊢
              refine XK.seq ?_

              refine XK.region ?_
              refine xk_move rfl (by decide) ?_
              refine xk_len (el := 9) (by kernel_rfl) rfl (by decide) ?_
              refine xk_eql rfl rfl (by decide) ?_
              refine xk_callXV (f := 76) (fi := []) (ca := []) (by kernel_rfl) rfl rfl (by decide) (fun v => ((r.length : Int) = 1) ∧ v = .tuple #[]) (¬ ((r.length : Int) = 1)) (fun w1 st => must_x ((r.length : Int) = 1) w1) (fun hp T u => by
                (repeat (first | refine XK.thenP ?_ | refine XK.inP ?_))
                exact XK.retP fun w1 st => ⟨.inr ⟨hcF.trans (clockN_g (by omega)), T, u, rfl⟩, st.below (by simp)⟩) ?_
              rintro _ ⟨hm, rfl⟩
              refine XK.nilN ?_

              refine XK.region ?_
              refine xk_move rfl (by decide) ?_
              refine xk_callX [] (f := 79) (fi := []) (ca := []) (by kernel_rfl) rfl rfl (by decide) (by simp) (fun v w w' => ∃ l A' c', numsF r = some l ∧ v = .slice A' l.length c' ∧ SlS (fresh w w') 1 A' l.length (intCells l)) (numsF r = none) (fun w1 st => toInts_x r A2 r.length (c - 1) w1 (hS2.le (all_le (st.started (by simp)))) rfl (by omega) hsr) (fun hp T u => by
                (repeat (first | refine XK.thenP ?_ | refine XK.inP ?_))
                exact XK.retP fun w1 st => ⟨.inr ⟨hcF.trans (by rw [hp]; rfl), T, u, rfl⟩, st.below (by simp)⟩) ?_
              rintro _ w1 q1 ⟨l, A3, c3, hl, rfl, hS3⟩ hq1 _ hF1
              have hS3 := hS3.le hq1
              have hF1 := hF1 (by simp)
              have hll := numsF_len r l hl
              rw [hl] at hcF
              obtain ⟨a0, rfl⟩ := len1 (show l.length = 1 by omega)
              refine xk_field (off := 1) (by kernel_rfl) rfl (by decide) ?_
              refine xk_st rfl rfl ?_; dsimp only [List.set]
              refine XK.nilN ?_
              exact XK.envS [(3, .pointer (some ⟨g2, 0, none⟩)), (2, .pointer (some ⟨g1, 0, none⟩))] (XK.meet ⟨⟨103, [a0], 0, 0, 0, 0⟩, A3, c3, q1, hcF, hF1, hS3, rfl, rfl, rfl⟩)
            ·

              refine XK.region ?_
              refine xk_buildS (zs := []) (L := []) (zeroB_of (by kernel_rfl)) (by kernel_rfl) rfl (by simp [fillL, setN, Value.cells]; rfl) (by decide) ?_
              refine xk_iface (T := 59) (by kernel_rfl) rfl (by decide) ?_
              refine xk_panic rfl ?_
              (repeat (first | refine XK.thenP ?_ | refine XK.inP ?_))
              exact XK.retP fun w1 st => ⟨.inr ⟨hcF.trans (by unfold clockN; cases numsF r <;> simp only [] <;> simp (disch := omega) only [if_neg]), _, _, rfl⟩, st.below (by simp)⟩
  rintro _ _ _ ⟨cl, Af, cf, q, hcl, hFq, hSq, rfl, rfl, rfl⟩
  refine XK.seq ?_

  refine XK.region ?_
  refine xk_ldN 6 rfl ?_
  (first | (refine xk_storeN 0 rfl rfl rfl (by kernel_rfl) (by simp [Value.cells, Value.oneCell']) (by simp [Value.cells]) ?_) | (refine xk_storeN 1 rfl rfl rfl (by kernel_rfl) (by simp [Value.cells, Value.oneCell']) (by simp [Value.cells]) ?_) | (refine xk_storeN 2 rfl rfl rfl (by kernel_rfl) (by simp [Value.cells, Value.oneCell']) (by simp [Value.cells]) ?_) | (refine xk_storeN 3 rfl rfl rfl (by kernel_rfl) (by simp [Value.cells, Value.oneCell']) (by simp [Value.cells]) ?_) | (refine xk_storeN 4 rfl rfl rfl (by kernel_rfl) (by simp [Value.cells, Value.oneCell']) (by simp [Value.cells]) ?_) | (refine xk_storeN 5 rfl rfl rfl (by kernel_rfl) (by simp [Value.cells, Value.oneCell']) (by simp [Value.cells]) ?_) | (refine xk_storeN 6 rfl rfl rfl (by kernel_rfl) (by simp [Value.cells, Value.oneCell']) (by simp [Value.cells]) ?_) | (refine xk_storeN 7 rfl rfl rfl (by kernel_rfl) (by simp [Value.cells, Value.oneCell']) (by simp [Value.cells]) ?_) | (refine xk_storeN 8 rfl rfl rfl (by kernel_rfl) (by simp [Value.cells, Value.oneCell']) (by simp [Value.cells]) ?_)); simp only [putN, Value.cells, List.set, List.take, List.drop, List.nil_append, List.append_nil, List.length_cons, List.length_nil, List.cons_append, Nat.reduceAdd]
  refine XK.nilN ?_
  refine XK.ret ?_
  refine XK.norm ?_
  exact XK.retC rfl (by kernel_rfl) rfl rfl (RdN.whole 1 rfl) fun w1 st => ⟨.inl ⟨_, rfl, cl, Af, cf, hcl, rfl, hSq.le (st.fresh_le (by simp) hFq)⟩, st.below (by simp)⟩

end Go.Proofs.YtgopaoidgcgalaaGreatDoor
