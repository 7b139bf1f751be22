/- A region that draws its order, in a round: what comes up in any order, and then the rest, one behind the other. -/
import Derived.Laws.Cover3
import Derived.Laws.StructEq
import Derived.Test.YticjkhagldkejaaGreatDoorFirmWordsK2
namespace Go.Proofs.YticjkhagldkejaaGreatDoor
set_option linter.all false
open Go.RowKit
section
def Cn (ops : Array Oper) : Bool := (List.range ops.size).all fun j => match ops[j]? with
 | some o => o.after.toList.all fun x => !(Region.binds .any x) || decide (x.on < j)
 | none => true
def Rz (l : List Oper) (m : Nat) : Bool := (l.take m).all fun o => match o.guard with
 | some (j, _) => decide (j < m)
 | none => true
theorem Lq {ops : Array Oper} (h : Cn ops = true) {j : Nat} {o : Oper} (ho : ops[j]? = some o) : ∀ x ∈ o.after, Region.binds .any x = true → x.on < j := fun x hx hb => by
 have hj := (Array.getElem?_eq_some_iff.1 ho).1
 unfold Cn at h
 simp only [List.all_eq_true, List.mem_range] at h
 have := h j hj
 rw [ho] at this
 simp only [List.all_eq_true] at this
 have := this x (by simpa using hx)
 simpa [hb] using this
theorem Ab {l : Array Bool} {i : Nat} (h : i < l.size) : l.getD i true = l.getD i false := by simp [h]
def Bb (k : Nat) (listed : Array Bool) : Prop := (∀ i, i < k → listed.getD i false = true) ∧ ∀ i, k ≤ i → listed.getD i false = false
theorem aCI {ops : Array Oper} {k : Nat} {listed : Array Bool} (hE : Cn ops = true) (hd : Down ops listed) (hk : k < ops.size) (ht : ∀ j, k ≤ j → j < ops.size → yO ops j = true) (hsz : listed.size = ops.size) (hu : Bb k listed) : k ∈ Region.ready .any ops listed ∧ ∀ i ∈ Region.ready .any ops listed, i = k := by
 constructor
 ·refine mem_ready.2 ⟨?_, _, Array.getElem?_eq_getElem hk, fun x hx hb => hu.1 _ (Lq hE (Array.getElem?_eq_getElem hk) x hx hb)⟩
  rw [Ab (by omega)]
  exact hu.2 k (Nat.le_refl _)
 ·intro i hi
  obtain ⟨h1, o, ho, h2⟩ := mem_ready.1 hi
  have hlt := (Array.getElem?_eq_some_iff.1 ho).1
  rw [Ab (by omega)] at h1
  rcases Nat.lt_trichotomy i k with h | h | h
  ·rw [hu.1 i h] at h1; cases h1
  ·exact h
  ·have := Nw hd hi (ht i (by omega) hlt) h
   rw [hu.2 k (Nat.le_refl _)] at this; cases this
theorem Bb.next {k : Nat} {listed : Array Bool} (h : Bb k listed) (hk : k < listed.size) : Bb (k + 1) (listed.setIfInBounds k true) := by
 refine ⟨fun i hi => ?_, fun i hi => ?_⟩
 ·by_cases e : k = i
  ·subst e; simp [hk]
  ·rw [getD_set_ne false e]; exact h.1 i (by omega)
 ·rw [getD_set_ne false (by omega)]; exact h.2 i (by omega)
section
variable {P : Program} {nn : Nat} {w0 : World} {e : Env} {R : List Piece} {H : List HP} {Q : Exit → Act → World → Prop} {r : Option Nat} {L : List Nat}
theorem aCd {ops : Array Oper} (hE : Cn ops = true) : ∀ (fuel k : Nat) (listed : Array Bool) (a : Act) (w : World), k ≤ ops.size → ops.size ≤ k + fuel → Down ops listed → (∀ j, k ≤ j → j < ops.size → yO ops j = true) → listed.size = ops.size → Bb k listed →
  wpListIn (Fr r) 9 P ops Q (ops.toList.drop k) a w → wpAnyIn (Fr r) 9 P .any ops Q fuel listed a w := by
 have none : ∀ (k : Nat) (listed : Array Bool), k = ops.size → listed.size = ops.size → Bb k listed → Region.ready .any ops listed = [] := by
  intro k listed hk hsz hu
  cases hr : Region.ready .any ops listed with
  | nil => rfl
  | cons i is =>
   exfalso
   obtain ⟨h1, o, ho, _⟩ := mem_ready.1 (by rw [hr]; simp : i ∈ Region.ready .any ops listed)
   have hlt := (Array.getElem?_eq_some_iff.1 ho).1
   rw [Ab (by omega), hu.1 i (by omega)] at h1
   cases h1
 intro fuel
 induction fuel with
 | zero =>
  intro k listed a w hk hk2 hd ht hsz hu h
  rw [List.drop_eq_nil_of_le (by simp; omega)] at h
  exact ⟨none k listed (by omega) hsz hu, h⟩
 | succ fuel ih =>
  intro k listed a w hk hk2 hd ht hsz hu h
  by_cases hkn : k < ops.size
  ·obtain ⟨h1, h2⟩ := aCI hE hd hkn ht hsz hu
   refine ⟨fun hn => absurd h1 (by rw [hn]; simp), fun i hi => ?_⟩
   have := h2 i hi
   subst this
   have zO : ops[i]? = some (ops[i]'hkn) := Array.getElem?_eq_getElem hkn
   have aEE : ops.toList.drop i = ops[i]'hkn :: ops.toList.drop (i + 1) := by
    rw [← List.getElem_cons_drop (by simpa using hkn)]; simp
   rw [aEE] at h
   unfold wpListIn at h
   unfold wpOpIn
   rw [zO]
   have key : ∀ a w, wpListIn (Fr r) 9 P ops Q (ops.toList.drop (i + 1)) a w → wpAnyIn (Fr r) 9 P .any ops Q fuel (listed.setIfInBounds i true) a w := fun a w h => ih (i + 1) _ a w (by omega) (by omega) (hd.gI hi) (fun j hj => ht j (by omega)) (by simpa using hsz) (hu.next (by omega)) h
   dsimp only
   split
   ·rename_i hw
    rw [if_pos hw] at h
    exact Oper.wpIn_mono key h
   ·rename_i hw
    rw [if_neg hw] at h
    exact ⟨h.1, key _ _ h.2⟩
  ·rw [List.drop_eq_nil_of_le (by simp; omega)] at h
   have hn := none k listed (by omega) hsz hu
   exact ⟨fun _ => h, fun i hi => by rw [hn] at hi; cases hi⟩
structure Rel (ops : Array Oper) (m : Nat) (listed l' : Array Bool) : Prop where
 lo : ∀ i, i < m → listed.getD i false = l'.getD i false
 hi : ∀ i, m ≤ i → listed.getD i false = false
 s1 : listed.size = ops.size
 s2 : l'.size = m
 le : m ≤ ops.size
theorem Rel.gI {ops : Array Oper} {m i : Nat} {listed l' : Array Bool} (h : Rel ops m listed l') (hi : i < m) : Rel ops m (listed.setIfInBounds i true) (l'.setIfInBounds i true) := by
 have hle := h.le
 have hs := h.s1
 have eV := h.s2
 refine ⟨fun j hj => ?_, fun j hj => ?_, by simpa using h.s1, by simpa using h.s2, h.le⟩
 ·by_cases e : i = j
  ·subst e
   have h1 : i < l'.size := by omega
   have h2 : i < listed.size := by omega
   simp [h1, h2]
  ·rw [getD_set_ne false e, getD_set_ne false e]; exact h.lo j hj
 ·rw [getD_set_ne false (by omega)]; exact h.hi j hj
theorem aBF {o : Oper} {a : Act} {w : World} {K K1 K2 : Act → World → Prop} (h : o.wp P a w K (Fx K1)) : o.wp P a w K (Fx K2) := by
 unfold Oper.wp at h ⊢
 generalize (execOp a.eval o).run P w = res at h ⊢
 cases res with
 | ok n w' => cases n <;> first | exact h | exact Calls.mono h (fun x w'' hx => by cases x <;> first | exact hx | exact hx.elim | (obtain ⟨_, _, hf⟩ := hx; exact hf.elim))
 | halt x w' => cases x <;> exact h
theorem aGY {l : List Oper} {m : Nat} (hm : m ≤ l.length) (hE : Cn l.toArray = true) (hT : xA l.toArray m = true) (hG : Rz l m = true) (hp : (l.take m).all yV = true) :
  ∀ (fuel : Nat) (listed l' : Array Bool) (a : Act) (w : World), Rel l.toArray m listed l' → Down l.toArray listed → wpAny P .any (l.take m).toArray (Fx (KI r L P l.toArray Q (l.drop m))) fuel l' a w →
   wpAnyIn (Fr r) 9 P .any l.toArray Q (fuel + (l.length - m)) listed (mk L a) w := by
 have zO : ∀ i, i < m → (l.take m).toArray[i]? = l.toArray[i]? := fun i hi => by simp [List.getElem?_take, hi]
 have Qm : ∀ {listed l' : Array Bool}, Rel l.toArray m listed l' → ∀ i, i < m → (i ∈ Region.ready .any l.toArray listed ↔ i ∈ Region.ready .any (l.take m).toArray l') := by
  intro listed l' hr i hi
  have hs1 := hr.s1
  have eV := hr.s2
  have hle := hr.le
  rw [mem_ready, mem_ready, Ab (l := listed) (by omega), Ab (l := l') (by omega), hr.lo i hi, zO i hi]
  constructor
  ·rintro ⟨h1, o, ho, h2⟩
   exact ⟨h1, o, ho, fun x hx hb => by have := Lq hE ho x hx hb; rw [← hr.lo _ (by omega)]; exact h2 x hx hb⟩
  ·rintro ⟨h1, o, ho, h2⟩
   exact ⟨h1, o, ho, fun x hx hb => by have := Lq hE ho x hx hb; rw [hr.lo _ (by omega)]; exact h2 x hx hb⟩
 have vW : ∀ j, m ≤ j → j < l.toArray.size → yO l.toArray j = true := fun j hj hlt => by
  unfold xA at hT
  simp only [List.all_eq_true, List.mem_range, Bool.or_eq_true, decide_eq_true_eq] at hT
  exact (hT j hlt).resolve_left (by omega)
 have hdone : ∀ {listed l' : Array Bool}, Rel l.toArray m listed l' → Region.ready .any (l.take m).toArray l' = [] → Bb m listed := by
  intro listed l' hr hn
  refine ⟨fun i => ?_, hr.hi⟩
  induction i using Nat.strongRecOn with
  | _ i ih =>
   intro hi
   cases hb : listed.getD i false with
   | true => rfl
   | false =>
    exfalso
    have hs1 := hr.s1
    have hle := hr.le
    have hil : i < l.toArray.size := by omega
    have : i ∈ Region.ready .any l.toArray listed := mem_ready.2 ⟨by rw [Ab (by omega)]; exact hb, _, Array.getElem?_eq_getElem hil, fun x hx hxb => by
     have := Lq hE (Array.getElem?_eq_getElem hil) x hx hxb
     exact ih x.on this (by omega)⟩
    rw [Qm hr i hi, hn] at this
    cases this
 have fin : ∀ {fuel : Nat} {listed l' : Array Bool} {a : Act} {w : World}, Rel l.toArray m listed l' → Down l.toArray listed → Region.ready .any (l.take m).toArray l' = [] → KI r L P l.toArray Q (l.drop m) a w → wpAnyIn (Fr r) 9 P .any l.toArray Q (fuel + (l.length - m)) listed (mk L a) w := by
  intro fuel listed l' a w hr hd hn hk
  refine aCd hE _ m listed _ w (by simpa using hm) (by simp; omega) hd vW hr.s1 (hdone hr hn) ?_
  unfold KI at hk
  simpa using hk
 intro fuel
 induction fuel with
 | zero =>
  intro listed l' a w hr hd h
  exact fin hr hd h.1 h.2
 | succ fuel ih =>
  intro listed l' a w hr hd h
  cases hne : Region.ready .any (l.take m).toArray l' with
  | nil => exact fin hr hd hne (h.1 hne)
  | cons i0 is =>
   have mV : i0 ∈ Region.ready .any (l.take m).toArray l' := by rw [hne]; simp
   have aEA : i0 < m := by
    obtain ⟨_, o, ho, _⟩ := mem_ready.1 mV
    have := (Array.getElem?_eq_some_iff.1 ho).1
    simp at this
    omega
   have Yu := (Qm hr i0 aEA).2 mV
   rw [show fuel + 1 + (l.length - m) = (fuel + (l.length - m)) + 1 by omega]
   refine ⟨fun hn => absurd Yu (by rw [hn]; simp), fun i hi => ?_⟩
   obtain ⟨h1, o, ho, _⟩ := mem_ready.1 hi
   have hlt := (Array.getElem?_eq_some_iff.1 ho).1
   by_cases tM : i < m
   ·have hi' := (Qm hr i tM).1 hi
    have h2 := h.2 i hi'
    unfold wpOp at h2
    unfold wpOpIn
    rw [zO i tM, ho] at h2
    rw [ho]
    dsimp only at h2 ⊢
    have aEu : Region.wanted o (yielded l.toArray (mk L a).tmps) = Region.wanted o (yielded (l.take m).toArray a.tmps) := by
     show Region.wanted o (yielded l.toArray a.tmps) = _
     cases hgd : o.guard with
     | none => simp [Region.wanted, hgd]
     | some g =>
      obtain ⟨j, b⟩ := g
      have hj : j < m := by
       unfold Rz at hG
       simp only [List.all_eq_true] at hG
       have hmem : o ∈ l.take m := by
        have : (l.take m)[i]? = some o := by simpa [List.getElem?_take, tM] using ho
        exact List.mem_of_getElem? this
       have := hG o hmem
       rw [hgd] at this
       simpa using this
      simp only [Region.wanted, hgd, yielded, zO j hj]
    rw [aEu]
    have hpo : yV o = true := by
     simp only [List.all_eq_true] at hp
     have : (l.take m)[i]? = some o := by simpa [List.getElem?_take, tM] using ho
     exact hp o (List.mem_of_getElem? this)
    have key : ∀ a' w', wpAny P .any (l.take m).toArray (Fx (KI r L P l.toArray Q (l.drop m))) fuel (l'.setIfInBounds i true) a' w' → wpAnyIn (Fr r) 9 P .any l.toArray Q (fuel + (l.length - m)) (listed.setIfInBounds i true) (mk L a') w' := fun a' w' hh => ih _ _ a' w' (hr.gI tM) (hd.gI hi) hh
    split
    ·rename_i hw
     rw [if_pos hw] at h2
     rcases h2 with h2 | ⟨_, _, _, h2⟩
     ·exact Wn hpo key (aBF h2)
     ·exact h2.elim
    ·rename_i hw
     rw [if_neg hw] at h2
     refine ⟨fun _ _ => trivial, ?_⟩
     rw [vO]
     exact key _ _ h2
   ·exfalso
    have := Nw hd hi (vW i (by omega) hlt) (show i0 < i by omega)
    obtain ⟨h3, _⟩ := mem_ready.1 Yu
    have hs1 := hr.s1
    rw [Ab (by omega), this] at h3
    cases h3
theorem XC.draw (m : Nat) {id : Nat} {l : List Oper} (hm : P.follows .mixedOrders = true) (hc : (Region.noSelect (l.take m).toArray && Cn l.toArray && xA l.toArray m && xA (l.take m).toArray m && Rz l m && (l.take m).all yV && decide (m ≤ l.length)) = true)
  (h : XA P ⟨nn, []⟩ w0 (l.take m).toArray (Fx (KI r L P l.toArray Q (l.drop m))) R H m m (Array.replicate m false) e R H) : XK ⟨nn, []⟩ w0 (KC r L P (Code.region id l.toArray true) Q) e R H := fun a w hr st => by
 simp only [Bool.and_eq_true, decide_eq_true_eq] at hc
 obtain ⟨⟨⟨⟨⟨⟨c1, c2⟩, c3⟩, c4⟩, c5⟩, c6⟩, c7⟩ := hc
 have h1 := h ⟨Down.start _ _, c1, c4⟩ a w.drew hr st.drew
 have h2 := aGY (r := r) (L := L) (Q := Q) c7 c2 c3 c5 c6 m (Array.replicate l.length false) _ a w.drew ⟨fun i hi => by simp [hi, Nat.lt_of_lt_of_le hi c7], fun i hi => by simp [Array.getElem?_replicate]; split <;> rfl, by simp, by simp, by simpa using c7⟩ (Down.start _ _) (Nl _ _ _ _ h1)
 unfold KC
 refine wpIn_region_any hm ?_
 rw [show m + (l.length - m) = l.length by omega] at h2
 simpa using h2
end
end
section
attribute [local irreducible] KC KI KQ
def Tk (p : Piece) (Iq : FuncId) (Ir : List Value) (ids : List Nat) (val : Nat → Int) : Prop := ∀ i ∈ ids, ∀ w', p.Le (all w') → Calls Tryz.prog Iq (Value.int .i64 (i : Int) :: Ir).toArray w' (Rt (.int .u32 (val i)) w')
theorem Piece.Le.trans' {p q r : Piece} (h : p.Le q) (k : q.Le r) : p.Le r := fun b hb => ⟨(k b (h b hb).1).1, (k b (h b hb).1).2.trans (h b hb).2⟩
theorem Tk.le {p q : Piece} {Iq : FuncId} {Ir : List Value} {ids : List Nat} {val : Nat → Int} (h : Tk p Iq Ir ids val) (hl : p.Le q) : Tk q Iq Ir ids val := fun i hi w' hq => h i hi w' (hl.trans' hq)
theorem RP.oG {q : Piece} {g o : Nat} {t : TypeId} {cs : List Value} {v : Value} (h : ∃ F, (HP.aE g t cs).sat F q.w ∧ ∀ b, F b → q.Z b) (hv : cs[o]? = some v) : RP q g o v := by
 obtain ⟨F, hs, hz⟩ := h
 refine ⟨hz g hs.1, ?_⟩
 have : dO q.w g t cs.toArray := hs.2
 rw [this.cell]
 simpa using hv
end
section
attribute [local irreducible] KC KI KQ
structure rJ where
 pr : Int
 msg : Int
 id : Int
 v : Int
def rJ.cells (s : rJ) : List Value := [.int .i64 s.pr, .int .i64 s.msg, .int .u32 s.id, .int .u32 s.v]
structure aAW where
 gf : FuncId
 lb : List Value
 sts : List rJ
def aAW.fn (r : aAW) : Value := .func (.func r.gf) #[] r.lb.toArray
end
section
section
variable {P : Program} {N : cJ} {w0 : World} {e : Env} {R : List Piece} {H : List HP} {Q : Exit → Act → World → Prop} {ops : Array Oper} {rest : List Oper}
variable {d : Nat} {ty : TypeId} {pos : String} {aJ : Array Edge}
theorem Nd {x : Operand} {t el u : TypeId} {A : Option Addr} {n c : Nat} (ht : P.underlying t = some (.slice el)) (hx : e.ev x = some (.slice A n c)) (hd : d < N.n)
  (k : XK N w0 (wpList P ops Q rest) ((d, .bool A.isNone) :: e) R H) : XK N w0 (wpList P ops Q (⟨some d, .binOp .eql t x (.const (.slice none 0 0)) u, ty, pos, aJ, none⟩ :: rest)) e R H :=
 fH hd (fun a w hr => by
  have h1 := hr.ev hx
  have h2 := hr.ev (show e.ev (.const (.slice none 0 0)) = some (.slice none 0 0) from rfl)
  simp [execOp, h1, h2, eqGuard, binOp, run_equal_slice_nil _ t el A n c ht]) k
theorem Mx {t el : TypeId} {sz : Nat} (ht : P.underlying t = some (.slice el)) (hsz : (P.info? el).map (·.size) = some sz) (hd : d < N.n)
  (k : ∀ g, XK N w0 (wpList P ops Q rest) ((d, .slice (some ⟨g, 0, none⟩) 0 0) :: e) R (HP.aE g el [] :: H)) : XK N w0 (wpList P ops Q (⟨some d, .buildSlice t 0 #[], ty, pos, aJ, none⟩ :: rest)) e R H :=
 Um (ps := []) (vs := []) rfl (fun w => by
  obtain ⟨i, hi, hs⟩ := Option.map_eq_some_iff.1 hsz
  simp [Instr.buildSlice, Sem.run_bind, run_underlying ht, Result.andThen_ok, sizeOf, typeInfo, hi, newRow, Instr.fill]
  congr 2
  exact Array.eq_empty_of_size_eq_zero (by simp)) hd k
theorem St.bare {w : World} (h : St w0 R H w) : St w0 [] [] w := h.weak (fun _ hp => by cases hp) id (fun _ _ _ _ h => h) (fun i p hi => by simp at hi)
theorem XK.uP (i : Nat) {K : Act → World → Prop} {g n c sz : Nat} {el : TypeId} {xs : List Value} (hi : H[i]? = some (HP.own el sz (.slice (some ⟨g, 0, none⟩) n c) n xs))
  (h : ∀ cs : List Value, cs.length = c * sz → cs.take (n * sz) = xs → n ≤ c → c ≤ maxLen → XK N w0 K e R (H.set i (HP.aE g el cs))) : XK N w0 K e R H := fun a w hr st => by
 obtain ⟨_, h2⟩ := st.own hi
 rcases h2 with ⟨h2, _⟩ | ⟨g', cap, cur, hv, _, hg, hn, hm, hsz, kT⟩
 ·cases h2
 ·cases hv
  refine h cur.toList (by simpa using hsz) kT hn hm a w hr (st.rQ hi (Nat.le_refl _) rfl rfl rfl fun F hF hlt => ⟨F, ⟨hF.1 g rfl, by simpa [dO] using hg⟩, fun b hb => ⟨.inl hb, hlt b hb⟩, fun _ _ _ => rfl⟩)
theorem XK.vE (i : Nat) {K : Act → World → Prop} {g n c sz : Nat} {el : TypeId} {cs xs : List Value} (hi : H[i]? = some (HP.aE g el cs)) (h1 : cs.length = c * sz) (h2 : cs.take (n * sz) = xs) (hn : n ≤ c) (hm : c ≤ maxLen)
  (h : XK N w0 K e R (H.set i (HP.own el sz (.slice (some ⟨g, 0, none⟩) n c) n xs))) : XK N w0 K e R H := fun a w hr st =>
 h a w hr (st.rQ hi (Nat.le_refl _) rfl rfl rfl fun F hF hlt => ⟨F, ⟨fun g' hg' => by simp [Value.ownBlock] at hg'; exact hg' ▸ hF.1, by rw [← h2, List.length_take, h1]; exact Nat.min_eq_left (Nat.mul_le_mul_right _ hn), .inr ⟨g, c, cs.toArray, rfl, Nat.zero_le _, hF.2, hn, hm, by simpa using h1, by simpa using h2⟩⟩, fun b hb => ⟨.inl hb, hlt b hb⟩, fun _ _ _ => rfl⟩)
end
def Bd (xs : List Value) (k : Nat) (l : List Value) : Prop := l.length = xs.length ∧ ∀ t, t < xs.length → l[t]? = if t < k ∨ xs.length - k ≤ t then xs[xs.length - 1 - t]? else xs[t]?
theorem Bd.zero (xs : List Value) : Bd xs 0 xs := ⟨rfl, fun t ht => by rw [if_neg (by omega)]⟩
theorem Bd.all {xs l : List Value} {k : Nat} (h : Bd xs k l) (hk : xs.length ≤ 2 * k + 1) : l = xs.reverse := by
 apply List.ext_getElem?
 intro t
 rcases Nat.lt_or_ge t xs.length with ht | ht
 ·rw [h.2 t ht, List.getElem?_reverse ht]
  split
  ·rfl
  ·congr 1; omega
 ·rw [List.getElem?_eq_none (by rw [h.1]; exact ht), List.getElem?_eq_none (by simpa using ht)]
theorem Bd.next {xs l : List Value} {k : Nat} {u v : Value} (h : Bd xs k l) (hk : 2 * k + 1 < xs.length) (hu : l[xs.length - 1 - k]? = some u) (hv : l[k]? = some v) : Bd xs (k + 1) ((l.set k u).set (xs.length - 1 - k) v) := by
 have h1 := h.2 k (by omega)
 have h2 := h.2 (xs.length - 1 - k) (by omega)
 rw [if_neg (by omega), hv] at h1
 rw [if_neg (by omega), hu] at h2
 refine ⟨by simpa using h.1, fun t ht => ?_⟩
 have hl := h.1
 rw [List.getElem?_set, List.getElem?_set]
 by_cases e1 : xs.length - 1 - k = t
 ·rw [if_pos e1, if_pos (by simp; omega), if_pos (by omega), show xs.length - 1 - t = k by omega]
  exact h1
 ·rw [if_neg e1]
  by_cases e2 : k = t
  ·rw [if_pos e2, if_pos (by omega), if_pos (by omega), ← e2]
   exact h2
  ·rw [if_neg e2, h.2 t ht]
   by_cases e3 : t < k ∨ xs.length - k ≤ t
   ·rw [if_pos e3, if_pos (by omega)]
   ·rw [if_neg e3, if_neg (by omega)]
theorem take_set {cs l : List Value} {n k : Nat} {u : Value} (h : cs.take n = l) : (cs.set k u).take n = l.set k u := by rw [← h, List.take_set]
def rO (n : Nat) (xs : List Value) (v : Value) (hs : List HP) (_ : Piece) : Prop := ∃ A c, v = .slice A n c ∧ hs = [HP.own 4 1 (.slice A n c) n xs]
theorem sM (A : Option Addr) (n c : Nat) (xs : List Value) (w : World) (hs : aI (all w) 1 A n xs) (h1 : ∀ u ∈ xs, u.oneCell' = true) (hn : n ≤ 1000000) :
  Calls Tryz.prog 100 #[.slice A n c] w (fun y w' => (∃ v hs q, y = .returned v ∧ q.w = w' ∧ rO n xs v hs q ∧ jN w hs q) ∧ Below w.heap.size w w') := by
 refine XK.enter (vs := [.slice A n c]) Tryz.func100 rfl Tryz.ntmps100 (by simp) ?_
 refine XK.seq ?_
 refine XK.region ?_
 refine aH rfl (by decide) ?_
 refine XK.aA ?_
 refine XK.seq ?_
 refine XK.seq ?_
 refine XK.region ?_
 refine aF rfl (by decide) ?_
 refine Nd (el := 4) (by kernel_rfl) rfl (by decide) ?_
 refine XK.aA ?_
 refine XK.cond rfl (fun hA => ?_) (fun hA => ?_)
 ·
  refine XK.seq ?_
  refine XK.region ?_
  refine aH rfl (by decide) ?_
  refine XK.aA ?_
  refine XK.ret ?_
  refine XK.norm ?_
  have hn0 : n = 0 := by
   rcases Nat.eq_zero_or_pos n with h | h
   ·exact h
   ·obtain ⟨b, off, rfl, _⟩ := hs.2 h
    cases hA
  subst hn0
  have hx : xs = [] := List.eq_nil_of_length_eq_zero (by simpa using hs.1)
  subst hx
  refine XK.kA 4 1 ?_
  refine XK.still [] [] [0] (by simp) rfl (by decide) (by decide) fun q _ _ hfr => ?_
  exact XK.aK rfl rfl fun w1 st => ⟨⟨_, _, ⟨w1, q.Z⟩, rfl, rfl, ⟨_, _, rfl, rfl⟩, st.newR (by simp) (by simp) (hfr (by simp) (by simp))⟩, st.below (by simp)⟩
 ·
  refine XK.skip ?_
  refine XK.norm ?_
  refine XK.seq ?_
  refine XK.region ?_
  refine Mx (el := 4) (sz := 1) (by kernel_rfl) (by kernel_rfl) (by decide) fun g => ?_
  refine XK.Ht 0 1 0 rfl rfl (by omega) ?_
  dsimp only [List.set]
  refine aF rfl (by decide) ?_
  refine fA 0 1 1 n (n' := n) (el := 4) (by kernel_rfl) (by kernel_rfl) (by decide) rfl rfl rfl (qQ (by simp) hs) h1 (by omega) (by omega) (by omega) (by decide) fun A' k' => ?_
  dsimp only [List.set, List.nil_append]
  refine aH rfl (by decide) ?_
  refine XK.aA ?_
  refine XK.ret ?_
  refine XK.norm ?_
  refine XK.still [] [] [0] (by simp) rfl (by decide) (by decide) fun q _ _ hfr => ?_
  exact XK.aK rfl rfl fun w1 st => ⟨⟨_, _, ⟨w1, q.Z⟩, rfl, rfl, ⟨_, _, rfl, rfl⟩, st.newR (by simp) (by simp) (hfr (by simp) (by simp))⟩, st.below (by simp)⟩
end
section
section
variable {P : Program} {N : cJ} {w0 w : World} {e : Env} {R : List Piece} {H H' : List HP} {Q : Exit → Act → World → Prop} {ops : Array Oper} {rest : List Oper} {K : Act → World → Prop}
variable {d : Nat} {ty : TypeId} {pos : String} {aJ : Array Edge}
theorem St.piece {p : Piece} (st : St w0 R H w) (hR : all w0 ∈ R) (hp : p.Le (all w0)) : St w0 (p :: R) H w := by
 obtain ⟨Z, F, hz, hr, hs, hf, hd⟩ := st.ex
 refine ⟨st.os, st.tape, st.output, st.size, Z, F, hz, fun q hq b hb => ?_, hs, hf, hd⟩
 simp only [List.mem_cons] at hq
 rcases hq with rfl | hq
 ·have h1 := hr _ hR b (hp b hb).1
  exact ⟨h1.1, h1.2.trans (hp b hb).2⟩
 ·exact hr q hq b hb
theorem XK.piece (p : Piece) (hR : all w0 ∈ R) (hp : p.Le (all w0)) (h : XK N w0 K e (p :: R) H) : XK N w0 K e R H := fun a w hr st => h a w hr (st.piece hR hp)
end
end
section
def sH (M : Option Nat) (d : Nat) (e : Env) : Env := match M with
 | none => e
 | some g => (d, .pointer (some ⟨g, 0, none⟩)) :: e
def uT (M : Option Nat) (t : TypeId) (cs : List Value) (H : List HP) : List HP := match M with
 | none => H
 | some g => HP.aE g t cs :: H
def vR (M : Option Nat) (j : Nat) (l : Array Bool) : Array Bool := match M with
 | none => l
 | some _ => l.setIfInBounds j true
def Ah (M : Option Nat) (f : Nat) : Nat := match M with
 | none => f + 1
 | some _ => f
def Ov (d : Nat) : Operand → Bool
 | .tmp t => !(Nat.beq d t)
 | _ => true
theorem aFk (M : Option Nat) {d t : Nat} {e : Env} {v : Value} (h : e.get t = some v) (hn : Nat.beq d t = false) : (sH M d e).get t = some v := by
 cases M with
 | none => exact h
 | some g =>
  show Env.get ((d, _) :: e) t = some v
  unfold Env.get
  rw [hn]
  exact h
theorem Gx (M : Option Nat) {d : Nat} {e : Env} {x : Operand} {v : Value} (h : e.ev x = some v) (hn : Ov d x = true) : (sH M d e).ev x = some v := by
 cases x with
 | tmp t => exact aFk M h (by simpa [Ov] using hn)
 | _ => exact h
theorem Gw (M : Option Nat) {d : Nat} {e : Env} : ∀ {xs : List Operand} {vs : List Value}, e.cU xs = some vs → xs.all (Ov d) = true → (sH M d e).cU xs = some vs
 | [], vs, h, _ => by cases h; rfl
 | x :: xs, vs, h, hn => by
  simp only [List.all_cons, Bool.and_eq_true] at hn
  unfold Env.cU at h ⊢
  split at h
  ·rename_i v r h1 h2
   cases h
   rw [Gx M h1 hn.1, Gw M h2 hn.2]
  ·cases h
section
variable {P : Program} {N : cJ} {w0 w : World} {e : Env} {R R' R0 : List Piece} {H H0 : List HP} {Q : Exit → Act → World → Prop} {ops : Array Oper} {m fuel : Nat} {listed : Array Bool} {K : Act → World → Prop}
variable {d dA : Nat} {t ty : TypeId} {pos : String} {aJ : Array Edge} {cs : List Value} {v : Value}
theorem XK.Bj (hR : ∀ p ∈ R', p ∈ R) (h : XK N w0 K e R' H) : XK N w0 K e R H := fun a w hr st => h a w hr (st.weak hR id (fun _ _ _ _ h => h) (fun _ _ h => h))
theorem St.unM {M : Option Nat} (h : St w0 R (uT M t cs H) w) : St w0 R H w := by
 cases M with
 | none => exact h
 | some g => exact h.tail
theorem cW.aCY {M : Option Nat} {a : Act} (h : cW N ((d, v) :: sH M dA e) a) (hd : Nat.beq d dA = false) : cW N (sH M dA ((d, v) :: e)) a := by
 cases M with
 | none => exact h
 | some g =>
  refine ⟨h.size, h.defers, fun u x hu => h.get u x ?_⟩
  show Env.get ((d, v) :: (dA, _) :: e) u = some x
  have hu : Env.get ((dA, .pointer (some ⟨g, 0, none⟩)) :: (d, v) :: e) u = some x := hu
  unfold Env.get at hu ⊢
  cases h1 : Nat.beq d u with
  | true =>
   have := Nat.eq_of_beq_eq_true h1
   subst this
   rw [show Nat.beq dA d = false from (by rw [← hd]; cases h2 : Nat.beq dA d with
    | true => have := Nat.eq_of_beq_eq_true h2; subst this; rw [Nat.beq_refl] at hd; cases hd
    | false => exact hd.symm)] at hu
   unfold Env.get at hu
   rw [h1] at hu
   exact hu
  | false =>
   dsimp only
   unfold Env.get
   cases h2 : Nat.beq dA u with
   | true => rw [h2] at hu; exact hu
   | false =>
    rw [h2] at hu
    unfold Env.get at hu
    rw [h1] at hu
    exact hu
theorem XA.maybe (i j : Nat) {oi : Oper} {M : Option Nat} (hi : ops[i]? = some oi) (hj : ops[j]? = some ⟨some dA, .alloc t, ty, pos, aJ, none⟩) (ht : wU P t cs) (hd : dA < N.n)
  (Ks : Region.ready .any ops listed = [i, j]) (cT : Region.ready .any ops (listed.setIfInBounds j true) = [i]) (hS : ∀ w, St w0 R H w → St w0 R0 H0 w)
  (step : ∀ M, XK N w0 (wpList P ops (Exit.then (qG P w0 ops Q R0 H0 m (Ah M fuel) (vR M j listed) i) Q) [oi]) (sH M dA e) R (uT M t cs H)) :
  XA P N w0 ops Q R0 H0 m (Ah M (fuel + 1)) (vR M j listed) (sH M dA e) R (uT M t cs H) := by
 cases M with
 | some g => exact XA.next i hi cT (step (some g))
 | none => exact XA.either i j hi hj Ks (step none) (cD ht hd fun g => XK.nil (XK.iJ (XA.back (fun w h => hS w h.tail) (XA.next i hi cT (step (some g))))))
theorem XA.aDR {j : Nat} (dA : Nat) (t : TypeId) (cs : List Value) (h : ∀ M : Option Nat, XA P N w0 ops Q R0 H0 m (Ah M fuel) (vR M j listed) (sH M dA e) R (uT M t cs H)) : XA P N w0 ops Q R0 H0 m (fuel + 1) listed e R H := h none
theorem XA.Mo {i j : Nat} {M : Option Nat} (hij : i ≠ j) (hd : Nat.beq d dA = false) (hS : ∀ w, St w0 R H w → St w0 R0 H0 w)
  (h : XA P N w0 ops Q R0 H0 m (Ah M fuel) (vR M j (listed.setIfInBounds i true)) (sH M dA ((d, v) :: e)) R (uT M t cs H)) : XK N w0 (qG P w0 ops Q R0 H0 m (Ah M fuel) (vR M j listed) i) ((d, v) :: sH M dA e) R (uT M t cs H) := by
 refine XA.back (fun w h => hS w h.unM) ?_
 have hl : (vR M j listed).setIfInBounds i true = vR M j (listed.setIfInBounds i true) := by
  cases M with
  | none => rfl
  | some g => exact Array.setIfInBounds_comm _ _ (Ne.symm hij)
 rw [hl]
 exact fun up a w hr st => h up a w (hr.aCY hd) st
theorem XK.It {M : Option Nat} {p : HP} (h : XK N w0 K e R (uT M t cs (p :: H))) : XK N w0 K e R (p :: uT M t cs H) := by
 cases M with
 | none => exact h
 | some g => exact fun a w hr st => h a w hr (st.weak (fun _ hp => hp) (fun i => match i with | 0 => 1 | 1 => 0 | i + 2 => i + 2) (fun i j _ _ he => by
   match i, j with
   | 0, 0 => rfl
   | 0, 1 => cases he
   | 0, j + 2 => simp at he
   | 1, 0 => cases he
   | 1, 1 => rfl
   | 1, j + 2 => simp at he
   | i + 2, 0 => simp at he
   | i + 2, 1 => simp at he
   | i + 2, j + 2 => simpa using he) (fun i q hq => by
   match i, hq with
   | 0, hq => exact hq
   | 1, hq => exact hq
   | i + 2, hq => exact hq))
theorem uA {p q : Prop} [Decidable p] [Decidable q] {u : Nat} (h : e.get u = some (.bool (decide p))) (hpq : p ↔ q) : e.get u = some (.bool (decide q)) := by
 rw [h, decide_eq_decide.2 hpq]
theorem uY {q : Prop} [Decidable q] {u : Nat} (h : e.get u = some (.bool false)) (hq : ¬ q) : e.get u = some (.bool (decide q)) := by rw [h, decide_eq_false hq]
theorem xS {q : Prop} [Decidable q] {u : Nat} (h : e.get u = some (.bool true)) (hq : q) : e.get u = some (.bool (decide q)) := by rw [h, decide_eq_true hq]
theorem aFi {q : Prop} [Decidable q] {u : Nat} {b : Bool} (h : e.get u = some (.bool b)) (hb : b = true ↔ q) : e.get u = some (.bool (decide q)) := by
 rw [h]
 congr 2
 by_cases hq : q
 ·rw [decide_eq_true hq, hb.2 hq]
 ·rw [decide_eq_false hq]
  cases b
  ·rfl
  ·exact absurd (hb.1 rfl) hq
theorem cW.Vd {e0 : Env} {a : Act} {u : Nat} {x : Value} (h : cW N e a) (hs : e0.Sub e) (hu : e.get u = some x) : cW N ((u, x) :: e0) a := h.sub (e' := (u, x) :: e0) ⟨hu, hs⟩
theorem XK.sK {x y : Code} {Q : Exit → Act → World → Prop} (u : Nat) (p : Prop) [Decidable p] (h : XK N w0 (x.wp P (Exit.then (fun a' w' => cW N ((u, .bool (decide p)) :: e) a' ∧ St w0 R H w') Q)) e R H)
  (hy : XK N w0 (y.wp P Q) ((u, .bool (decide p)) :: e) R H) : XK N w0 ((Code.seq x y).wp P Q) e R H := fun a w hr st => by
 refine wp_seq (wp_mono (h a w hr st) fun x a' w' hq => ?_)
 cases x with
 | normal => exact hy a' w' hq.1 hq.2
 | _ => exact hq
theorem XK.rW {e0 : Env} {u : Nat} {p : Prop} [Decidable p] (hs : e0.Sub e) (hu : e.get u = some (.bool (decide p))) : XK N w0 (fun a' w' => cW N ((u, .bool (decide p)) :: e0) a' ∧ St w0 R H w') e R H := fun _ _ hr st => ⟨hr.Vd hs hu, st⟩
theorem XK.lY {e0 : Env} {u : Nat} {p : Prop} [Decidable p] (hs : e0.Sub e := by repeat (first | exact trivial | refine ⟨rfl, ?_⟩)) (hu : e.get u = some (.bool (decide p)) := by first | (refine uA rfl ?_; omega) | (refine uA rfl ?_; simp_all; done) | (refine uY rfl ?_; first | omega | (simp_all; done)) | (refine xS rfl ?_; first | omega | (simp_all; done)) | (refine aFi rfl ?_; simp_all; done) | (refine uA rfl ⟨fun hh => ?_, fun hh => ?_⟩ <;> first | omega | (simp_all; done) | (simp_all; omega)) | (exfalso; omega)) : XK N w0 (fun a' w' => cW N ((u, .bool (decide p)) :: e0) a' ∧ St w0 R H w') e R H := XK.rW hs hu
theorem XK.Jt (i : Nat) {el : TypeId} {sz n c : Nat} {A : Option Addr} {xs : List Value} (hi : H[i]? = some (HP.own el sz (.slice A n c) n xs)) (hn : 0 < n) (h : ∀ g, A = some ⟨g, 0, none⟩ → XK N w0 K e R H) : XK N w0 K e R H := fun a w hr st => by
 have ho := st.own hi
 rcases ho.2 with ⟨_, h0⟩ | ⟨g, cap, cur, hv, _⟩
 ·omega
 ·injection hv with hA
  exact h g hA a w hr st
end
end
section
def HP.ex {α : Type} (f : α → HP) : HP := ⟨fun F w => ∃ a, (f a).sat F w, fun F w w' ⟨a, h⟩ hk => ⟨a, (f a).loc F w w' h hk⟩⟩
section
variable {N : cJ} {w0 : World} {e : Env} {R : List Piece} {H : List HP} {K : Act → World → Prop}
theorem XK.oB (i : Nat) {α : Type} {f : α → HP} (hi : H[i]? = some (HP.ex f)) (h : ∀ a, XK N w0 K e R (H.set i (f a))) : XK N w0 K e R H := fun a w hr st => by
 obtain ⟨Z, F, hz, cM, hs, cN, dI⟩ := st.ex
 obtain ⟨x, hx⟩ := hs i _ hi
 have hlt : i < H.length := by
  rcases Nat.lt_or_ge i H.length with h | h
  ·exact h
  ·rw [List.getElem?_eq_none h] at hi; cases hi
 refine h x a w hr ⟨st.os, st.tape, st.output, st.size, Z, F, hz, cM, fun j p hj => ?_, cN, dI⟩
 rw [List.getElem?_set] at hj
 split at hj
 ·rename_i e; subst e
  first | (rw [if_pos hlt] at hj; cases hj) | cases hj
  exact hx
 ·exact hs j p hj
theorem XK.lC (i : Nat) {α : Type} {f : α → HP} (x : α) (hi : H[i]? = some (f x)) (h : XK N w0 K e R (H.set i (HP.ex f))) : XK N w0 K e R H := fun a w hr st =>
 h a w hr (st.rQ hi (Nat.le_refl _) rfl rfl rfl fun F hF hlt => ⟨F, ⟨x, hF⟩, fun b hb => ⟨.inl hb, hlt b hb⟩, fun _ _ _ => rfl⟩)
theorem XK.pair {p q : HP} (h : XK N w0 K e R (HP.many [p, q] :: H)) : XK N w0 K e R (p :: q :: H) := fun a w hr st => by
  obtain ⟨Z, F, hz, cM, hs, cN, dI⟩ := st.ex
  refine h a w hr ⟨st.os, st.tape, st.output, st.size, Z, fun j => match j with | 0 => fun b => F 0 b ∨ F 1 b | j + 1 => F (j + 2), hz, cM, fun j r hj => ?_, fun j b hb => ?_, fun j k b iU hj hk => ?_⟩
  · cases j with
    | zero =>
      simp at hj
      subst hj
      refine ⟨fun i b => i < 2 ∧ F i b, fun i r hi => ?_, fun i b hb => ?_, fun i k b hik h1 h2 => dI i k b hik h1.2 h2.2⟩
      · have key : ∀ k, k < 2 → (fun b => k < 2 ∧ F k b) = F k := fun k hk => by funext b; simp [hk]
        match i, hi with
        | 0, hi => simp at hi; subst hi; show p.sat (fun b => 0 < 2 ∧ F 0 b) w; rw [key 0 (by omega)]; exact hs 0 _ rfl
        | 1, hi => simp at hi; subst hi; show q.sat (fun b => 1 < 2 ∧ F 1 b) w; rw [key 1 (by omega)]; exact hs 1 _ rfl
        | i + 2, hi => simp at hi
      · obtain ⟨hlt, hb⟩ := hb
        match i, hlt, hb with
        | 0, _, hb => exact .inl hb
        | 1, _, hb => exact .inr hb
    | succ j => exact hs (j + 2) r (by simpa using hj)
  · cases j with
    | zero => rcases hb with hb | hb <;> exact cN _ b hb
    | succ j => exact cN _ b hb
  · cases j with
    | zero => cases k with
      | zero => exact iU rfl
      | succ k => rcases hj with hj | hj
                  · exact dI 0 (k + 2) b (by omega) hj hk
                  · exact dI 1 (k + 2) b (by omega) hj hk
    | succ j => cases k with
      | zero => rcases hk with hk | hk
                · exact dI 0 (j + 2) b (by omega) hk hj
                · exact dI 1 (j + 2) b (by omega) hk hj
      | succ k => exact dI (j + 2) (k + 2) b (by omega) hj hk
end
end
section
section
variable {P : Program} {w : World} {t kt et : TypeId} {r : Nat} {l : List (Int × Value)}
variable {P : Program} {N : cJ} {w0 w : World} {e : Env} {R : List Piece} {H : List HP} {Q : Exit → Act → World → Prop} {ops : Array Oper} {rest : List Oper}
variable {d : Nat} {ty : TypeId} {pos : String} {aJ : Array Edge}
theorem Ul (i : Nat) {dst : Option Nat} {e' : Env} {f : FuncId} {x : Operand} {args : List Operand} {fi ca vs : List Value} {tys : Array TypeId} {p : HP} {v : Value} (q : HP) (hf : eY P f = true) (hx : e.ev x = some (.func (.func f) fi.toArray ca.toArray)) (ha : e.cU args = some vs) (hi : H[i]? = some p)
  (hd : match dst with | some d => d < N.n ∧ e' = (d, v) :: e | none => e' = e)
  (hc : ∀ w F, St w0 R H w → p.sat F w → (∀ b, F b → b < w.heap.size) → (∀ q ∈ R, q.Le ⟨w, fun b => b < w.heap.size ∧ ¬ F b⟩) → Calls P f (fi ++ vs ++ ca).toArray w fun y w' => y = .returned v ∧ ∃ F', q.sat F' w' ∧ bX w w' F F')
  (k : XK N w0 (wpList P ops Q rest) e' R (H.set i q)) : XK N w0 (wpList P ops Q (⟨dst, .call { callee := .value x, args := args.toArray, argTypes := tys }, ty, pos, aJ, none⟩ :: rest)) e R H := fun a w hr st => wpList_plain rfl fun K hK => by
 unfold eY at hf
 cases hq : P.funcs[f]? with
 | none => simp [hq] at hf
 | some fn =>
  simp [hq] at hf
  obtain ⟨eR, fM⟩ := hf
  have hrun : (execOp a.eval (⟨dst, .call { callee := .value x, args := args.toArray, argTypes := tys }, ty, pos, aJ, none⟩ : Oper)).run P w = .ok (.enter f (fi ++ vs ++ ca).toArray) w := by
   cases hb : fn.body with
   | none => simp [hb] at fM
   | some c => simp [execOp, resolve, hr.ev hx, Deferred.ofValue, invoke, callFunc, hq, eR, hb, hr.cU ha]
  obtain ⟨Z, F, hz, cM, hs, cN, dI⟩ := st.ex
  unfold Oper.wp
  rw [hrun]
  refine (hc w (F i) st (hs i p hi) (fun b hb => (cN i b hb).2) (fun q zH b hb => ⟨⟨hz b (cM q zH b hb).1, fun mE => (cN i b mE).1 (cM q zH b hb).1⟩, (cM q zH b hb).2⟩)).mono fun y w' ⟨hy, F', lM, ht⟩ => ?_
  subst hy
  have st' : St w0 R (H.set i q) w' := by
   have hlt : i < H.length := by
    rcases Nat.lt_or_ge i H.length with h | h
    ·exact h
    ·rw [List.getElem?_eq_none h] at hi; cases hi
   refine ⟨ht.os.trans st.os, ht.tape.trans st.tape, ht.output.trans st.output, Nat.le_trans st.size ht.size, Z, fun j => if j = i then F' else F j, fun b h => Nat.lt_of_lt_of_le (hz b h) ht.size, fun p hp b h => ?_, fun j r hj => ?_, fun j b h => ?_, fun j k b iU h => ?_⟩
   ·exact ⟨(cM p hp b h).1, (ht.old b (hz b (cM p hp b h).1) (fun mE => (cN i b mE).1 (cM p hp b h).1)).trans (cM p hp b h).2⟩
   ·rw [List.getElem?_set] at hj
    split at hj
    ·rename_i e; subst e
     first | (rw [if_pos hlt] at hj; cases hj) | cases hj
     simpa using lM
    ·rename_i e
     simp only [if_neg (Ne.symm e)]
     exact r.loc _ _ _ (hs j r hj) (fun b hb => ht.old b (cN j b hb).2 (dI j i b (Ne.symm e) hb))
   ·dsimp only at h
    split at h
    ·refine ⟨fun fC => ?_, (ht.new b h).2⟩
     rcases (ht.new b h).1 with h | h
     ·exact (cN i b h).1 fC
     ·have := hz b fC; omega
    ·exact ⟨(cN j b h).1, Nat.lt_of_lt_of_le (cN j b h).2 ht.size⟩
   ·dsimp only at h ⊢
    split at h <;> split
    ·rename_i h1 h2; omega
    ·rename_i e1 e2
     intro hk
     rcases (ht.new b h).1 with h | h
     ·exact dI i k b (by omega) h hk
     ·have := (cN k b hk).2; omega
    ·rename_i e1 e2
     intro hk
     rcases (ht.new b hk).1 with hk | hk
     ·exact dI j i b (by omega) h hk
     ·have := (cN j b h).2; omega
    ·exact dI j k b iU h
  cases dst with
  | none => dsimp only at hd; subst hd; exact hK _ _ (k _ _ hr st')
  | some d => dsimp only at hd; obtain ⟨hd, rfl⟩ := hd; exact hK _ _ (k _ _ (hr.put hd v) st')
end
def HP.pure (p : Prop) : HP := ⟨fun _ _ => p, fun _ _ _ h _ => h⟩
section
variable {P : Program} {nn : Nat} {w0 : World} {e e0 : Env} {R R0 : List Piece} {H H0 : List HP} {Q : Exit → Act → World → Prop} {r : Option Nat} {L : List Nat} {K : Act → World → Prop}
theorem XC.sK {x y : Code} (u : Nat) (p : Prop) [Decidable p] (h : XK ⟨nn, []⟩ w0 (KC r L P x (Exit.then (fun a' w' => ∃ b, a' = mk L b ∧ cW ⟨nn, []⟩ ((u, .bool (decide p)) :: e) b ∧ St w0 R H w') Q)) e R H)
  (hy : XK ⟨nn, []⟩ w0 (KC r L P y Q) ((u, .bool (decide p)) :: e) R H) : XK ⟨nn, []⟩ w0 (KC r L P (Code.seq x y) Q) e R H := fun a w hr st => by
 refine wpIn_seq (wpIn_mono (h a w hr st) fun x a' w' hq => ?_)
 cases x with
 | normal =>
  obtain ⟨b, rfl, h1, h2⟩ := hq
  exact hy b w' h1 h2
 | _ => exact hq
theorem XC.rW {u : Nat} {p : Prop} [Decidable p] (hs : e0.Sub e) (hu : e.get u = some (.bool (decide p))) : XK ⟨nn, []⟩ w0 (KQ L (Exit.then (fun a' w' => ∃ b, a' = mk L b ∧ cW ⟨nn, []⟩ ((u, .bool (decide p)) :: e0) b ∧ St w0 R H w') Q) .normal) e R H := fun a _ hr st => ⟨a, rfl, hr.Vd hs hu, st⟩
end
end
section
section
variable {P : Program} {N : cJ} {w0 : World} {K : Act → World → Prop} {e : Env} {R : List Piece} {H H' : List HP} {Q : Exit → Act → World → Prop} {ops : Array Oper} {rest : List Oper}
variable {d : Nat} {ty : TypeId} {pos : String} {aJ : Array Edge}
def xZ (f : FuncId) (fi ca : List Value) : Deferred := { target := .fn (.func f) ca.toArray, args := fi.toArray }
theorem Nf {x : Operand} {tys : Array TypeId} {f : FuncId} {fi ca : List Value} (hx : e.ev x = some (.func (.func f) fi.toArray ca.toArray)) (k : XK ⟨N.n, xZ f fi ca :: N.D⟩ w0 (wpList P ops Q rest) e R H) :
  XK N w0 (wpList P ops Q (⟨none, .defer { callee := .value x, args := #[], argTypes := tys }, ty, pos, aJ, none⟩ :: rest)) e R H := fun a w hr st => wpList_plain rfl fun K hK => by
 have hrun : (execOp a.eval (⟨none, .defer { callee := .value x, args := #[], argTypes := tys }, ty, pos, aJ, none⟩ : Oper)).run P w = .ok (.defer (xZ f fi ca)) w := by
  simp [execOp, resolve, hr.ev hx, Deferred.ofValue, xZ]
 unfold Oper.wp
 rw [hrun]
 exact hK _ _ (k { a with defers := xZ f fi ca :: a.defers } w ⟨hr.size, by show _ :: _ = _ :: _; rw [hr.defers], hr.get⟩ st)
theorem aEl {f : FuncId} {fi ca : List Value} (hf : eY P f = true) (w : World) : (invoke (.fn (.func f) ca.toArray) fi.toArray).run P w = .ok (.enter f (fi ++ ca).toArray) w := by
 unfold eY at hf
 cases hq : P.funcs[f]? with
 | none => simp [hq] at hf
 | some fn =>
  simp [hq] at hf
  obtain ⟨eR, fM⟩ := hf
  cases hb : fn.body with
  | none => simp [hb] at fM
  | some c => simp [invoke, callFunc, hq, eR, hb]
theorem XK.aEf {nn : Nat} {f : FuncId} {fi ca : List Value} {fn : Func} {Post : Ending → World → Prop} (hf : eY P f = true)
  (fD : ∀ w, St w0 R H w → CallsD P f (fi ++ ca).toArray .returning w fun y u' w' => (∃ v, y = .returned v) ∧ u' = .returning ∧ St w0 R H' w')
  (hres : ∀ a w, cW ⟨nn, [xZ f fi ca]⟩ e a → St w0 R H' w → ∃ v, (results fn a.tmps).run P w = .ok v w ∧ Post (.returned v) w) :
  XK ⟨nn, [xZ f fi ca]⟩ w0 (bodyPostD P fn Post .ret) e R H := fun a w hr st => by
 show Leaves P fn a.tmps Post a.defers .returning w
 rw [hr.defers]
 refine leaves_cons (by simp) (aEl hf w) ((fD w st).mono ?_)
 rintro y u' w' ⟨⟨v, rfl⟩, rfl, st'⟩
 obtain ⟨v', h1, h2⟩ := hres a w' hr st'
 exact ⟨v', h1, h2⟩
end
end
section
set_option maxHeartbeats 4000000
set_option maxRecDepth 20000
def Mp (a b : Int) : Int := IntKind.u32.wrap (BitVec.ofInt 32 a &&& BitVec.ofInt 32 b).toNat
def Hv (a b : Int) : Int := IntKind.u32.wrap (BitVec.ofInt 32 a &&& ~~~ BitVec.ofInt 32 b).toNat
def Wm (a b : Int) : Int := IntKind.u32.wrap (BitVec.ofInt 32 a ||| BitVec.ofInt 32 b).toNat
theorem aBS (a : Int) : 0 ≤ IntKind.u32.wrap a ∧ IntKind.u32.wrap a < 4294967296 := by
 unfold IntKind.wrap
 simp only [IntKind.signed, IntKind.bits, Bool.false_and, Bool.false_eq_true, if_false]
 exact ⟨Int.emod_nonneg _ (by decide), Int.emod_lt_of_pos _ (by decide)⟩
def xJ (many at' : Int) : Int := IntKind.u32.wrap (IntKind.u64.wrap (IntKind.u64.wrap (IntKind.u64.wrap (1 * 2 ^ min many.toNat 64) - 1) * 2 ^ min at'.toNat 64))
def bT (w low many : Int) : Int := Mp (w.fdiv (2 ^ min low.toNat 32)) (xJ many 0)
def Br (w low many v : Int) : Int × Int := if Hv v (xJ many 0) ≠ 0 then (0, 1) else (Wm (Hv w (xJ many low)) (IntKind.u32.wrap (v * 2 ^ min low.toNat 32)), 0)
def eU (w low many v : Int) : Int × Int := if v < 0 ∨ IntKind.i64.wrap (1 * 2 ^ min many.toNat 64) ≤ v then (0, 1) else if (Br w low many (IntKind.u32.wrap v)).2 ≠ 0 then (0, 1) else ((Br w low many (IntKind.u32.wrap v)).1, 0)
def okF (low many : Int) : Prop := 1 ≤ many ∧ many ≤ 32 ∧ 0 ≤ low ∧ low ≤ 32 - many
def Tu (many : Int) (v : Value) (w w' : World) : Prop := ∃ g, v = .tuple #[.func (.func 258) #[] #[.pointer (some ⟨g, 0, none⟩)], .bool true] ∧ RP (fresh w w') g 0 (.int .i64 many)
theorem Sh (a many : Int) (g : Nat) (w : World) (h : eK w g 0 (.int .i64 many)) (ha : 0 ≤ a) (hm : 0 ≤ many) :
  Calls Tryz.prog 258 #[.int .i64 a, .pointer (some ⟨g, 0, none⟩)] w (Rt (.int .u32 (xJ many a)) w) := by
 refine XK.enter (vs := [.int .i64 a, .pointer (some ⟨g, 0, none⟩)]) Tryz.func258 rfl Tryz.ntmps258 (by simp) ?_
 refine XK.seq ?_
 refine XK.region ?_
 refine aH rfl (by decide) ?_
 refine XK.aA ?_
 refine XK.seq ?_
 refine XK.region ?_
 refine fI (by kernel_rfl) rfl (Rd.eM (by simp) h) (by decide) ?_
 refine Bh rfl rfl (by omega) rfl (by decide) ?_
 refine vL rfl rfl rfl (by decide) ?_
 refine aF rfl (by decide) ?_
 refine Bh rfl rfl (by omega) rfl (by decide) ?_
 refine qN (kd := .u32) (ds := .int .u64) (by kernel_rfl) (by kernel_rfl) rfl rfl (by decide) ?_
 refine aH rfl (by decide) ?_
 refine XK.aA ?_
 refine XK.ret ?_
 refine XK.norm ?_
 exact XK.aK rfl rfl fun w1 st => ⟨rfl, st.below (by simp)⟩
theorem aAq (low many : Int) (w : World) (hok : okF low many) : Calls Tryz.prog 244 #[.int .i64 low, .int .i64 many] w (fun y w' => (∃ x, y = .returned x ∧ Tu many x w w') ∧ Below w.heap.size w w') := by
 refine XK.enter (vs := [.int .i64 low, .int .i64 many]) Tryz.func244 rfl Tryz.ntmps244 (by simp) ?_
 refine XK.go ?_
 refine bY rfl (by decide) fun g1 => ?_
 refine XK.go ?_
 (first | refine bO (t := 8) rfl (fun hg => ?_) (fun hg => ?_) | refine iX (t := 8) rfl (fun hg => ?_) (fun hg => ?_))
 ·
  refine XK.go ?_
  exact absurd hok (by unfold okF; omega)
 ·
  refine XK.go ?_
  (first | refine bO (t := 12) rfl (fun hg => ?_) (fun hg => ?_) | refine iX (t := 12) rfl (fun hg => ?_) (fun hg => ?_))
  ·
   refine XK.go ?_
   exact absurd hok (by unfold okF; omega)
  ·
   refine XK.go ?_
   (first | refine bO (t := 16) rfl (fun hg => ?_) (fun hg => ?_) | refine iX (t := 16) rfl (fun hg => ?_) (fun hg => ?_))
   ·
    refine XK.go ?_
    exact absurd hok (by unfold okF; omega)
   ·
    refine XK.go ?_
    refine XK.if_ rfl (fun h => ?_) (fun h => ?_)
    ·
     refine XK.go ?_
     exact absurd hok (by unfold okF; omega)
    ·
     refine XK.go ?_
     refine iA (vf := []) (vc := [.pointer (some ⟨g1, 0, none⟩)]) rfl rfl (by decide) ?_
     refine XK.go ?_
     refine XK.still [] [0] [] (by simp) rfl (by decide) (by decide) fun q hq _ hfr => ?_
     refine XK.fQ rfl rfl rfl fun w1 st => ⟨⟨_, rfl, g1, rfl, (RP.oG (o := 0) (v := .int .i64 many) (hq 0 _ (by simp) rfl) rfl).le (st.kX (by simp) (hfr (by simp) (by simp)))⟩, st.below (by simp)⟩
theorem aFj (w0 low many : Int) (w : World) (hok : okF low many) :
  Calls Tryz.prog 250 #[.int .u32 w0, .int .i64 low, .int .i64 many] w (Rt (.tuple #[.int .u32 (bT w0 low many), .int .i64 0]) w) := by
 refine XK.enter (vs := [.int .u32 w0, .int .i64 low, .int .i64 many]) Tryz.func250 rfl Tryz.ntmps250 (by simp) ?_
 refine XK.seq ?_
 refine XK.region ?_
 refine aH rfl (by decide) ?_
 refine aH rfl (by decide) ?_
 refine XK.aA ?_
 refine XK.seq ?_
 refine XK.region ?_
 refine aF rfl (by decide) ?_
 refine aF rfl (by decide) ?_
 refine jX [] (f := 244) (fi := []) (ca := []) (by kernel_rfl) rfl rfl (by decide) (by simp) (Tu many) (fun w1 st => aAq low many w1 hok) ?_
 rintro _ w1 q1 ⟨g, rfl, bM⟩ hf _ _
 have bM := bM.le hf
 clear hf
 refine aF rfl (by decide) ?_
 refine nG rfl rfl (by decide) ?_
 refine nG rfl rfl (by decide) ?_
 refine aH rfl (by decide) ?_
 refine aH rfl (by decide) ?_
 refine XK.aA ?_
 refine XK.seq ?_
 refine XK.seq ?_
 refine XK.region ?_
 refine aF rfl (by decide) ?_
 (first | refine mO rfl (by decide) ?_ | refine mP rfl (by decide) ?_)
 refine XK.aA ?_
 refine XK.cond rfl (fun h => ?_) (fun h => ?_)
 ·
  refine XK.seq ?_
  refine XK.region ?_
  refine aH rfl (by decide) ?_
  refine aH rfl (by decide) ?_
  refine XK.aA ?_
  refine XK.ret ?_
  refine XK.norm ?_
  exact absurd h (by simp)
 ·
  refine XK.skip ?_
  refine XK.norm ?_
  refine XK.seq ?_
  refine XK.draw 5 (by kernel_rfl) (by kernel_rfl) ?_
  refine XA.dA 0 rfl rfl rfl (cE rfl) ?_
  refine XA.dA 1 rfl rfl rfl (cE rfl) ?_
  refine XA.dA 2 rfl rfl rfl (aA4 rfl rfl (by unfold okF at hok; omega) rfl) ?_
  refine XA.dA 3 rfl rfl rfl (cE rfl) ?_
  refine XA.next 4 rfl (by kernel_rfl) ?_
  refine bA (f := 258) (fi := []) (ca := [.pointer (some ⟨g, 0, none⟩)]) (by kernel_rfl) rfl rfl (by decide) (fun w1 st => Sh 0 many g w1 (bM.le (st.le (by simp))) (by unfold okF at hok; omega) (by unfold okF at hok; omega)) ?_
  refine XA.bk ?_
  refine XA.next 5 rfl (by kernel_rfl) ?_
  refine Nh (c := bT w0 low many) rfl rfl (fun _ => rfl) (by simp) (by decide) ?_
  refine XA.bt ?_
  refine XA.next 6 rfl (by kernel_rfl) ?_
  refine aH rfl (by decide) ?_
  refine XA.bt ?_
  refine XA.next 7 rfl (by kernel_rfl) ?_
  refine aH rfl (by decide) ?_
  refine XA.bt ?_
  refine XA.done (by kernel_rfl) ?_
  refine XK.norm ?_
  refine XK.ret ?_
  refine XK.norm ?_
  exact XK.fQ rfl rfl rfl fun w1 st => ⟨rfl, st.below (by simp)⟩
theorem aCW (w0 low many v : Int) (w : World) (hok : okF low many) :
  Calls Tryz.prog 218 #[.int .u32 w0, .int .i64 low, .int .i64 many, .int .u32 v] w (Rt (.tuple #[.int .u32 (Br w0 low many v).1, .int .i64 (Br w0 low many v).2]) w) := by
 refine XK.enter (vs := [.int .u32 w0, .int .i64 low, .int .i64 many, .int .u32 v]) Tryz.func218 rfl Tryz.ntmps218 (by simp) ?_
 refine XK.seq ?_
 refine XK.region ?_
 refine aH rfl (by decide) ?_
 refine aH rfl (by decide) ?_
 refine XK.aA ?_
 refine XK.seq ?_
 refine XK.region ?_
 refine aF rfl (by decide) ?_
 refine aF rfl (by decide) ?_
 refine jX [] (f := 244) (fi := []) (ca := []) (by kernel_rfl) rfl rfl (by decide) (by simp) (Tu many) (fun w1 st => aAq low many w1 hok) ?_
 rintro _ w1 q1 ⟨g, rfl, bM⟩ hf _ _
 have bM := bM.le hf
 clear hf
 refine aF rfl (by decide) ?_
 refine nG rfl rfl (by decide) ?_
 refine nG rfl rfl (by decide) ?_
 refine aH rfl (by decide) ?_
 refine aH rfl (by decide) ?_
 refine XK.aA ?_
 refine XK.seq ?_
 refine XK.seq ?_
 refine XK.region ?_
 refine aF rfl (by decide) ?_
 (first | refine mO rfl (by decide) ?_ | refine mP rfl (by decide) ?_)
 refine XK.aA ?_
 refine XK.cond rfl (fun h => ?_) (fun h => ?_)
 ·
  refine XK.seq ?_
  refine XK.region ?_
  refine aH rfl (by decide) ?_
  refine aH rfl (by decide) ?_
  refine XK.aA ?_
  refine XK.ret ?_
  refine XK.norm ?_
  exact absurd h (by simp)
 ·
  refine XK.skip ?_
  refine XK.norm ?_
  refine XK.seq ?_
  refine XK.seq ?_
  refine XK.region ?_
  refine aF rfl (by decide) ?_
  refine aF rfl (by decide) ?_
  refine bA (f := 258) (fi := []) (ca := [.pointer (some ⟨g, 0, none⟩)]) (by kernel_rfl) rfl rfl (by decide) (fun w1 st => Sh 0 many g w1 (bM.le (st.le (by simp))) (by unfold okF at hok; omega) (by unfold okF at hok; omega)) ?_
  refine Nh (c := Hv v (xJ many 0)) rfl rfl (fun _ => rfl) (by simp) (by decide) ?_
  refine mQ rfl rfl (by decide) ?_
  refine XK.aA ?_
  refine XK.if_ rfl (fun h => ?_) (fun h => ?_)
  ·
   refine XK.seq ?_
   refine XK.region ?_
   refine aH rfl (by decide) ?_
   refine aH rfl (by decide) ?_
   refine XK.aA ?_
   refine XK.ret ?_
   refine XK.norm ?_
   refine XK.fQ rfl rfl rfl fun w1 st => ⟨by rw [Br, if_pos h], st.below (by simp)⟩
  ·
   refine XK.skip ?_
   refine XK.norm ?_
   refine XK.seq ?_
   refine XK.draw 8 (by kernel_rfl) (by kernel_rfl) ?_
   refine XA.dA 0 rfl rfl rfl (cE rfl) ?_
   refine XA.dA 1 rfl rfl rfl (cE rfl) ?_
   refine XA.dA 2 rfl rfl rfl (cE rfl) ?_
   refine XA.dA 5 rfl rfl rfl (cE rfl) ?_
   refine XA.dA 6 rfl rfl rfl (cE rfl) ?_
   refine XA.dA 7 rfl rfl rfl (aGa rfl rfl (by unfold okF at hok; omega) rfl) ?_
   refine XA.next 3 rfl (by kernel_rfl) ?_
   refine bA (f := 258) (fi := []) (ca := [.pointer (some ⟨g, 0, none⟩)]) (by kernel_rfl) rfl rfl (by decide) (fun w1 st => Sh low many g w1 (bM.le (st.le (by simp))) (by unfold okF at hok; omega) (by unfold okF at hok; omega)) ?_
   refine XA.bk ?_
   refine XA.dA 4 rfl rfl rfl (aA7 (c := Hv w0 (xJ many low)) rfl rfl (fun _ => rfl) (by simp)) ?_
   refine XA.next 8 rfl (by kernel_rfl) ?_
   refine Nh (c := Wm (Hv w0 (xJ many low)) (IntKind.u32.wrap (v * 2 ^ min low.toNat 32))) rfl rfl (fun _ => rfl) (by simp) (by decide) ?_
   refine XA.bt ?_
   refine XA.next 9 rfl (by kernel_rfl) ?_
   refine aH rfl (by decide) ?_
   refine XA.bt ?_
   refine XA.next 10 rfl (by kernel_rfl) ?_
   refine aH rfl (by decide) ?_
   refine XA.bt ?_
   refine XA.done (by kernel_rfl) ?_
   refine XK.norm ?_
   refine XK.ret ?_
   refine XK.norm ?_
   refine XK.fQ rfl rfl rfl fun w1 st => ⟨by rw [Br, if_neg h], st.below (by simp)⟩
theorem Eo (w0 low many : Int) (w : World) (hok : okF low many) :
  Calls Tryz.prog 230 #[.int .u32 w0, .int .i64 low, .int .i64 many] w (Rt (.int .i64 (bT w0 low many)) w) := by
 refine XK.enter (vs := [.int .u32 w0, .int .i64 low, .int .i64 many]) Tryz.func230 rfl Tryz.ntmps230 (by simp) ?_
 refine XK.go ?_
 refine bA (f := 250) (fi := []) (ca := []) (by kernel_rfl) rfl rfl (by decide) (fun w1 st => aFj w0 low many w1 hok) ?_
 refine XK.go ?_
 refine qN (ds := .int .u32) (by kernel_rfl) (by kernel_rfl) rfl (aY (by have := aBS (BitVec.ofInt 32 (w0.fdiv (2 ^ min low.toNat 32)) &&& BitVec.ofInt 32 (xJ many 0)).toNat; unfold bT Mp; omega)) (by decide) ?_
 refine XK.go ?_
 exact XK.aK rfl rfl fun w1 st => ⟨rfl, st.below (by simp)⟩
theorem Jp (w0 low many v : Int) (w : World) (hok : okF low many) :
  Calls Tryz.prog 149 #[.int .u32 w0, .int .i64 low, .int .i64 many, .int .i64 v] w (Rt (.tuple #[.int .u32 (eU w0 low many v).1, .int .i64 (eU w0 low many v).2]) w) := by
 refine XK.enter (vs := [.int .u32 w0, .int .i64 low, .int .i64 many, .int .i64 v]) Tryz.func149 rfl Tryz.ntmps149 (by simp) ?_
 refine XK.seq ?_
 refine XK.region ?_
 refine aH rfl (by decide) ?_
 refine aH rfl (by decide) ?_
 refine XK.aA ?_
 refine XK.seq ?_
 refine XK.seq ?_
 refine XK.region ?_
 refine aF rfl (by decide) ?_
 refine fB rfl rfl (by decide) ?_
 refine aF rfl (by decide) ?_
 (first | refine bO (t := 13) rfl (fun hg => ?_) (fun hg => ?_) | refine iX (t := 13) rfl (fun hg => ?_) (fun hg => ?_))
 ·
  refine aN rfl rfl rfl (by decide) ?_
  refine aN rfl rfl rfl (by decide) ?_
  refine aN rfl rfl rfl (by decide) ?_
  refine aN rfl rfl rfl (by decide) ?_
  (first | refine bJ rfl rfl (by decide) ?_ | refine bK rfl rfl (by decide) ?_)
  refine XK.aA ?_
  refine XK.cond rfl (fun _ => ?_) (fun h => by cases h)
  refine XK.seq ?_
  refine XK.region ?_
  refine aH rfl (by decide) ?_
  refine aH rfl (by decide) ?_
  refine XK.aA ?_
  refine XK.ret ?_
  refine XK.norm ?_
  refine XK.fQ rfl rfl rfl fun w1 st => ⟨by rw [eU, if_pos (.inl hg)], st.below (by simp)⟩
 ·
  refine aO rfl rfl ?_; refine aF rfl (by decide) ?_
  refine aO rfl rfl ?_; refine aF rfl (by decide) ?_
  refine aO rfl rfl ?_; refine Bh rfl rfl (by unfold okF at hok; omega) rfl (by decide) ?_
  refine aO rfl rfl ?_; refine uK rfl rfl (by decide) ?_
  (first | refine bJ rfl rfl (by decide) ?_ | refine bK rfl rfl (by decide) ?_)
  refine XK.aA ?_
  refine XK.if_ rfl (fun h => ?_) (fun h => ?_)
  ·
   refine XK.seq ?_
   refine XK.region ?_
   refine aH rfl (by decide) ?_
   refine aH rfl (by decide) ?_
   refine XK.aA ?_
   refine XK.ret ?_
   refine XK.norm ?_
   refine XK.fQ rfl rfl rfl fun w1 st => ⟨by rw [eU, if_pos (.inr h)], st.below (by simp)⟩
  ·
   refine XK.skip ?_
   have hno : ¬ (v < 0 ∨ IntKind.i64.wrap (1 * 2 ^ min many.toNat 64) ≤ v) := fun h2 => h2.elim hg h
   refine XK.norm ?_
   refine XK.seq ?_
   refine XK.region ?_
   refine aF rfl (by decide) ?_
   refine aF rfl (by decide) ?_
   refine aF rfl (by decide) ?_
   refine aF rfl (by decide) ?_
   refine qN (kd := .u32) (ds := .int .i64) (by kernel_rfl) (by kernel_rfl) rfl rfl (by decide) ?_
   refine bA (f := 218) (fi := []) (ca := []) (by kernel_rfl) rfl rfl (by decide) (fun w1 st => aCW w0 low many (IntKind.u32.wrap v) w1 hok) ?_
   refine aF rfl (by decide) ?_
   refine nG rfl rfl (by decide) ?_
   refine nG rfl rfl (by decide) ?_
   refine aH rfl (by decide) ?_
   refine aH rfl (by decide) ?_
   refine XK.aA ?_
   refine XK.seq ?_
   refine XK.seq ?_
   refine XK.region ?_
   refine aF rfl (by decide) ?_
   refine mQ rfl rfl (by decide) ?_
   refine XK.aA ?_
   refine XK.if_ rfl (fun h2 => ?_) (fun h2 => ?_)
   ·
    refine XK.seq ?_
    refine XK.region ?_
    refine aH rfl (by decide) ?_
    refine aH rfl (by decide) ?_
    refine XK.aA ?_
    refine XK.ret ?_
    refine XK.norm ?_
    refine XK.fQ rfl rfl rfl fun w1 st => ⟨by rw [eU, if_neg hno, if_pos h2], st.below (by simp)⟩
   ·
    refine XK.skip ?_
    refine XK.norm ?_
    refine XK.seq ?_
    refine XK.region ?_
    refine aF rfl (by decide) ?_
    refine aH rfl (by decide) ?_
    refine aH rfl (by decide) ?_
    refine XK.aA ?_
    refine XK.ret ?_
    refine XK.norm ?_
    refine XK.fQ rfl rfl rfl fun w1 st => ⟨by rw [eU, if_neg hno, if_neg h2]; rfl, st.below (by simp)⟩
end
section
open Go.RowKit Go.Shelf
attribute [local go_sem] Oper.semAt_some
structure Ev where
 kind : Int
 task : Int
 ck : Int
 dev : Int
 Oj : Int
 cv : Int
 err : Int
 rv : Int
 aid : Int
 aHa : Int
 aHb : Bool
 av : Int
 alive : Bool
 wA : Option Addr
 wc : Nat
 ws : List Int
def Ev.cells (e : Ev) : List Value :=
 [.int .u8 e.kind, .int .i64 e.task, .int .u8 e.ck, .int .i64 e.dev, .int .i64 e.Oj, .int .u32 e.cv, .int .i64 e.err, .int .u32 e.rv, .int .i64 e.aid, .int .i64 e.aHa, .bool e.aHb, .int .u32 e.av, .bool e.alive, .slice e.wA e.ws.length e.wc]
theorem Ev.Hr (e : Ev) : e.cells.length = 14 := rfl
def aHf (w : World) (b o : Nat) (e : Ev) : Prop := ∀ f u, e.cells[f]? = some u → w.cell? ⟨b, o + f, none⟩ = some u
def iI (zs : List Int) : List Value := zs.map (Value.int .u32)
def aHe (w : World) (B : Nat) (e : Ev) : Prop := Sl w B 1 e.wA e.ws.length (iI e.ws)
def yI (w : World) (B : Nat) (A : Option Addr) (cU : List Ev) : Prop := Sl w B 14 A cU.length (cU.flatMap Ev.cells) ∧ ∀ e ∈ cU, aHe w B e
theorem yI.at_ {w : World} {B : Nat} {A : Option Addr} {cU : List Ev} (h : yI w B A cU) {k : Nat} {e : Ev} (hk : cU[k]? = some e) :
  ∃ b off, A = some ⟨b, off, none⟩ ∧ b < B ∧ aHf w b (off + k * 14) e := by
 have hlt : k < cU.length := by
  rcases Nat.lt_or_ge k cU.length with h | h
  ·exact h
  ·rw [List.getElem?_eq_none h] at hk; cases hk
 obtain ⟨b, off, hA, hb, hc⟩ := Sl.at_ h.1 hlt
 refine ⟨b, off, hA, hb, fun f u hu => ?_⟩
 have hf : f < 14 := by
  rcases Nat.lt_or_ge f 14 with h | h
  ·exact h
  ·rw [List.getElem?_eq_none (by rw [Ev.Hr]; exact h)] at hu; cases hu
 exact hc f u (by rw [Aj Ev.cells 14 cU (fun _ _ => rfl) k f e hk hf]; exact hu)
theorem yI.below {w w' : World} {B : Nat} {A : Option Addr} {cU : List Ev} (h : yI w B A cU) (hb : Below B w w') : yI w' B A cU := ⟨h.1.below hb, fun e he => (h.2 e he).below hb⟩
theorem yI.thn {w w' : World} {A : Option Addr} {cU : List Ev} (h : yI w w.heap.size A cU) (hb : Below w.heap.size w w') : yI w' w'.heap.size A cU := ⟨h.1.thn hb, fun e he => (h.2 e he).thn hb⟩
end
section
set_option maxHeartbeats 4000000
set_option maxRecDepth 20000
def jI (m t p k : Int) : Int × Int :=
 if (eU 0 0 8 m).2 ≠ 0 then (0, (eU 0 0 8 m).2)
 else if (eU (eU 0 0 8 m).1 8 2 t).2 ≠ 0 then (0, (eU (eU 0 0 8 m).1 8 2 t).2)
 else if (eU (eU (eU 0 0 8 m).1 8 2 t).1 10 8 p).2 ≠ 0 then (0, (eU (eU (eU 0 0 8 m).1 8 2 t).1 10 8 p).2)
 else if (eU (eU (eU (eU 0 0 8 m).1 8 2 t).1 10 8 p).1 18 10 k).2 ≠ 0 then (0, (eU (eU (eU (eU 0 0 8 m).1 8 2 t).1 10 8 p).1 18 10 k).2)
 else ((eU (eU (eU (eU 0 0 8 m).1 8 2 t).1 10 8 p).1 18 10 k).1, 0)
def zS (m t p k : Int) : List Value := [.int .i64 m, .int .i64 t, .int .i64 p, .int .i64 k]
def yN (w : Int) : List Value := if bT w 28 4 ≠ 0 then zS 0 0 0 0 else zS (bT w 0 8) (bT w 8 2) (bT w 10 8) (bT w 18 10)
def qP (w : Int) : Int := if bT w 28 4 ≠ 0 then 2 else 0
theorem Dz (l : List Int) : ∀ u ∈ iI l, u.oneCell' = true := by
 intro u hu
 simp only [iI, List.mem_map] at hu
 obtain ⟨_, _, rfl⟩ := hu
 rfl
def Ie (l : List Int) (v : Value) (w w' : World) : Prop := ∃ A c, v = .slice A l.length c ∧ aI (fresh w w') 1 A l.length (iI l)
theorem aDj (m t p k : Int) (w : World) :
  Calls Tryz.prog 69 #[.agg #[.int .i64 m, .int .i64 t, .int .i64 p, .int .i64 k]] w (Rt (.tuple #[.int .u32 (jI m t p k).1, .int .i64 (jI m t p k).2]) w) := by
 refine XK.enter (vs := [.agg #[.int .i64 m, .int .i64 t, .int .i64 p, .int .i64 k]]) Tryz.func69 rfl Tryz.ntmps69 (by simp) ?_
 refine XK.go ?_
 refine bY rfl (by decide) fun g1 => ?_
 refine XK.go ?_
 refine bA (f := 149) (fi := []) (ca := []) (by kernel_rfl) rfl rfl (by decide) (fun w1 st => Jp 0 0 8 m w1 (by unfold okF; omega)) ?_
 refine XK.go ?_
 refine XK.if_ rfl (fun h1 => ?_) (fun h1 => ?_)
 ·
  refine XK.go ?_
  refine XK.fQ rfl rfl rfl fun w1 st => ⟨by rw [jI, if_pos h1]; rfl, st.below (by simp)⟩
 ·
  refine XK.go ?_
  refine bA (f := 149) (fi := []) (ca := []) (by kernel_rfl) rfl rfl (by decide) (fun w1 st => Jp (eU 0 0 8 m).1 8 2 t w1 (by unfold okF; omega)) ?_
  refine XK.go ?_
  refine XK.if_ rfl (fun h2 => ?_) (fun h2 => ?_)
  ·
   refine XK.go ?_
   refine XK.fQ rfl rfl rfl fun w1 st => ⟨by rw [jI, if_neg h1, if_pos h2]; rfl, st.below (by simp)⟩
  ·
   refine XK.go ?_
   refine bA (f := 149) (fi := []) (ca := []) (by kernel_rfl) rfl rfl (by decide) (fun w1 st => Jp (eU (eU 0 0 8 m).1 8 2 t).1 10 8 p w1 (by unfold okF; omega)) ?_
   refine XK.go ?_
   refine XK.if_ rfl (fun h3 => ?_) (fun h3 => ?_)
   ·
    refine XK.go ?_
    refine XK.fQ rfl rfl rfl fun w1 st => ⟨by rw [jI, if_neg h1, if_neg h2, if_pos h3]; rfl, st.below (by simp)⟩
   ·
    refine XK.go ?_
    refine bA (f := 149) (fi := []) (ca := []) (by kernel_rfl) rfl rfl (by decide) (fun w1 st => Jp (eU (eU (eU 0 0 8 m).1 8 2 t).1 10 8 p).1 18 10 k w1 (by unfold okF; omega)) ?_
    refine XK.go ?_
    refine XK.if_ rfl (fun h4 => ?_) (fun h4 => ?_)
    ·
     refine XK.go ?_
     refine XK.fQ rfl rfl rfl fun w1 st => ⟨by rw [jI, if_neg h1, if_neg h2, if_neg h3, if_pos h4]; rfl, st.below (by simp)⟩
    ·
     refine XK.go ?_
     refine XK.fQ rfl rfl rfl fun w1 st => ⟨by rw [jI, if_neg h1, if_neg h2, if_neg h3, if_neg h4]; rfl, st.below (by simp)⟩
theorem Uv (w0 : Int) (w : World) :
  Calls Tryz.prog 175 #[.int .u32 w0] w (Rt (.tuple #[.agg (yN w0).toArray, .int .i64 (qP w0)]) w) := by
 refine XK.enter (vs := [.int .u32 w0]) Tryz.func175 rfl Tryz.ntmps175 (by simp) ?_
 refine XK.go ?_
 refine cD (cs := [.int .i64 0, .int .i64 0, .int .i64 0, .int .i64 0]) (aM (by kernel_rfl)) (by decide) fun g1 => ?_
 refine XK.go ?_
 refine bA (f := 230) (fi := []) (ca := []) (by kernel_rfl) rfl rfl (by decide) (fun w1 st => Eo w0 28 4 w1 (by unfold okF; omega)) ?_
 refine XK.go ?_
 refine XK.if_ rfl (fun h => ?_) (fun h => ?_)
 ·
  refine XK.go ?_
  refine dJ (zs := [.int .i64 0, .int .i64 0, .int .i64 0, .int .i64 0]) (L := [(0, 1), (1, 1), (2, 1), (3, 1)]) (aM (by kernel_rfl)) (by kernel_rfl) rfl (by simp [aS, aT, Value.cells]; rfl) (by decide) ?_
  refine eA rfl rfl ?_; simp only [bZ, Value.cells, List.set, List.take, List.drop, List.nil_append, List.append_nil, List.length_cons, List.length_nil, List.cons_append, Nat.reduceAdd]
  refine XK.go ?_
  refine XK.Em rfl (n := 4) (vs := zS 0 0 0 0) (by kernel_rfl) rfl rfl (aC.whole 0 rfl) rfl fun w1 st => ⟨by rw [yN, qP, if_pos h, if_pos h], st.below (by simp)⟩
 ·
  refine XK.go ?_
  refine bA (f := 230) (fi := []) (ca := []) (by kernel_rfl) rfl rfl (by decide) (fun w1 st => Eo w0 0 8 w1 (by unfold okF; omega)) ?_
  refine XK.go ?_
  refine bA (f := 230) (fi := []) (ca := []) (by kernel_rfl) rfl rfl (by decide) (fun w1 st => Eo w0 8 2 w1 (by unfold okF; omega)) ?_
  refine XK.go ?_
  refine bA (f := 230) (fi := []) (ca := []) (by kernel_rfl) rfl rfl (by decide) (fun w1 st => Eo w0 10 8 w1 (by unfold okF; omega)) ?_
  refine XK.go ?_
  refine bA (f := 230) (fi := []) (ca := []) (by kernel_rfl) rfl rfl (by decide) (fun w1 st => Eo w0 18 10 w1 (by unfold okF; omega)) ?_
  refine dJ (zs := [.int .i64 0, .int .i64 0, .int .i64 0, .int .i64 0]) (L := [(0, 1), (1, 1), (2, 1), (3, 1)]) (aM (by kernel_rfl)) (by kernel_rfl) rfl (by simp [aS, aT, Value.cells]; rfl) (by decide) ?_
  refine eA rfl rfl ?_; simp only [bZ, Value.cells, List.set, List.take, List.drop, List.nil_append, List.append_nil, List.length_cons, List.length_nil, List.cons_append, Nat.reduceAdd]
  refine XK.go ?_
  refine XK.Em rfl (n := 4) (vs := zS (bT w0 0 8) (bT w0 8 2) (bT w0 10 8) (bT w0 18 10)) (by kernel_rfl) rfl rfl (aC.whole 0 rfl) rfl fun w1 st => ⟨by rw [yN, qP, if_neg h, if_neg h], st.below (by simp)⟩
theorem aC8 (w0 : Int) (A : Option Addr) (n c : Nat) (zs : List Int) (w : World) (hs : aI (all w) 1 A n (iI zs)) (hn : n = zs.length) (hn2 : n ≤ 1000000) : Calls Tryz.prog 70 #[.int .u32 w0, .slice A n c] w (fun y w' => (∃ x, y = .returned x ∧ Ie (w0 :: zs) x w w') ∧ Below w.heap.size w w') := by
 refine XK.enter (vs := [.int .u32 w0, .slice A n c]) Tryz.func70 rfl Tryz.ntmps70 (by simp) ?_
 refine XK.go ?_
 refine Uk 1 4 (el := 44) (c := n + 1) (k0 := 1) (nO := .i64) (by kernel_rfl) (by kernel_rfl) rfl (by rw [Int.natCast_add]; rfl) (by omega) (by omega) (by decide) fun g1 => ?_
 refine XK.go ?_
 refine eZ (el := 44) (sz := 1) (zs := [.int .u32 0]) (by kernel_rfl) (aM (by kernel_rfl)) (by kernel_rfl) rfl (by decide) (by decide) rfl (by simp [aS, aT, Value.cells, List.range_succ, List.set]; rfl) (by decide) fun g2 => ?_
 refine fA 1 1 4 1 (n' := 1) (el := 44) (by kernel_rfl) (by kernel_rfl) (by decide) rfl rfl rfl (jY 0 rfl rfl) (by simp [Value.oneCell']) rfl (by omega) (by omega) (by decide) fun A1 c1 => ?_
 dsimp only [List.set]
 refine XK.go ?_
 refine fA 1 1 4 n (n' := n + 1) (el := 44) (by kernel_rfl) (by kernel_rfl) (by decide) rfl rfl rfl (qQ (by simp) hs) (Dz _) (by omega) (by omega) (by omega) (by decide) fun A2 c2 => ?_
 dsimp only [List.set]
 refine XK.go ?_
 refine XK.still [] [1] [] (by simp) rfl (by decide) (by decide) fun q hq _ hfr => ?_
 obtain ⟨F2, kH, kE⟩ := hq 1 _ (by simp) rfl
 obtain ⟨Am, cm, hBm, cS⟩ := aI.qS (Y := q.Z) kH kE
 cases hBm
 subst hn
 refine XK.aK rfl rfl fun w1 st => ⟨⟨_, rfl, A2, c2, rfl, ?_⟩, st.below (by simp)⟩
 exact aI.le cS (st.kX (by simp) (hfr (by simp) (by simp)))
def aBk (l : List Int) (v : Value) (w w' : World) : Prop := ∃ A c, v = .tuple #[.slice A l.length c, .int .i64 0] ∧ aI (fresh w w') 1 A l.length (iI l)
theorem aGt (m t p k : Int) (A : Option Addr) (n c : Nat) (zs : List Int) (w : World) (hs : aI (all w) 1 A n (iI zs)) (hn : n = zs.length) (hn2 : n ≤ 1000000) (hok : (jI m t p k).2 = 0) : Calls Tryz.prog 18 #[.agg #[.int .i64 m, .int .i64 t, .int .i64 p, .int .i64 k], .slice A n c] w (fun y w' => (∃ x, y = .returned x ∧ aBk ((jI m t p k).1 :: zs) x w w') ∧ Below w.heap.size w w') := by
 refine XK.enter (vs := [.agg #[.int .i64 m, .int .i64 t, .int .i64 p, .int .i64 k], .slice A n c]) Tryz.func18 rfl Tryz.ntmps18 (by simp) ?_
 refine XK.go ?_
 refine bY rfl (by decide) fun g1 => ?_
 refine XK.go ?_
 refine bA (f := 69) (fi := []) (ca := []) (by kernel_rfl) rfl rfl (by decide) (fun w1 st => aDj m t p k w1) ?_
 refine XK.go ?_
 refine XK.if_ rfl (fun h => ?_) (fun h => ?_)
 ·
  refine XK.go ?_
  exact absurd hok h
 ·
  refine XK.go ?_
  refine jX [] (f := 70) (fi := []) (ca := []) (by kernel_rfl) rfl rfl (by decide) (by simp) (Ie ((jI m t p k).1 :: zs)) (fun w1 st => aC8 (jI m t p k).1 A n c zs w1 (hs.le (st.le (by simp))) hn hn2) ?_
  rintro _ w1 q1 ⟨A1, c1, rfl, h1⟩ hf _ xR
  have xR := xR (by simp)
  have h1 := h1.le hf
  clear hf
  refine XK.go ?_
  refine XK.fQ rfl rfl rfl fun w1 st => ⟨⟨_, rfl, A1, c1, rfl, aI.le h1 (st.kX (by simp) xR)⟩, st.below (by simp)⟩
end
section
theorem Xp (l : List Int) : ∀ u ∈ aR l, u.oneCell' = true := by
 intro u hu
 simp only [aR, List.mem_map] at hu
 obtain ⟨x, _, rfl⟩ := hu
 rfl
end
section
def sS (g : List (List Int)) : Prop := ∀ (k : Nat) (l : List Int), g[k]? = some l → ∀ u ∈ l, 0 ≤ u ∧ u < (k : Int)
theorem sS.in {g : List (List Int)} (h : sS g) : rM g := by
 intro l hl u hu
 obtain ⟨k, hk⟩ := List.getElem?_of_mem hl
 have := h k l hk u hu
 have := (List.getElem?_eq_some_iff.1 hk).1
 omega
theorem sS.next {g : List (List Int)} (h : sS g) {k : Nat} (hk : k < g.length) : xI g (List.range k) = some k := by
 refine Wu hk (fun j hj => Oo (by simpa using hj)) ?_
 unfold oF
 obtain ⟨l, hl⟩ : ∃ l, g[k]? = some l := ⟨_, List.getElem?_eq_getElem hk⟩
 rw [hl]
 simp only [Option.getD_some, Bool.and_eq_true, Bool.not_eq_true', List.all_eq_true]
 refine ⟨by simp, fun u hu => ?_⟩
 have := h k l hl u hu
 simp; omega
theorem sS.order {g : List (List Int)} (h : sS g) : ∀ (m k : Nat), k + m = g.length → nL g m (List.range k) = some (List.range g.length)
 | 0, k, hk => by rw [nL]; simp at hk; rw [hk]
 | m + 1, k, hk => by
  rw [nL, h.next (by omega)]
  have := sS.order h m (k + 1) (by omega)
  rw [List.range_succ] at this
  exact this
theorem sS.kO {g : List (List Int)} (h : sS g) (hl : g.length ≤ 100) : kO g = (0, List.range g.length) := by
 have h1 : vH g = false := aAO fun k l hk j u hj => by
  have := h.in l (List.mem_of_getElem? hk) u (List.mem_of_getElem? hj)
  exact this
 have h2 : lG g = 0 := by unfold lG; rw [if_neg (by omega), h1]; rfl
 have h3 := h.order g.length 0 (by omega)
 unfold Go.Proofs.YticjkhagldkejaaGreatDoor.kO
 rw [if_neg (by simp [h2])]
 simp only [List.range_zero] at h3
 rw [h3]
end
section
theorem uB {es : List Int} (h : ∀ e ∈ es, e = 0) : fY es = 0 := xU fun j hj => by rw [List.getElem?_eq_getElem hj, h _ (List.getElem_mem hj)]
theorem wZ {n lo hi : Int} (h1 : lo ≤ n) (h2 : n ≤ hi) : eI n lo hi = true := by simp [eI, h1, h2]
theorem tD {b : Bool} {e : Int} (h : b = false) : eL b e = 0 := by rw [h]; rfl
section
variable {s : aD} (h : s.made)
include h
theorem aDY : sS (lT s) := by
 intro k l hl u hu
 simp only [lT, List.getElem?_map, Option.map_eq_some_iff] at hl
 obtain ⟨c, hc, rfl⟩ := hl
 exact (h.aB k c hc).1 u hu
theorem aDW : sS (lQ s) := by
 intro k l hl u hu
 simp only [lQ, List.getElem?_map, Option.map_eq_some_iff] at hl
 obtain ⟨d, hd, rfl⟩ := hl
 have := (h.domains k d hd).1
 split at hu
 ·cases hu
 ·rename_i hne
  simp at hu
  subst hu
  exact this.resolve_left hne
theorem aDV : sS (lI s) := by
 intro k l hl u hu
 simp only [lI, List.getElem?_map, Option.map_eq_some_iff] at hl
 obtain ⟨d, hd, rfl⟩ := hl
 obtain ⟨_, _, _, _, _, _, _, _, _, _, _, h1⟩ := h.aG k d hd
 exact h1 u hu
theorem Xh : s.small := by
 refine ⟨by have := h.nc; omega, by have := h.nd; omega, by have := h.nr; omega, by have := h.nv; omega, fun c hc => ?_, fun d hd => ?_⟩
 ·obtain ⟨k, hk⟩ := List.getElem?_of_mem hc
  rcases (h.aB k c hk).2 with h1 | h1 | h1 | h1 | h1
  ·rw [h1.2.1]; simp
  all_goals (have := h1.2.1; omega)
 ·obtain ⟨k, hk⟩ := List.getElem?_of_mem hd
  obtain ⟨_, _, _, _, _, _, _, _, _, _, h1, _⟩ := h.aG k d hk
  omega
theorem aDU : kO (lT s) = (0, List.range s.aB.length) ∧ kO (lQ s) = (0, List.range s.domains.length) ∧ kO (lI s) = (0, List.range s.aG.length) := by
 refine ⟨?_, ?_, ?_⟩
 ·have := (aDY h).kO (by simp [lT]; have := h.nc; omega)
  simpa [lT] using this
 ·have := (aDW h).kO (by simp [lQ]; have := h.nd; omega)
  simpa [lQ] using this
 ·have := (aDV h).kO (by simp [lI]; have := h.nv; omega)
  simpa [lI] using this
theorem aDZ {k : Nat} {c : cZ} (hc : s.aB[k]? = some c) : Ay s.aB.length c = 0 := by
 have hk := (List.getElem?_eq_some_iff.1 hc).1
 obtain ⟨h1, h2⟩ := h.aB k c hc
 refine uB fun e he => ?_
 simp only [List.mem_cons, List.not_mem_nil, or_false] at he
 rcases he with rfl | rfl | rfl
 ·refine tD ?_
  rcases h2 with h2 | h2 | h2 | h2 | h2
  ·simp [gP, h2.1, h2.2.1]
  ·simp [gP, h2.1, h2.2.1]
  ·simp [gP, h2.1, h2.2.1]
  ·simp [gP, h2.1, h2.2.1]
  ·simp [gP, h2.1, h2.2.1, eI]
 ·refine uB fun e he => ?_
  simp only [List.mem_map] at he
  obtain ⟨f, hf, rfl⟩ := he
  have := h1 f hf
  exact tD (by rw [wZ (by omega) (by omega)]; rfl)
 ·refine tD ?_
  rcases h2 with h2 | h2 | h2 | h2 | h2
  ·obtain ⟨h3, _, h4, h5, _⟩ := h2
   simp [nM, h3]; omega
  ·obtain ⟨h3, _, _, h4, h5, h6, h7, h8, h9⟩ := h2
   simp [nM, h3, eI]; omega
  ·obtain ⟨h3, _, _, _, h4, h5, _⟩ := h2
   simp [nM, h3, eI]; omega
  ·simp [nM, h2.1]
  ·simp [nM, h2.1]
theorem aDX {k : Nat} {d : Dom} (hd : s.domains[k]? = some d) : Cr s.domains.length d = 0 := by
 have hk := (List.getElem?_eq_some_iff.1 hd).1
 obtain ⟨h1, h2, h3⟩ := h.domains k d hd
 refine uB fun e he => ?_
 simp only [List.mem_cons, List.not_mem_nil, or_false] at he
 rcases he with rfl | rfl
 ·refine tD ?_
  rcases h1 with h1 | h1
  ·simp [h1]
  ·rw [wZ (by omega) (by omega)]; simp
 ·exact tD (by rw [wZ (by omega) (by omega)]; rfl)
theorem Xi {k : Nat} {d : bN} (hd : s.aG[k]? = some d) : Cw s.aB.length s.domains.length s.aU.length s.aG.length d = 0 ∧ Bx d = 0 := by
 have hk := (List.getElem?_eq_some_iff.1 hd).1
 obtain ⟨a1, a2, a3, a4, a5, a6, _, _, a7, _, a8, a9⟩ := h.aG k d hd
 refine ⟨uB fun e he => ?_, ?_⟩
 ·simp only [List.mem_cons, List.not_mem_nil, or_false] at he
  rcases he with rfl | rfl | rfl | rfl
  ·exact tD (by rw [wZ (by omega) (by omega)]; rfl)
  ·exact tD (by rw [wZ (by omega) (by omega)]; rfl)
  ·exact tD (by rw [wZ (by omega) (by omega)]; rfl)
  ·refine uB fun e he => ?_
   simp only [List.mem_map] at he
   obtain ⟨f, hf, rfl⟩ := he
   have := a9 f hf
   exact tD (by rw [wZ (by omega) (by omega)]; rfl)
 ·refine tD ?_
  simp
  omega
theorem aEa : Mj s = 0 := by
 obtain ⟨o1, o2, o3⟩ := aDU h
 refine uB fun e he => ?_
 simp only [Mk, List.mem_cons, List.not_mem_nil, or_false] at he
 have h1 := h.nc
 have h2 := h.nd
 have h3 := h.nr
 have h4 := h.nv
 rcases he with rfl | rfl | rfl | rfl | rfl | rfl | rfl | rfl
 ·rw [wF, if_neg (by omega)]
  refine uB fun e he => ?_
  obtain ⟨d, hd, rfl⟩ := List.mem_map.1 he
  obtain ⟨k, hk⟩ := List.getElem?_of_mem hd
  exact (Xi h hk).2
 ·refine uB fun e he => ?_
  obtain ⟨d, hd, rfl⟩ := List.mem_map.1 he
  obtain ⟨k, hk⟩ := List.getElem?_of_mem hd
  exact aDZ h hk
 ·rw [vD, o1]; rfl
 ·refine uB fun e he => ?_
  obtain ⟨d, hd, rfl⟩ := List.mem_map.1 he
  obtain ⟨k, hk⟩ := List.getElem?_of_mem hd
  exact aDX h hk
 ·rw [vD, o2]; rfl
 ·refine uB fun e he => ?_
  obtain ⟨d, hd, rfl⟩ := List.mem_map.1 he
  have := h.aU d hd
  exact tD (by rw [wZ (by omega) (by omega)]; rfl)
 ·refine uB fun e he => ?_
  obtain ⟨d, hd, rfl⟩ := List.mem_map.1 he
  obtain ⟨k, hk⟩ := List.getElem?_of_mem hd
  exact (Xi h hk).1
 ·rw [vD, o3]; rfl
end
structure aD.iS (s : aD) : Prop where
 aB : Fits cZ.fit s.aB
 aG : Fits (bN.fit s.aB.length s.domains.length s.aU.length) s.aG
 nc : s.aB.length ≤ 9
 nd : s.domains.length ≤ 4
 nr : s.aU.length ≤ 3
 nv : s.aG.length ≤ 4
 Da : Mj s = 0
 small : s.small
theorem aD.made.iS {s : aD} (h : s.made) : s.iS := ⟨h.aB, h.aG, h.nc.2, h.nd.2, h.nr.2, h.nv.2, aEa h, Xh h⟩
end
section
def Lo : Value → Value → Bool
 | .int _ a, .int _ b => a == b
 | .bool a, .bool b => a == b
 | _, _ => false
def Cm : List Value → List Value → Bool
 | [], [] => true
 | x :: xs, y :: ys => Lo x y && Cm xs ys
 | _, _ => false
def xT (P : Program) : List Field → Nat → List Value → List Value → Bool
 | [], _, [], [] => true
 | f :: fs, i, x :: xs, y :: ys => f.name != "_" && f.offset == i && (match P.underlying f.type, x, y with
   | some (.int _), .int kx _, .int ky _ => decide (kx = ky)
   | some .bool, .bool _, .bool _ => true
   | _, _, _ => false) && xT P fs (i + 1) xs ys
 | _, _, _, _ => false
section
variable {P : Program} {w : World}
theorem Ji {t : TypeId} {cs : Array Value} {i : Nat} {v : Value} {d : TypeDesc} (hu : P.underlying t = some d) (hd : (∃ k, d = .int k) ∨ d = .bool) (hx : cs[i]? = some v) : (part t cs i).run P w = .ok v w := by
 rcases hd with ⟨k, rfl⟩ | rfl <;> simp [part, isAgg, run_underlying hu, hx]
theorem Vq (d : Nat) (xs ys : Array Value) : ∀ (fs : List Field) (i : Nat), xT P fs i (xs.toList.drop i) (ys.toList.drop i) = true → (Op.eqFields (d + 1) xs ys fs).run P w = .ok (Cm (xs.toList.drop i) (ys.toList.drop i)) w
 | [], i, h => by
  cases hx : xs.toList.drop i with
  | nil => cases hy : ys.toList.drop i with
   | nil => simp [Op.eqFields, Cm]
   | cons y yr => rw [hx, hy] at h; simp [xT] at h
  | cons x xr => rw [hx] at h; simp [xT] at h
 | f :: fs, i, h => by
  cases hx : xs.toList.drop i with
  | nil => rw [hx] at h; simp [xT] at h
  | cons x xr =>
   cases hy : ys.toList.drop i with
   | nil => rw [hx, hy] at h; simp [xT] at h
   | cons y yr =>
    rw [hx, hy] at h
    simp only [xT, Bool.and_eq_true, bne_iff_ne, beq_iff_eq] at h
    obtain ⟨⟨⟨h1, h2⟩, h3⟩, h4⟩ := h
    have ex : xs[i]? = some x := by
     have : (xs.toList.drop i)[0]? = some x := by rw [hx]; rfl
     simpa using this
    have ey : ys[i]? = some y := by
     have : (ys.toList.drop i)[0]? = some y := by rw [hy]; rfl
     simpa using this
    have dx : xr = xs.toList.drop (i + 1) := by rw [← List.tail_drop, hx]; rfl
    have dy : yr = ys.toList.drop (i + 1) := by rw [← List.tail_drop, hy]; rfl
    subst dx
    subst dy
    have ih := Vq d xs ys fs (i + 1) h4
    have key : ∃ u, P.underlying f.type = some u ∧ ((∃ k, u = .int k) ∨ u = .bool) ∧ (Op.equalIn (d + 1) f.type x y).run P w = .ok (Lo x y) w := by
     split at h3
     ·rename_i k kx a ky b hu
      have := of_decide_eq_true h3
      subst this
      exact ⟨_, hu, .inl ⟨_, rfl⟩, run_equalIn_int w d f.type kx _ a b hu⟩
     ·rename_i a b hu
      exact ⟨_, hu, .inr rfl, run_equalIn_bool' w d f.type a b hu⟩
     ·cases h3
    obtain ⟨u, hu, hk, he⟩ := key
    simp only [Op.eqFields, if_pos h1, Sem.run_bind, h2, Ji hu hk ex, Ji hu hk ey, Result.andThen_ok, he, Sem.run_ite, Sem.run_pure, ih, Cm]
    cases Lo x y <;> simp
variable {N : cJ} {w0 : World} {e : Env} {R : List Piece} {H : List HP} {Q : Exit → Act → World → Prop} {ops : Array Oper} {rest : List Oper}
variable {d : Nat} {ty : TypeId} {pos : String} {aJ : Array Edge}
def Cl (P : Program) (t : TypeId) (xs ys : List Value) : Bool := (match P.underlying t with
 | some (.struct fs) => xT P fs.toList 0 xs ys
 | _ => false) && !P.stoodInHeld t && !P.eqGuardType P.depth t
theorem aCz {t : TypeId} {xs ys : List Value} (h : Cl P t xs ys = true) : (Op.equal t (.agg xs.toArray) (.agg ys.toArray)).run P w = .ok (Cm xs ys) w ∧ ∀ op x y, (eqGuard op t x y (.agg xs.toArray) (.agg ys.toArray)).run P w = .ok () w := by
 unfold Cl at h
 simp only [Bool.and_eq_true, Bool.not_eq_true'] at h
 obtain ⟨⟨h1, h2⟩, h3⟩ := h
 refine ⟨?_, fun op x y => run_eqGuard_agg w op t x y _ _ h3⟩
 split at h1
 ·rename_i fs hu
  have hf : P.fieldsOf t = fs := by unfold Program.fieldsOf; rw [hu]
  have := run_equalIn_struct (P := P) w 9999 t xs.toArray ys.toArray (by rw [hf]; exact hu) h2
  unfold Op.equal Op.maxDepth
  rw [this, hf]
  have := Vq (P := P) (w := w) 9998 xs.toArray ys.toArray fs.toList 0 (by simpa using h1)
  simpa using this
 ·cases h1
theorem aBC {x y : Operand} {t u : TypeId} {b c : Bool} (ht : P.underlying t = some .bool) (hx : e.ev x = some (.bool b)) (hy : e.ev y = some (.bool c)) (hd : d < N.n) (k : XK N w0 (wpList P ops Q rest) ((d, .bool (b == c)) :: e) R H) :
  XK N w0 (wpList P ops Q (⟨some d, .binOp .eql t x y u, ty, pos, aJ, none⟩ :: rest)) e R H := fH hd (fun a w hr => by
 simp [execOp, hr.ev hx, hr.ev hy, eqGuard, binOp, run_equal_bool w t b c ht]) k
end
end
section
structure bR where
 d : List Bool
 c : List Bool
 l : List Bool
def oX (p : Piece) (x : bR) (v : Value) : Prop := ∃ A1 k1 A2 k2 A3 k3, v = .agg #[.slice A1 x.d.length k1, .slice A2 x.c.length k2, .slice A3 x.l.length k3] ∧
 aI p 1 A1 x.d.length (bU x.d) ∧ aI p 1 A2 x.c.length (bU x.c) ∧ aI p 1 A3 x.l.length (bU x.l)
theorem oX.le {p q : Piece} {x : bR} {v : Value} (h : oX p x v) (hl : p.Le q) : oX q x v := by
 obtain ⟨A1, k1, A2, k2, A3, k3, h0, h1, h2, h3⟩ := h
 exact ⟨A1, k1, A2, k2, A3, k3, h0, h1.le hl, h2.le hl, h3.le hl⟩
def Ms (Rl : Value → World → World → Prop) (w : World) : Ending → World → Prop := fun y w' => (∃ v, y = .returned v ∧ Rl v w w') ∧ Below w.heap.size w w'
def Oc (a b : List Bool) : Bool := decide (a = b)
def bR.same (x y : bR) : Bool := Oc x.d y.d && Oc x.c y.c && Oc x.l y.l
end
section
structure bR.sm (x : bR) : Prop where
 d : x.d.length ≤ 1000000
 c : x.c.length ≤ 1000000
 l : x.l.length ≤ 1000000
theorem sO (l : List Bool) : ∀ u ∈ bU l, u.oneCell' = true := by
 intro u hu
 simp only [bU, List.mem_map] at hu
 obtain ⟨x, _, rfl⟩ := hu
 rfl
structure rJ.ok (p : rJ) : Prop where
 pr : -9223372036854775808 ≤ p.pr ∧ p.pr ≤ 9223372036854775807
 msg : -9223372036854775808 ≤ p.msg ∧ p.msg ≤ 9223372036854775807
 id : 0 ≤ p.id ∧ p.id < 4294967296
 v : 0 ≤ p.v ∧ p.v < 4294967296
end
section
structure oZ (p : Piece) (s : aD) (A1 : Option Addr) (n1 : Nat) (A2 : Option Addr) (n2 : Nat) (A3 : Option Addr) (n3 : Nat) (A4 : Option Addr) (n4 : Nat) : Prop where
 gX : fG (dR p) (iO (dR p)) 118 6 A1 n1 s.aB
 dom : fG (dR p) sV 75 3 A2 n2 s.domains
 nZ : fG (dR p) sQ 120 1 A3 n3 s.aU
 dev : fG (dR p) (jF (dR p)) 78 6 A4 n4 s.aG
section
variable {p q : Piece} {w : World} {s : aD} {A1 A2 A3 A4 : Option Addr} {n1 n2 n3 n4 : Nat}
theorem oZ.le (h : oZ p s A1 n1 A2 n2 A3 n3 A4 n4) (hl : p.Le q) : oZ q s A1 n1 A2 n2 A3 n3 A4 n4 :=
 ⟨h.gX.mono (fV hl) (fun _ _ => iO.mono (fV hl)), h.dom.mono (fV hl) (fun _ _ h => h), h.nZ.mono (fV hl) (fun _ _ h => h), h.dev.mono (fV hl) (fun _ _ => jF.mono (fV hl))⟩
theorem oZ.W (h : oZ p s A1 n1 A2 n2 A3 n3 A4 n4) (hl : p.Le (all w)) (hs : s.small) : eO w s A1 n1 A2 n2 A3 n3 A4 n4 := ⟨(h.le hl).gX, (h.le hl).dom, (h.le hl).nZ, (h.le hl).dev, hs⟩
theorem oZ.len (h : oZ p s A1 n1 A2 n2 A3 n3 A4 n4) : n1 = s.aB.length ∧ n2 = s.domains.length ∧ n3 = s.aU.length ∧ n4 = s.aG.length := by
 obtain ⟨⟨_, _, h1, _⟩, ⟨_, _, h2, _⟩, ⟨_, _, h3, _⟩, ⟨_, _, h4, _⟩⟩ := h
 exact ⟨h1, h2, h3, h4⟩
theorem mJ.P {cs : Array Value} (h : mJ (dR p) s cs) : ∃ A1 n1 k1 A2 n2 k2 A3 n3 k3 A4 n4 k4, cs = #[.slice A1 n1 k1, .slice A2 n2 k2, .slice A3 n3 k3, .slice A4 n4 k4] ∧ oZ p s A1 n1 A2 n2 A3 n3 A4 n4 := by
 obtain ⟨A1, n1, k1, A2, n2, k2, A3, n3, k3, A4, n4, k4, h0, h1, h2, h3, h4⟩ := h
 exact ⟨A1, n1, k1, A2, n2, k2, A3, n3, k3, A4, n4, k4, h0, h1, h2, h3, h4⟩
end
end
section
theorem fG.vM {α : Type} {p : Piece} {R : α → List Value → Prop} {t : TypeId} {sz n : Nat} {A : Option Addr} {es : List α} (h : fG (dR p) R t sz A n es) {k : Nat} {e : α} (hk : es[k]? = some e) :
  ∃ b off r, A = some ⟨b, off, none⟩ ∧ p.Z b ∧ r.length = sz ∧ R e r ∧ ∀ f u, r[f]? = some u → p.w.cell? ⟨b, off + k * sz + f, none⟩ = some u := by
 obtain ⟨rows, h1, h2, h3⟩ := h
 have hlt : k < n := by
  rw [h2]
  rcases Nat.lt_or_ge k es.length with h | h
  ·exact h
  ·rw [List.getElem?_eq_none h] at hk; cases hk
 obtain ⟨b, off, hA, hb, hc⟩ := aI.at_ h3 hlt
 obtain ⟨r, h4, h5, h6⟩ := h1.get hk
 refine ⟨b, off, r, hA, hb, h4, h5, fun f u hu => hc f u ?_⟩
 have hf : f < sz := by
  rw [← h4]
  rcases Nat.lt_or_ge f r.length with h | h
  ·exact h
  ·rw [List.getElem?_eq_none h] at hu; cases hu
 rw [h6 f hf, hu]
theorem rJ.Hr (p : rJ) : p.cells.length = 4 := rfl
theorem aI.step {p : Piece} {A : Option Addr} {L : List rJ} (h : aI p 4 A L.length (L.flatMap rJ.cells)) {k : Nat} {x : rJ} (hk : L[k]? = some x) :
  ∃ b off, A = some ⟨b, off, none⟩ ∧ p.Z b ∧ ∀ f u, x.cells[f]? = some u → p.w.cell? ⟨b, off + k * 4 + f, none⟩ = some u := by
 have hlt := (List.getElem?_eq_some_iff.1 hk).1
 obtain ⟨b, off, hA, hb, hc⟩ := aI.at_ h hlt
 refine ⟨b, off, hA, hb, fun f u hu => hc f u ?_⟩
 have hf : f < 4 := by
  rw [← rJ.Hr x]
  rcases Nat.lt_or_ge f x.cells.length with h | h
  ·exact h
  ·rw [List.getElem?_eq_none h] at hu; cases hu
 rw [Aj rJ.cells 4 L (fun _ _ => rfl) k f x hk hf, hu]
end
section
structure bR.of (x : bR) (s : aD) : Prop where
 d : x.d.length = s.domains.length
 c : x.c.length = s.aB.length
 l : x.l.length = s.aU.length
end
section
structure AL where
 d : Nat
 t : TypeId
 cs : List Value
 val : Nat → Value
def oQ (al : Nat → AL) (g : Nat → Nat) (ds : List Nat) (e : Env) : Env := ds.map (fun i => ((al i).d, (al i).val (g i))) ++ e
def sB (al : Nat → AL) (g : Nat → Nat) (ds : List Nat) (H : List HP) : List HP := ds.map (fun i => HP.aE (g i) (al i).t (al i).cs) ++ H
def iK (ds : List Nat) (l : Array Bool) : Array Bool := ds.foldr (fun i a => a.setIfInBounds i true) l
def yP : List Nat → List (List Nat)
 | [] => [[]]
 | i :: l => (yP l).map (i :: ·) ++ yP l
theorem Bl (p : Nat → Bool) : ∀ l : List Nat, l.filter p ∈ yP l
 | [] => by simp [yP]
 | i :: l => by
  unfold yP
  rw [List.filter_cons]
  split
  ·exact List.mem_append_left _ (List.mem_map_of_mem (Bl p l))
  ·exact List.mem_append_right _ (Bl p l)
def aCK (ops : Array Oper) (idx : List Nat) (ex : List (List Nat)) (listed : Array Bool) : Bool :=
 (yP idx).all fun sub => ex.contains sub || (!(Region.ready .any ops (iK sub listed)).isEmpty && (Region.ready .any ops (iK sub listed)).all fun j => idx.contains j && !sub.contains j)
theorem Kb {l1 l2 : List Nat} (h : l1.Perm l2) (l : Array Bool) : iK l1 l = iK l2 l := by
 induction h with
 | nil => rfl
 | cons x _ ih => show (iK _ l).setIfInBounds x true = _; rw [ih]; rfl
 | swap x y s =>
  show ((iK s l).setIfInBounds x true).setIfInBounds y true = ((iK s l).setIfInBounds y true).setIfInBounds x true
  by_cases hxy : x = y
  ·rw [hxy]
  ·exact Array.setIfInBounds_comm _ _ hxy
 | trans _ _ h1 h2 => exact h1.trans h2
section
variable {P : Program} {N : cJ} {w0 w : World} {e : Env} {R R0 : List Piece} {H H0 : List HP} {Q : Exit → Act → World → Prop} {ops : Array Oper} {m fuel : Nat} {listed : Array Bool} {K : Act → World → Prop}
variable {al : Nat → AL} {g g' : Nat → Nat}
theorem Lm (k : Nat) (v : Value) (e : Env) (t : Nat) : Env.get ((k, v) :: e) t = if k = t then some v else e.get t := by
 show (match Nat.beq k t with | true => some v | false => Env.get e t) = _
 by_cases h : k = t
 ·subst h; rw [if_pos rfl, Nat.beq_refl]
 ·rw [if_neg h]
  cases hb : Nat.beq k t with
  | true => exact absurd (Nat.eq_of_beq_eq_true hb) h
  | false => rfl
theorem aAu {l1 l2 : List Nat} (h : l1.Perm l2) (hn : (l1.map fun i => (al i).d).Nodup) (t : Nat) : (oQ al g l1 e).get t = (oQ al g l2 e).get t := by
 induction h with
 | nil => rfl
 | cons x _ ih =>
  show Env.get ((_, _) :: oQ al g _ e) t = Env.get ((_, _) :: oQ al g _ e) t
  rw [Lm, Lm, ih (List.nodup_cons.1 (show ((al x).d :: List.map (fun i => (al i).d) _).Nodup from hn)).2]
 | swap x y s =>
  show Env.get ((_, _) :: (_, _) :: oQ al g s e) t = Env.get ((_, _) :: (_, _) :: oQ al g s e) t
  have hne : (al y).d ≠ (al x).d := fun he => (List.nodup_cons.1 (show ((al y).d :: (al x).d :: List.map (fun i => (al i).d) s).Nodup from hn)).1 (by rw [he]; exact List.mem_cons_self)
  simp only [Lm]
  by_cases h1 : (al x).d = t
  ·rw [if_pos h1, if_neg (fun h2 => hne (h2.trans h1.symm)), if_pos h1]
  ·rw [if_neg h1, if_neg h1]
 | trans h1 h2 i1 i2 => exact (i1 hn).trans (i2 ((h1.map _).nodup_iff.1 hn))
theorem Yo {l1 l2 : List Nat} (h : l1.Perm l2) : ∀ pre : List HP, St w0 R (pre ++ sB al g l1 H) w → St w0 R (pre ++ sB al g l2 H) w := by
 induction h with
 | nil => exact fun _ h => h
 | cons x _ ih =>
  intro pre st
  have := ih (pre ++ [HP.aE (g x) (al x).t (al x).cs]) (by rw [List.append_assoc]; exact st)
  rw [List.append_assoc] at this
  exact this
 | swap x y s =>
  intro pre st
  refine st.weak (fun _ hp => hp) (fun i => if i = pre.length then pre.length + 1 else if i = pre.length + 1 then pre.length else i) (fun i j _ _ he => ?_) (fun i p hi => ?_)
  ·split at he <;> split at he <;> (try split at he) <;> (try split at he) <;> omega
  ·change (pre ++ HP.aE (g x) (al x).t (al x).cs :: HP.aE (g y) (al y).t (al y).cs :: sB al g s H)[i]? = some p at hi
   show (pre ++ HP.aE (g y) (al y).t (al y).cs :: HP.aE (g x) (al x).t (al x).cs :: sB al g s H)[_]? = some p
   rcases Nat.lt_or_ge i pre.length with h | h
   ·rw [if_neg (by omega), if_neg (by omega), List.getElem?_append_left h]
    rwa [List.getElem?_append_left h] at hi
   ·obtain ⟨k, rfl⟩ : ∃ k, i = pre.length + k := ⟨i - pre.length, by omega⟩
    rw [List.getElem?_append_right (by omega), Nat.add_sub_cancel_left] at hi
    match k, hi with
    | 0, hi =>
     rw [if_pos (by omega), List.getElem?_append_right (by omega), Nat.add_sub_cancel_left]
     exact hi
    | 1, hi =>
     rw [if_neg (by omega), if_pos rfl, List.getElem?_append_right (by omega), Nat.sub_self]
     exact hi
    | k + 2, hi =>
     rw [if_neg (by omega), if_neg (by omega), List.getElem?_append_right (by omega), Nat.add_sub_cancel_left]
     exact hi
 | trans _ _ i1 i2 => exact fun pre st => i2 pre (i1 pre st)
def Tp (P : Program) (N : cJ) (e : Env) (o : Oper) (x : AL) : Prop := ∀ a w, cW N e a → (execOp a.eval o).run P w = .ok (.value (x.val w.heap.size)) (w.alloc (.cells x.cs.toArray x.t))
theorem Ph (bytes : Nat) {x y : Operand} {t el ty : TypeId} {d n : Nat} {z : Value} {pos : String} {aJ : Array Edge} {kd nO : IntKind} (ht : P.underlying t = some (.slice el)) (hT : (P.info? el).map (fun i => (i.zero, i.size, i.bytes)) = some (some z, 1, bytes)) (Fi : z.cells = #[z]) (hx : e.ev x = some (.int kd (n : Int))) (hy : e.ev y = some (.int nO (n : Int)))
  (hb : bytes * n ≤ 281474976710656) (hn : (n : Int) ≤ 9223372036854775807) : Tp P N e ⟨some d, .makeSlice t x y, ty, pos, aJ, none⟩ ⟨d, el, List.replicate n z, fun g => .slice (some ⟨g, 0, none⟩) n n⟩ := fun a w hr => by
 obtain ⟨i, hi, he⟩ := Option.map_eq_some_iff.1 hT
 simp only [Prod.mk.injEq] at he
 obtain ⟨h1, h2, rfl⟩ := he
 have := run_make (P := P) w t el i z ht hi h1 kd nO n n (by omega) (Int.le_refl _) (by rw [← Int.natCast_mul]; omega) hn
 have hm : madeCells z.cells (n * i.size) = (List.replicate n z).toArray := by
  rw [h2, Nat.mul_one, Fi]
  unfold madeCells
  apply Array.ext
  ·simp
  ·intro j h1 h2
   simp
   rw [Nat.mod_one]
   rfl
 simp only [Int.toNat_natCast, hm] at this
 simp only [execOp, hr.ev hx, hr.ev hy, Sem.run_bind, this, Result.andThen_ok, Sem.run_pure]
structure Dn (P : Program) (N : cJ) (ops : Array Oper) (e : Env) (x : AL) (i : Nat) : Prop where
 ok : ∃ o, ops[i]? = some o ∧ o.guard = none ∧ o.dst = some x.d ∧ Tp P N e o x
 lt : x.d < N.n
 new : e.get x.d = none
theorem Dn.of {o : Oper} {x : AL} {i : Nat} (h1 : ops[i]? = some o) (h2 : o.guard = none) (h3 : o.dst = some x.d) (h4 : Tp P N e o x) (h5 : x.d < N.n) (h6 : e.get x.d = none) : Dn P N ops e x i := ⟨⟨o, h1, h2, h3, h4⟩, h5, h6⟩
theorem aFI {ds : List Nat} (hn : ∀ i ∈ ds, e.get (al i).d = none) {t : Nat} {v : Value} (h : e.get t = some v) : (oQ al g ds e).get t = some v := by
 induction ds with
 | nil => exact h
 | cons i ds ih =>
  show Env.get ((_, _) :: oQ al g ds e) t = some v
  rw [Lm, if_neg (fun he => by have := hn i (by simp); rw [he, h] at this; cases this)]
  exact ih fun j hj => hn j (by simp [hj])
theorem cW.aFJ {a : Act} {ds : List Nat} (hn : ∀ i ∈ ds, e.get (al i).d = none) (h : cW N (oQ al g ds e) a) : cW N e a := ⟨h.size, h.defers, fun t v ht => h.get t v (aFI hn ht)⟩
theorem St.unA {ds : List Nat} (h : St w0 R (sB al g ds H) w) : St w0 R H w := h.weak (fun _ hp => hp) (fun i => i + ds.length) (fun i j _ _ he => by omega) (fun i p hi => by
 show (ds.map _ ++ H)[i + ds.length]? = some p
 rw [List.getElem?_append_right (by simp)]
 simpa using hi)
theorem XA.aGZ (idx : List Nat) (ex : List (List Nat)) (al : Nat → AL) (hok : ∀ i ∈ idx, Dn P N ops e (al i) i) (hd : (idx.map fun i => (al i).d).Nodup) (hr : aCK ops idx ex listed = true) (hS : ∀ w, St w0 R H w → St w0 R0 H0 w)
  (k : ∀ sub ∈ yP idx, ex.contains sub = true → ∀ g : Nat → Nat, XA P N w0 ops Q R0 H0 m (fuel + (idx.length - sub.length)) (iK sub listed) (oQ al g sub e) R (sB al g sub H)) : XA P N w0 ops Q R0 H0 m (fuel + idx.length) listed e R H := by
 have hni : idx.Nodup := (List.pairwise_map.1 hd).imp fun h e => h (by rw [e])
 have key : ∀ (n : Nat) (ds : List Nat) (g : Nat → Nat), ds.Nodup → (∀ i ∈ ds, i ∈ idx) → ds.length + n = idx.length → XA P N w0 ops Q R0 H0 m (fuel + n) (iK ds listed) (oQ al g ds e) R (sB al g ds H) := by
  intro n
  induction n with
  | zero =>
   intro ds g hn hin hl
   have uS : (idx.filter fun i => ds.contains i).Perm ds := by
    rw [List.perm_iff_count]
    intro a
    rw [(hni.sublist List.filter_sublist).count, hn.count]
    by_cases ha : a ∈ ds
    ·rw [if_pos ha, if_pos (by simp [ha, hin a ha])]
    ·rw [if_neg ha, if_neg (by simp [ha])]
   have hlen := uS.length_eq
   have heq : (idx.filter fun i => ds.contains i) = idx := List.filter_sublist.eq_of_length (by omega)
   have cT := List.all_eq_true.1 hr _ (Bl (fun i => ds.contains i) idx)
   rw [Bool.or_eq_true] at cT
   rcases cT with hc | hc
   ·have h := k _ (Bl _ idx) hc g
    rw [Kb uS, show fuel + (idx.length - (idx.filter fun i => ds.contains i).length) = fuel + 0 by omega] at h
    exact fun up a w bM st => h up a w ⟨bM.size, bM.defers, fun t v ht => bM.get t v (by rw [← aAu uS (by rw [heq]; exact hd)]; exact ht)⟩ (Yo uS.symm [] st)
   ·exfalso
    rw [Bool.and_eq_true, List.all_eq_true] at hc
    obtain ⟨h1, h2⟩ := hc
    rw [heq] at h1 h2
    cases hrd : Region.ready .any ops (iK idx listed) with
    | nil => rw [hrd] at h1; cases h1
    | cons j js =>
     rw [hrd] at h2
     have := h2 j (by simp)
     simp at this
  | succ n ih =>
   intro ds g hn hin hl
   have uS : (idx.filter fun i => ds.contains i).Perm ds := by
    rw [List.perm_iff_count]
    intro a
    rw [(hni.sublist List.filter_sublist).count, hn.count]
    by_cases ha : a ∈ ds
    ·rw [if_pos ha, if_pos (by simp [ha, hin a ha])]
    ·rw [if_neg ha, if_neg (by simp [ha])]
   have hlen := uS.length_eq
   have cT := List.all_eq_true.1 hr _ (Bl (fun i => ds.contains i) idx)
   rw [Bool.or_eq_true] at cT
   rcases cT with hc | hc
   ·have h := k _ (Bl _ idx) hc g
    rw [Kb uS, show fuel + (idx.length - (idx.filter fun i => ds.contains i).length) = fuel + (n + 1) by omega] at h
    have hnd : ((idx.filter fun i => ds.contains i).map fun i => (al i).d).Nodup := hd.sublist (List.filter_sublist.map _)
    exact fun up a w bM st => h up a w ⟨bM.size, bM.defers, fun t v ht => bM.get t v (by rw [← aAu uS hnd]; exact ht)⟩ (Yo uS.symm [] st)
   ·rw [Bool.and_eq_true, List.all_eq_true, Kb uS] at hc
    obtain ⟨h1, h2⟩ := hc
    intro up a w bM st
    show yL P ops Q (St w0 R0 H0) m ((fuel + n) + 1) (iK ds listed) a w
    refine ⟨(fun h => by rw [h] at h1; exact absurd h1 (by decide)), fun j hj => ?_⟩
    have hj2 := h2 j hj
    simp only [Bool.and_eq_true, Bool.not_eq_true', List.contains_eq_mem, decide_eq_true_eq, decide_eq_false_iff_not, List.mem_filter, not_and] at hj2
    have Qx : j ∉ ds := hj2.2 hj2.1
    obtain ⟨⟨o, ho, hog, hod, hmk⟩, hlt, hnew⟩ := hok j hj2.1
    have hrun := hmk a w (bM.aFJ fun i hi => (hok i (hin i hi)).new)
    let g' : Nat → Nat := fun i => if i = j then w.heap.size else g i
    have hg1 : oQ al g' (j :: ds) e = ((al j).d, (al j).val w.heap.size) :: oQ al g ds e := by
     show ((al j).d, (al j).val (g' j)) :: (ds.map _ ++ e) = _
     rw [show g' j = w.heap.size from if_pos rfl]
     congr 1
     unfold oQ
     congr 1
     refine List.map_congr_left fun i hi => ?_
     rw [show g' i = g i from if_neg (fun he : i = j => Qx (he ▸ hi))]
    have hg2 : sB al g' (j :: ds) H = HP.aE w.heap.size (al j).t (al j).cs :: sB al g ds H := by
     show HP.aE (g' j) _ _ :: (ds.map _ ++ H) = _
     rw [show g' j = w.heap.size from if_pos rfl]
     congr 1
     unfold sB
     congr 1
     refine List.map_congr_left fun i hi => ?_
     rw [show g' i = g i from if_neg (fun he : i = j => Qx (he ▸ hi))]
    have st' : St w0 R (sB al g' (j :: ds) H) (w.alloc (.cells (al j).cs.toArray (al j).t)) := by
     rw [hg2]
     exact st.new (De w _) (aAb w _ _)
    have h := ih (j :: ds) g' (List.nodup_cons.2 ⟨Qx, hn⟩) (fun i hi => by
     rcases List.mem_cons.1 hi with rfl | hi
     ·exact hj2.1
     ·exact hin i hi) (by simp only [List.length_cons]; omega)
    rw [hg1] at h
    have tN := h (up.gI hj) (a.put (some (al j).d) ((al j).val w.heap.size)) _ (bM.put hlt _) st'
    unfold wpOp
    simp only [ho]
    have hw : Region.wanted o (yielded ops a.tmps) = true := by simp [Region.wanted, hog]
    simp only [hw, if_true, Oper.wp, hrun, Oper.upon, hod]
    exact .inl ⟨fun _ => hS _ st'.unA, tN⟩
 have := key idx.length [] (fun _ => 0) List.nodup_nil (fun i hi => by cases hi) (by simp)
 exact this
end
end
section
def lU (s : aD) : Nat → Nat → List Nat
 | 0, _ => []
 | k + 1, c => match s.aB[c]? with
  | some x => c :: (match x.src with
   | [] => []
   | f :: _ => lU s k f.toNat)
  | none => []
def iH (s : aD) (c : Nat) : List Nat := lU s s.aB.length c
theorem Ta (s : aD) : ∀ (k c : Nat), (lU s k c).length ≤ k
 | 0, c => by simp [lU]
 | k + 1, c => by
  unfold lU
  split
  ·rename_i x hx
   split
   ·simp
   ·rename_i f fs hs
    have := Ta s k f.toNat
    simp only [List.length_cons]
    omega
  ·simp
theorem aGK {s : aD} {k c : Nat} {x : cZ} (h : s.aB[c]? = some x) : lU s (k + 1) c = c :: (match x.src with
      | [] => []
      | f :: _ => lU s k f.toNat) := by
  show (match s.aB[c]? with | some x => _ | none => _) = _
  rw [h]
def Tl (s : aD) : Int → List Nat → Prop
 | d, [] => d = -1
 | d, i :: r => d = (i : Int) ∧ ∃ x, s.domains[i]? = some x ∧ Tl s x.above r
theorem Tl.up {s : aD} : ∀ {l : List Nat} {d : Int}, Tl s d l → ∀ i ∈ l, ∀ x, s.domains[i]? = some x → 0 ≤ x.above → x.above.toNat ∈ l
 | [], _, _, i, h, _, _, _ => by cases h
 | j :: l, _, ⟨_, y, hy, hr⟩, i, h, x, hx, h0 => by
  rcases List.mem_cons.1 h with rfl | h
  ·rw [hy] at hx
   cases hx
   cases l with
   | nil => have h2 : y.above = -1 := hr; omega
   | cons k l =>
    have h2 : y.above = (k : Int) := hr.1
    rw [h2]
    simp
  ·exact List.mem_cons_of_mem _ (hr.up i h x hx h0)
def Vc (s : aD) (i : Nat) : Bool := match s.aB[i]? with
 | some c => decide (c.kind = 112 ∨ c.kind = 103)
 | none => false
def bG (s : aD) : bR := ⟨List.replicate s.domains.length false, List.replicate s.aB.length false, List.replicate s.aU.length false⟩
theorem bR.of.sm {x : bR} {s : aD} (h : x.of s) (hm : s.made) : x.sm := by
 have h1 := hm.nc; have h2 := hm.nd; have h3 := hm.nr
 exact ⟨by rw [h.d]; omega, by rw [h.c]; omega, by rw [h.l]; omega⟩
end
section
structure aD.cK (s : aD) : Prop where
 t : s.iS
 domains : Fits Dom.fit s.domains
 aU : ∀ r ∈ s.aU, 0 ≤ r ∧ r ≤ 3
theorem aD.made.cK {s : aD} (h : s.made) : s.cK := ⟨h.iS, h.domains, h.aU⟩
structure cR where
 on : Bool
 left : Int
def rI (c : cZ) : cR := ⟨false, if c.kind = 112 then c.lock else 0⟩
def Td (c : cZ) : Int := if c.kind = 100 then c.div else 0
def mR (c : cZ) (x : cR) : Bool := if c.kind = 112 then x.on && decide (x.left = 0) else if c.kind = 103 then x.on else true
def Dy (s : aD) (st : List cR) (i : Nat) : Bool := match s.aB[i]?, st[i]? with
 | some c, some x => mR c x
 | _, _ => false
def runs (s : aD) (st : List cR) (i : Nat) : Bool := (iH s i).all (Dy s st)
theorem Tb {s : aD} (hf : Fits cZ.fit s.aB) : ∀ (c k : Nat), c < k → lU s k c = lU s (c + 1) c := by
 intro c
 induction c using Nat.strongRecOn with
 | _ c ih =>
  intro k hk
  obtain ⟨k, rfl⟩ := Nat.exists_eq_add_of_lt hk
  rw [show c + k + 1 = (c + k) + 1 from rfl]
  unfold lU
  cases hc : s.aB[c]? with
  | none => rfl
  | some x =>
   dsimp only
   cases hs : x.src with
   | nil => rfl
   | cons f fs =>
    have hfit := (hf c x hc).1 f (by rw [hs]; simp)
    have h1 : f.toNat < c := by omega
    dsimp only
    rw [ih f.toNat h1 (c + k) (by omega), ih f.toNat h1 c h1]
theorem Hq {s : aD} (hf : Fits cZ.fit s.aB) {i : Nat} {c : cZ} (hc : s.aB[i]? = some c) : iH s i = i :: (match c.src with
  | [] => []
  | f :: _ => iH s f.toNat) := by
 have hlt : i < s.aB.length := (List.getElem?_eq_some_iff.1 hc).1
 unfold iH
 rw [Tb hf i _ hlt]
 rw [lU, hc]
 dsimp only
 cases hs : c.src with
 | nil => rfl
 | cons f fs =>
  have hfit := (hf i c hc).1 f (by rw [hs]; simp)
  dsimp only
  rw [Tb hf f.toNat i (by omega), Tb hf f.toNat s.aB.length (by omega)]
theorem Vn {s : aD} (hf : Fits cZ.fit s.aB) {st : List cR} {i : Nat} {c : cZ} {x : cR} (hc : s.aB[i]? = some c) (hx : st[i]? = some x) : runs s st i = (mR c x && (match c.src with
  | [] => true
  | f :: _ => runs s st f.toNat)) := by
 unfold runs
 rw [Hq hf hc, List.all_cons]
 have : Dy s st i = mR c x := by unfold Dy; rw [hc, hx]
 rw [this]
 cases c.src <;> rfl
def cL (n : Nat) (i : Int) : Bool := decide (0 ≤ i ∧ i < (n : Int))
def lE (s : aD) (st : List cR) (i : Int) : Bool := cL s.aB.length i && runs s st i.toNat
def Bt (c : cZ) (x : cR) (b : Bool) : cR := ⟨b, if c.kind = 112 ∧ b = false then c.lock else x.left⟩
def iR (s : aD) (st : List cR) (i : Int) (b : Bool) : Int × List cR :=
 if cL s.aB.length i = false then (4, st) else match s.aB[i.toNat]?, st[i.toNat]? with
 | some c, some x => if c.kind ≠ 112 ∧ c.kind ≠ 103 then (1, st) else (0, st.set i.toNat (Bt c x b))
 | _, _ => (4, st)
def Bm (c : cZ) : Nat := (c.src.headD 0).toNat
def nY (s : aD) (st : List cR) (c : cZ) (x : cR) : cR :=
 if c.kind = 112 ∧ x.on = true then (if runs s st (Bm c) = false then ⟨true, c.lock⟩ else if 0 < x.left then ⟨true, x.left - 1⟩ else x) else x
def gE (s : aD) (st : List cR) : List cR := List.zipWith (nY s st) s.aB st
structure lB (s : aD) (st : List cR) : Prop where
 len : st.length = s.aB.length
 left : ∀ x ∈ st, 0 ≤ x.left ∧ x.left ≤ 3
structure eG where
 phase : Int
 left : Int
 kept : Bool
 keep : Bool
def rH : eG := ⟨48, 0, false, false⟩
def Lt (x : eG) : Bool := decide (x.phase = 48 ∨ x.phase = 116)
def mT (st : List eG) (d : Int) : Int := if cL st.length d then (st[d.toNat]?.map (·.phase)).getD 0 else 0
def Az (st : List eG) (a : Int) : Bool := decide (a = -1) || decide ((st[a.toNat]?.map (·.phase)).getD 0 = 49)
def nH (s : aD) (st : List eG) (d : Int) : Int × List eG :=
 if cL st.length d = false then (4, st) else match s.domains[d.toNat]?, st[d.toNat]? with
 | some c, some x => if Lt x = false ∨ Az st c.above = false then (6, st) else (0, st.set d.toNat ⟨114, c.delay, decide (x.phase = 116), x.keep⟩)
 | _, _ => (4, st)
def eB (x : eG) : Int × eG :=
 if x.phase = 114 then (if 0 < x.left then (0, ⟨114, x.left - 1, x.kept, x.keep⟩) else (if x.kept then 114 else 110, ⟨104, x.left, x.kept, x.keep⟩))
 else if x.phase = 104 then (111, ⟨49, x.left, x.kept, x.keep⟩)
 else if x.phase = 99 then (if x.keep then (115, ⟨116, x.left, x.kept, x.keep⟩) else (108, ⟨48, x.left, x.kept, x.keep⟩))
 else (0, x)
def gL (st : List eG) (n : Nat) : List (Int × Nat) := (List.range n).filterMap fun i => (st[i]?).bind fun x => if (eB x).1 = 0 then none else some ((eB x).1, i)
def kG (st : List eG) : List eG := st.map fun x => (eB x).2
structure rN (s : aD) (st : List eG) : Prop where
 len : st.length = s.domains.length
 left : ∀ x ∈ st, 0 ≤ x.left ∧ x.left ≤ 3
 phase : ∀ x ∈ st, 0 ≤ x.phase ∧ x.phase < 256
structure gM where
 left : Int
 held : Bool
 wanted : Bool
def lJ : gM := ⟨0, true, false⟩
def sE (st : List gM) (i : Int) : Bool := !cL st.length i || (st[i.toNat]?.map (·.held)).getD true
def oA (st : List gM) (i : Int) : Int × List gM :=
 if cL st.length i = false then (4, st) else match st[i.toNat]? with
 | some x => if x.held = false then (6, st) else (0, st.set i.toNat ⟨x.left, x.held, true⟩)
 | none => (4, st)
def gD (x : gM) : gM := if x.held = false then x else if 0 < x.left then ⟨x.left - 1, x.held, x.wanted⟩ else if x.wanted then ⟨x.left, false, false⟩ else x
def uM (st : List gM) : List gM := st.map gD
structure Bf (s : aD) (st : List gM) : Prop where
 len : st.length = s.aU.length
 left : ∀ x ∈ st, 0 ≤ x.left ∧ x.left ≤ 3
structure cP where
 now : List Int
 saved : List Int
 kept : Bool
def uZ (d : bN) : cP := ⟨d.aQ.map (·.reset), d.aQ.map fun _ => 0, false⟩
def Ho (d : bN) (x : cP) : cP := ⟨d.aQ.map (·.reset), x.saved, false⟩
def yT (r : Rg) (p : Int × Int) : Int := if r.kept then p.1 else p.2
def pT (d : bN) (x : cP) : cP := ⟨x.now, List.zipWith yT d.aQ (x.now.zip x.saved), true⟩
def Jn (k : Bool) (r : Rg) (v : Int) : Int := if k && r.kept then v else r.reset
def xD (d : bN) (x : cP) : cP := ⟨List.zipWith (Jn x.kept) d.aQ x.saved, x.saved, x.kept⟩
structure yH (d : bN) (x : cP) : Prop where
 now : x.now.length = d.aQ.length
 saved : x.saved.length = d.aQ.length
 u : (∀ v ∈ x.now, 0 ≤ v ∧ v < 4294967296) ∧ ∀ v ∈ x.saved, 0 ≤ v ∧ v < 4294967296
structure dP where
 at_ : Int
 denied : Int
def Bq : dP := ⟨0, 0⟩
def vS (a : Int) : Int := if a = 0 then 114 else if a = 1 then 97 else if a = 2 then 115 else 100
def lZ (x : dP) : Int × dP := if x.at_ ≠ 2 ∧ x.at_ ≠ 3 then (6, x) else (0, ⟨0, x.denied⟩)
def nI (x : dP) (yC dN : Bool) : dP := if x.at_ ≠ 1 then x else if dN then ⟨3, IntKind.i64.wrap (x.denied + 1)⟩ else if yC then x else ⟨2, 0⟩
def wT (x : dP) : Prop := 0 ≤ x.at_ ∧ x.at_ ≤ 3
end
section
def HP.dM (Φ : Piece → Prop) (hm : ∀ p q : Piece, p.Le q → Φ p → Φ q) : HP := ⟨fun F w => Φ ⟨w, F⟩, fun F w w' h hk => hm ⟨w, F⟩ ⟨w', F⟩ (fun b hb => ⟨hb, hk b hb⟩) h⟩
section
variable {P : Program} {N : cJ} {w0 w : World} {K : Act → World → Prop} {e : Env} {R : List Piece} {H H' : List HP} {Q : Exit → Act → World → Prop} {ops : Array Oper} {rest : List Oper}
variable {d : Nat} {ty : TypeId} {pos : String} {aJ : Array Edge}
theorem sD {α : Type} {H : List α} {i : Nat} {p : α} (hi : H[i]? = some p) : i < H.length := (List.getElem?_eq_some_iff.1 hi).1
theorem St.chunk (st : St w0 R H w) {i : Nat} {p : HP} (hi : H[i]? = some p) : ∃ F, p.sat F w ∧ (∀ b, F b → b < w.heap.size) ∧ (∀ q ∈ R, q.Le ⟨w, fun b => b < w.heap.size ∧ ¬ F b⟩) ∧ ∀ w' F' q, q.sat F' w' → bX w w' F F' → St w0 R (H.set i q) w' := by
 obtain ⟨Z, F, hz, cM, hs, cN, dI⟩ := st.ex
 refine ⟨F i, hs i p hi, (fun b hb => (cN i b hb).2), (fun q zH b hb => ⟨⟨hz b (cM q zH b hb).1, fun mE => (cN i b mE).1 (cM q zH b hb).1⟩, (cM q zH b hb).2⟩), fun w' F' q lM ht => ?_⟩
 have hlt := sD hi
 refine ⟨ht.os.trans st.os, ht.tape.trans st.tape, ht.output.trans st.output, Nat.le_trans st.size ht.size, Z, fun j => if j = i then F' else F j, fun b h => Nat.lt_of_lt_of_le (hz b h) ht.size, fun p hp b h => ?_, fun j r hj => ?_, fun j b h => ?_, fun j k b iU h => ?_⟩
 ·exact ⟨(cM p hp b h).1, (ht.old b (hz b (cM p hp b h).1) (fun mE => (cN i b mE).1 (cM p hp b h).1)).trans (cM p hp b h).2⟩
 ·rw [List.getElem?_set] at hj
  split at hj
  ·rename_i e; subst e
   first | (rw [if_pos hlt] at hj; cases hj) | cases hj
   simpa using lM
  ·rename_i e
   simp only [if_neg (Ne.symm e)]
   exact r.loc _ _ _ (hs j r hj) (fun b hb => ht.old b (cN j b hb).2 (dI j i b (Ne.symm e) hb))
 ·dsimp only at h
  split at h
  ·refine ⟨fun fC => ?_, (ht.new b h).2⟩
   rcases (ht.new b h).1 with h | h
   ·exact (cN i b h).1 fC
   ·have := hz b fC; omega
  ·exact ⟨(cN j b h).1, Nat.lt_of_lt_of_le (cN j b h).2 ht.size⟩
 ·dsimp only at h ⊢
  split at h <;> split
  ·rename_i h1 h2; omega
  ·rename_i e1 e2
   intro hk
   rcases (ht.new b h).1 with h | h
   ·exact dI i k b (by omega) h hk
   ·have := (cN k b hk).2; omega
  ·rename_i e1 e2
   intro hk
   rcases (ht.new b hk).1 with hk | hk
   ·exact dI j i b (by omega) h hk
   ·have := (cN j b h).2; omega
  ·exact dI j k b iU h
theorem XK.reuse (i : Nat) {p q : HP} (hi : H[i]? = some p) (hq : ∀ F w, p.sat F w → q.sat F w) (h : XK N w0 K e R (H.set i q)) : XK N w0 K e R H := fun a w hr st => by
 obtain ⟨F, hp, hlt, _, hk⟩ := st.chunk hi
 exact h a w hr (hk w F q (hq F w hp) ⟨rfl, rfl, rfl, Nat.le_refl _, fun b hb => ⟨.inl hb, hlt b hb⟩, fun _ _ _ => rfl⟩)
theorem XK.drop (i : Nat) {p : HP} (hi : H[i]? = some p) (h : XK N w0 K e R (H.set i HP.emp)) : XK N w0 K e R H := XK.reuse i hi (fun _ _ _ => trivial) h
theorem XK.rS (i : Nat) {el : TypeId} {sz n c : Nat} {A : Option Addr} {xs : List Value} {Φ : Piece → Prop} {hm : ∀ p q : Piece, p.Le q → Φ p → Φ q} (hi : H[i]? = some (HP.own el sz (.slice A n c) n xs)) (hq : ∀ p, aI p sz A n xs → Φ p) (h : XK N w0 K e R (H.set i (HP.dM Φ hm))) : XK N w0 K e R H :=
 XK.reuse i hi (fun F w hs => hq _ (aI.own (q := ⟨w, F⟩) ⟨F, hs, fun _ h => h⟩)) h
theorem XK.Pq {Φ Ψ X : Piece → Prop} {h1 : ∀ p q : Piece, p.Le q → Φ p → Φ q} {h2 : ∀ p q : Piece, p.Le q → Ψ p → Ψ q} {h3 : ∀ p q : Piece, p.Le q → X p → X q} (hX : ∀ p, Φ p → Ψ p → X p) (h : XK N w0 K e R (HP.dM X h3 :: H)) : XK N w0 K e R (HP.dM Φ h1 :: HP.dM Ψ h2 :: H) := fun a w hr st => by
  obtain ⟨Z, F, hz, cM, hs, cN, dI⟩ := st.ex
  refine h a w hr ⟨st.os, st.tape, st.output, st.size, Z, fun j => match j with | 0 => fun b => F 0 b ∨ F 1 b | j + 1 => F (j + 2), hz, cM, fun j r hj => ?_, fun j b hb => ?_, fun j k b iU hj hk => ?_⟩
  · cases j with
    | zero =>
      simp at hj
      subst hj
      exact hX _ (h1 ⟨w, F 0⟩ _ (fun b hb => ⟨.inl hb, rfl⟩) (hs 0 _ rfl)) (h2 ⟨w, F 1⟩ _ (fun b hb => ⟨.inr hb, rfl⟩) (hs 1 _ rfl))
    | succ j => exact hs (j + 2) r (by simpa using hj)
  · cases j with
    | zero => rcases hb with hb | hb <;> exact cN _ b hb
    | succ j => exact cN _ b hb
  · cases j with
    | zero => cases k with
      | zero => exact iU rfl
      | succ k => rcases hj with hj | hj
                  · exact dI 0 (k + 2) b (by omega) hj hk
                  · exact dI 1 (k + 2) b (by omega) hj hk
    | succ j => cases k with
      | zero => rcases hk with hk | hk
                · exact dI 0 (j + 2) b (by omega) hk hj
                · exact dI 1 (j + 2) b (by omega) hk hj
      | succ k => exact dI (j + 2) (k + 2) b (by omega) hj hk
theorem XK.Js {q : Piece} {Φ : Piece → Prop} {hm : ∀ p q : Piece, p.Le q → Φ p → Φ q} (hf : kM w0 q) (hR : ∀ p ∈ R, ∀ b, p.Z b → b < w0.heap.size) (hΦ : Φ q) (h : XK N w0 K e R (HP.dM Φ hm :: H)) : XK N w0 K e (q :: R) H := fun a w hr st => by
 obtain ⟨Z, F, hz, cM, hs, cN, dI⟩ := st.ex
 have hq := cM q (by simp)
 refine h a w hr ⟨st.os, st.tape, st.output, st.size, fun b => Z b ∧ ¬ q.Z b, fun j => match j with | 0 => q.Z | j + 1 => F j, fun b hb => hz b hb.1, fun p hp b hb => ?_, fun j r hj => ?_, fun j b hb => ?_, fun j k b iU hj hk => ?_⟩
 ·refine ⟨⟨(cM p (by simp [hp]) b hb).1, fun Qo => ?_⟩, (cM p (by simp [hp]) b hb).2⟩
  have h1 := hR p hp b hb
  have h2 := hf b Qo
  omega
 ·cases j with
  | zero =>
   simp at hj
   subst hj
   exact hm q _ (fun b hb => ⟨hb, (hq b hb).2⟩) hΦ
  | succ j => exact hs j r (by simpa using hj)
 ·cases j with
  | zero => exact ⟨fun hh => hh.2 hb, hz b (hq b hb).1⟩
  | succ j => exact ⟨fun hh => (cN j b hb).1 hh.1, (cN j b hb).2⟩
 ·cases j with
  | zero => cases k with
   | zero => exact iU rfl
   | succ k => exact (cN k b hk).1 (hq b hj).1
  | succ j => cases k with
   | zero => exact (cN j b hj).1 (hq b hk).1
   | succ k => exact dI j k b (by omega) hj hk
end
end
section
theorem get_some {α : Type} {l : List α} {i : Nat} (h : i < l.length) : ∃ x, l[i]? = some x := ⟨l[i], List.getElem?_eq_getElem h⟩
theorem Sub.set {cs r : List Value} {o : Nat} (h : Sub cs o r) (k : Nat) (v : Value) (hk : k < r.length) (hl : o + k < cs.length) : Sub (cs.set (o + k) v) o (r.set k v) := fun j hj => by
 rw [List.length_set] at hj
 rw [List.getElem?_set, List.getElem?_set]
 by_cases he : k = j
 ·subst he; simp [hk, hl]
 ·rw [if_neg (by omega), if_neg he]; exact h j hj
def qH (cs cs' : List Value) (o m : Nat) : Prop := cs'.length = cs.length ∧ ∀ j, (j < o ∨ o + m ≤ j) → cs'[j]? = cs[j]?
theorem qH.refl (cs : List Value) (o m : Nat) : qH cs cs o m := ⟨rfl, fun _ _ => rfl⟩
theorem qH.set {cs cs' : List Value} {o m : Nat} (h : qH cs cs' o m) (k : Nat) (v : Value) (hk : k < m) : qH cs (cs'.set (o + k) v) o m :=
 ⟨by simpa using h.1, fun j hj => by rw [List.getElem?_set, if_neg (by omega)]; exact h.2 j hj⟩
theorem Rd.aEp {w0 : World} {R : List Piece} {H : List HP} {ps : List HP} {g o : Nat} {t : TypeId} {cs : List Value} {v : Value} (i j : Nat) (hi : H[i]? = some (HP.many ps)) (hj : ps[j]? = some (HP.aE g t cs)) (hv : cs[o]? = some v) : Rd w0 R H g o v := fun w st => by
 obtain ⟨F, G, g1, _⟩ := st.sat hi
 have := (g1 j _ hj).2
 rw [this.cell]
 simpa using hv
theorem Gu {sz : Nat} (rows : List (List Value)) (hl : ∀ r ∈ rows, r.length = sz) (k f : Nat) (r : List Value) (hk : rows[k]? = some r) (hf : f < sz) : rows.flatten[k * sz + f]? = r[f]? := by
 have := Aj (fun x => x) sz rows hl k f r hk hf
 rwa [List.flatMap_id'] at this
theorem Of {sz : Nat} : ∀ (rows : List (List Value)), (∀ r ∈ rows, r.length = sz) → rows.flatten.length = rows.length * sz
 | [], _ => by simp
 | r :: rs, h => by rw [List.flatten_cons, List.length_append, Of rs (fun x hx => h x (by simp [hx])), h r (by simp), List.length_cons, Nat.succ_mul, Nat.add_comm]
theorem wG {sz n i : Nat} {cs cs' r' : List Value} {rows : List (List Value)} (hc : cs.take (n * sz) = rows.flatten) (hn : rows.length = n) (hr : ∀ r ∈ rows, r.length = sz) (hi : i < n) (hl : n * sz ≤ cs.length) (hr' : r'.length = sz) (hs : Sub cs' (i * sz) r') (hu : qH cs cs' (i * sz) sz) : cs'.take (n * sz) = (rows.set i r').flatten := by
 have Qh : ∀ r ∈ rows.set i r', r.length = sz := fun r hrm => by
  rcases List.mem_or_eq_of_mem_set hrm with h | h
  ·exact hr r h
  ·rw [h]; exact hr'
 refine List.ext_getElem? fun j => ?_
 rcases Nat.lt_or_ge j (n * sz) with hj | hj
 ·have hpos : 0 < sz := by
   rcases Nat.eq_zero_or_pos sz with h0 | h0
   ·rw [h0, Nat.mul_zero] at hj; omega
   ·exact h0
  have rB : j / sz * sz + j % sz = j := by rw [Nat.mul_comm]; exact Nat.div_add_mod j sz
  have hmod : j % sz < sz := Nat.mod_lt _ hpos
  have hq : j / sz < n := Nat.div_lt_of_lt_mul (by rw [Nat.mul_comm]; exact hj)
  have hlen := hu.1
  rw [List.getElem?_take_of_lt hj]
  by_cases he : j / sz = i
  ·have h1 : (rows.set i r')[j / sz]? = some r' := by rw [he, List.getElem?_set_self (by omega)]
   have h2 := Gu (rows.set i r') Qh (j / sz) (j % sz) r' h1 hmod
   rw [rB] at h2
   rw [h2]
   have h3 := hs (j % sz) (by omega)
   rw [← he, rB] at h3
   exact h3
  ·obtain ⟨r, Yg⟩ := get_some (l := rows) (i := j / sz) (by omega)
   have h1 : (rows.set i r')[j / sz]? = some r := by rw [List.getElem?_set_ne (by omega)]; exact Yg
   have h2 := Gu (rows.set i r') Qh (j / sz) (j % sz) r h1 hmod
   have h3 := Gu rows hr (j / sz) (j % sz) r Yg hmod
   rw [rB] at h2 h3
   rw [h2, ← h3, ← hc, List.getElem?_take_of_lt hj]
   refine hu.2 j ?_
   rcases Nat.lt_or_ge (j / sz) i with hlt | hge
   ·left
    have := Nat.mul_le_mul_right sz (show j / sz + 1 ≤ i by omega)
    rw [Nat.add_mul, Nat.one_mul] at this
    omega
   ·right
    have := Nat.mul_le_mul_right sz (show i + 1 ≤ j / sz by omega)
    rw [Nat.add_mul, Nat.one_mul] at this
    omega
 ·rw [List.getElem?_eq_none (by rw [List.length_take]; omega), List.getElem?_eq_none (by rw [Of _ Qh, List.length_set, hn]; exact hj)]
theorem Ai {sz n i : Nat} {cs r : List Value} {rows : List (List Value)} (hc : cs.take (n * sz) = rows.flatten) (hn : rows.length = n) (hr : ∀ r ∈ rows, r.length = sz) (hi : rows[i]? = some r) : Sub cs (i * sz) r := fun k hk => by
 have hlt : i < n := by rw [← hn]; exact (List.getElem?_eq_some_iff.1 hi).1
 have hrl : r.length = sz := hr r (List.mem_of_getElem? hi)
 have h1 := Gu rows hr i k r hi (by omega)
 have h2 : i * sz + k < n * sz := by
  have := Nat.mul_le_mul_right sz (show i + 1 ≤ n by omega)
  rw [Nat.add_mul, Nat.one_mul] at this
  omega
 rw [← h1, ← hc, List.getElem?_take_of_lt h2]
def vI (T el : TypeId) (sz t : Nat) (A : Option Addr) (n c : Nat) (rows : List (List Value)) : HP := HP.many [HP.aE t T [.slice A n c], HP.own el sz (.slice A n c) n rows.flatten]
structure uH (w : World) (sz t : Nat) (A : Option Addr) (n c : Nat) (rows : List (List Value)) : Prop where
 r0 : eK w t 0 (.slice A n c)
 row : aI (all w) sz A n rows.flatten
section
variable {N : cJ} {w0 w : World} {e : Env} {R : List Piece} {H : List HP} {K : Act → World → Prop} {T el : TypeId} {sz t n c : Nat} {A : Option Addr} {rows Vv : List (List Value)}
theorem vI.reads {F : Nat → Prop} (h : (vI T el sz t A n c rows).sat F w) (hF : ∀ b, F b → b < w.heap.size) : uH w sz t A n c rows := by
 obtain ⟨G, g1, g2, _⟩ := h
 have h0 := g1 0 _ rfl
 have h1 := g1 1 _ rfl
 obtain ⟨A', c', he, hs⟩ := aI.qS (Y := fun b => b < w.heap.size) h1 (fun b hb => hF b (g2 1 b hb))
 injection he with he
 subst he
 exact ⟨⟨h0.2.lt, by rw [h0.2.cell]; rfl⟩, hs⟩
theorem St.Vw (st : St w0 R H w) (i : Nat) (hi : H[i]? = some (vI T el sz t A n c rows)) : uH w sz t A n c rows := by
 obtain ⟨F, h1, h2, _⟩ := st.chunk hi
 exact vI.reads h1 h2
theorem Rd.row (i : Nat) (hi : H[i]? = some (vI T el sz t A n c rows)) : Rd w0 R H t 0 (.slice A n c) := fun w st => (st.Vw i hi).r0.2
theorem uH.at_ (h : uH w sz t A n c rows) (hr : ∀ r ∈ rows, r.length = sz) {i : Nat} {r : List Value} (hi : rows[i]? = some r) (hn : i < n) : ∃ b off, A = some ⟨b, off, none⟩ ∧ cX w b (off + i * sz) r := aI.row h.row hr hi hn
theorem uH.below {w' : World} (h : uH w sz t A n c rows) (hb : Below w.heap.size w w') : uH w' sz t A n c rows :=
 ⟨⟨Nat.lt_of_lt_of_le h.r0.1 hb.size, (hb.cell (p := ⟨_, 0, none⟩) h.r0.1).trans h.r0.2⟩, h.row.le (fF hb)⟩
theorem XK.Wp (i : Nat) (hi : H[i]? = some (vI T el sz t A n c rows)) (hn : 0 < n) (h : ∀ g cs, A = some ⟨g, 0, none⟩ → cs.length = c * sz → cs.take (n * sz) = rows.flatten → n ≤ c → c ≤ maxLen →
  XK N w0 K e R (HP.aE g el cs :: HP.aE t T [.slice (some ⟨g, 0, none⟩) n c] :: H.set i (HP.many [HP.emp, HP.emp]))) : XK N w0 K e R H := by
 have hlt := sD hi
 refine XK.take i 0 hi rfl ?_
 refine XK.take (i + 1) 1 (by rw [List.getElem?_cons_succ, List.getElem?_set_self hlt]) rfl ?_
 refine XK.Jt 0 rfl hn fun g hA => ?_
 rw [hA]
 refine XK.uP 0 rfl fun cs h1 h2 h3 h4 => ?_
 have := h g cs hA h1 h2 h3 h4
 simpa [List.set_cons_succ, List.set_set] using this
theorem XK.Hg (i : Nat) {g : Nat} {cs : List Value} (hA : A = some ⟨g, 0, none⟩) (h1 : cs.length = c * sz) (h2 : cs.take (n * sz) = Vv.flatten) (h3 : n ≤ c) (h4 : c ≤ maxLen) (hi : H[i]? = some (HP.many [HP.emp, HP.emp]))
  (h : XK N w0 K e R (H.set i (vI T el sz t A n c Vv))) : XK N w0 K e R (HP.aE g el cs :: HP.aE t T [.slice (some ⟨g, 0, none⟩) n c] :: H) := by
 have hlt := sD hi
 subst hA
 refine XK.vE 0 (n := n) (c := c) (sz := sz) rfl h1 h2 h3 h4 ?_
 dsimp only [List.set]
 refine XK.bF (i + 1) 1 (by rw [List.getElem?_cons_succ]; exact hi) rfl ?_
 dsimp only [List.set]
 refine XK.bF i 0 (by rw [List.getElem?_set_self hlt]) rfl ?_
 simpa [List.set_set, vI] using h
end
end
section
section
variable {N : cJ} {w0 : World} {e : Env} {R R0 : List Piece} {H H0 : List HP} {Q : Exit → Act → World → Prop} {ops : Array Oper} {rest : List Oper} {K : Act → World → Prop} {m fuel : Nat} {listed : Array Bool}
variable {d : Nat} {ty : TypeId} {pos : String} {aJ : Array Edge} {op : Op} {v : Value}
theorem aGb {x : Operand} {t kt et : TypeId} {r : Nat} {l : List (Int × Value)} (ht : Tryz.prog.underlying t = some (.map kt et)) (hx : e.ev x = some (.map (some r))) (hm : ∀ w, St w0 R H w → rL w r l) : bL Tryz.prog N w0 e R H ⟨some d, .call { callee := .builtin .len, args := #[x], argTypes := #[t] }, ty, pos, aJ, none⟩ (.int .i64 l.length) := fun a w hr st => by
 obtain ⟨es, c, h1, h2⟩ := hm w st
 have hl : es.size = l.length := by have := congrArg List.length h2; simpa using this
 have h3 : (execOp a.eval ⟨some d, .call { callee := .builtin .len, args := #[x], argTypes := #[t] }, ty, pos, aJ, none⟩).run Tryz.prog w = .ok (.value (.int .i64 es.size)) w := by
  simp [execOp, resolve, invoke, builtin, hr.ev hx, Builtin.len_, run_underlying ht, run_getObj_map h1, goInt]
 rw [h3, hl]
theorem Kh (i : Nat) {f : FuncId} {x : Operand} {args : List Operand} {fi ca vs : List Value} {tys : Array TypeId} {p : HP} (q : HP)
  (hc : ∀ w F, St w0 R H w → p.sat F w → (∀ b, F b → b < w.heap.size) → (∀ q ∈ R, q.Le ⟨w, fun b => b < w.heap.size ∧ ¬ F b⟩) → Calls Tryz.prog f (fi ++ vs ++ ca).toArray w fun y w' => y = .returned v ∧ ∃ F', q.sat F' w' ∧ bX w w' F F')
  (k : XK N w0 (wpList Tryz.prog ops Q rest) ((d, v) :: e) R (H.set i q)) (hi : H[i]? = some p := by rfl) (hx : e.ev x = some (.func (.func f) fi.toArray ca.toArray) := by rfl) (ha : e.cU args = some vs := by rfl) (hf : eY Tryz.prog f = true := by kernel_rfl) (hd : d < N.n := by decide) :
  XK N w0 (wpList Tryz.prog ops Q (⟨some d, .call { callee := .value x, args := args.toArray, argTypes := tys }, ty, pos, aJ, none⟩ :: rest)) e R H := Ul (dst := some d) (e' := (d, v) :: e) i q hf hx ha hi ⟨hd, rfl⟩ hc k
theorem iL (i : Nat) {f : FuncId} {x : Operand} {args : List Operand} {vs : List Value} {tys : Array TypeId} {p : HP} (q : HP)
  (hc : ∀ w F, St w0 R H w → p.sat F w → (∀ b, F b → b < w.heap.size) → (∀ q ∈ R, q.Le ⟨w, fun b => b < w.heap.size ∧ ¬ F b⟩) → Calls Tryz.prog f vs.toArray w fun y w' => y = .returned v ∧ ∃ F', q.sat F' w' ∧ bX w w' F F')
  (k : XK N w0 (wpList Tryz.prog ops Q rest) ((d, v) :: e) R (H.set i q)) (hi : H[i]? = some p := by rfl) (hx : e.ev x = some (.func (.func f) #[] #[]) := by rfl) (ha : e.cU args = some vs := by rfl) (hf : eY Tryz.prog f = true := by kernel_rfl) (hd : d < N.n := by decide) :
  XK N w0 (wpList Tryz.prog ops Q (⟨some d, .call { callee := .value x, args := args.toArray, argTypes := tys }, ty, pos, aJ, none⟩ :: rest)) e R H := Kh (fi := []) (ca := []) i q (fun w F t h1 h2 h3 => by simpa using hc w F t h1 h2 h3) k hi hx ha hf hd
end
end
section
set_option maxHeartbeats 4000000
set_option maxRecDepth 20000
def Dl (n : Nat) (xs : List Value) (v : Value) (hs : List HP) (_ : Piece) : Prop := ∃ A c, v = .slice A n c ∧ hs = [HP.own 92 2 (.slice A n c) n xs]
theorem Hj (A : Option Addr) (n c : Nat) (xs : List Value) (w : World) (hs : aI (all w) 2 A n xs) (h1 : ∀ u ∈ xs, u.oneCell' = true) (hn : n ≤ 1000000) :
  Calls Tryz.prog 141 #[.slice A n c] w (fun y w' => (∃ v hs q, y = .returned v ∧ q.w = w' ∧ Dl n xs v hs q ∧ jN w hs q) ∧ Below w.heap.size w w') := by
 refine XK.enter (vs := [.slice A n c]) Tryz.func141 rfl Tryz.ntmps141 (by simp) ?_
 refine XK.go ?_
 refine Nd (el := 92) (by kernel_rfl) rfl (by decide) ?_
 refine XK.aA ?_
 refine XK.cond rfl (fun hA => ?_) (fun hA => ?_)
 ·refine XK.go ?_
  have hn0 : n = 0 := by
   rcases Nat.eq_zero_or_pos n with h | h
   ·exact h
   ·obtain ⟨b, off, rfl, _⟩ := hs.2 h
    cases hA
  subst hn0
  have hx : xs = [] := List.eq_nil_of_length_eq_zero (by simpa using hs.1)
  subst hx
  refine XK.kA 92 2 ?_
  refine XK.still [] [] [0] (by simp) rfl (by decide) (by decide) fun q _ _ hfr => ?_
  exact XK.aK rfl rfl fun w1 st => ⟨⟨_, _, ⟨w1, q.Z⟩, rfl, rfl, ⟨_, _, rfl, rfl⟩, st.newR (by simp) (by simp) (hfr (by simp) (by simp))⟩, st.below (by simp)⟩
 ·refine XK.go ?_
  refine Mx (el := 92) (sz := 2) (by kernel_rfl) (by kernel_rfl) (by decide) fun g => ?_
  refine XK.Ht 0 2 0 rfl rfl (by omega) ?_
  dsimp only [List.set]
  refine XK.go ?_
  refine fA 0 2 8 n (n' := n) (el := 92) (by kernel_rfl) (by kernel_rfl) (by decide) rfl rfl rfl (qQ (by simp) hs) h1 (by omega) (by omega) (by omega) (by decide) fun A' k' => ?_
  dsimp only [List.set, List.nil_append]
  refine XK.go ?_
  refine XK.still [] [] [0] (by simp) rfl (by decide) (by decide) fun q _ _ hfr => ?_
  exact XK.aK rfl rfl fun w1 st => ⟨⟨_, _, ⟨w1, q.Z⟩, rfl, rfl, ⟨_, _, rfl, rfl⟩, st.newR (by simp) (by simp) (hfr (by simp) (by simp))⟩, st.below (by simp)⟩
def Tx (n : Nat) (xs : List Value) (v : Value) (hs : List HP) (_ : Piece) : Prop := ∃ A c, v = .slice A n c ∧ hs = [HP.own 44 1 (.slice A n c) n xs]
theorem aAA (A : Option Addr) (n c : Nat) (xs : List Value) (w : World) (hs : aI (all w) 1 A n xs) (h1 : ∀ u ∈ xs, u.oneCell' = true) (hn : n ≤ 1000000) :
  Calls Tryz.prog 72 #[.slice A n c] w (fun y w' => (∃ v hs q, y = .returned v ∧ q.w = w' ∧ Tx n xs v hs q ∧ jN w hs q) ∧ Below w.heap.size w w') := by
 refine XK.enter (vs := [.slice A n c]) Tryz.func72 rfl Tryz.ntmps72 (by simp) ?_
 refine XK.go ?_
 refine Nd (el := 44) (by kernel_rfl) rfl (by decide) ?_
 refine XK.aA ?_
 refine XK.cond rfl (fun hA => ?_) (fun hA => ?_)
 ·refine XK.go ?_
  have hn0 : n = 0 := by
   rcases Nat.eq_zero_or_pos n with h | h
   ·exact h
   ·obtain ⟨b, off, rfl, _⟩ := hs.2 h
    cases hA
  subst hn0
  have hx : xs = [] := List.eq_nil_of_length_eq_zero (by simpa using hs.1)
  subst hx
  refine XK.kA 44 1 ?_
  refine XK.still [] [] [0] (by simp) rfl (by decide) (by decide) fun q _ _ hfr => ?_
  exact XK.aK rfl rfl fun w1 st => ⟨⟨_, _, ⟨w1, q.Z⟩, rfl, rfl, ⟨_, _, rfl, rfl⟩, st.newR (by simp) (by simp) (hfr (by simp) (by simp))⟩, st.below (by simp)⟩
 ·refine XK.go ?_
  refine Mx (el := 44) (sz := 1) (by kernel_rfl) (by kernel_rfl) (by decide) fun g => ?_
  refine XK.Ht 0 1 0 rfl rfl (by omega) ?_
  dsimp only [List.set]
  refine XK.go ?_
  refine fA 0 1 4 n (n' := n) (el := 44) (by kernel_rfl) (by kernel_rfl) (by decide) rfl rfl rfl (qQ (by simp) hs) h1 (by omega) (by omega) (by omega) (by decide) fun A' k' => ?_
  dsimp only [List.set, List.nil_append]
  refine XK.go ?_
  refine XK.still [] [] [0] (by simp) rfl (by decide) (by decide) fun q _ _ hfr => ?_
  exact XK.aK rfl rfl fun w1 st => ⟨⟨_, _, ⟨w1, q.Z⟩, rfl, rfl, ⟨_, _, rfl, rfl⟩, st.newR (by simp) (by simp) (hfr (by simp) (by simp))⟩, st.below (by simp)⟩
end
section
set_option maxHeartbeats 4000000
set_option maxRecDepth 20000
def iY (l : List Int) : List Value := l.map (Value.int .u32)
theorem Ns (l : List Int) : (iY l).length = l.length := by simp [iY]
theorem Ux {l : List Int} {i : Nat} {v : Int} (h : l[i]? = some v) : (iY l)[i]? = some (.int .u32 v) := by simp [iY, h]
theorem Uw (l : List Int) (i : Nat) (v : Int) : (iY l).set i (.int .u32 v) = iY (l.set i v) := by simp [iY, List.map_set]
structure FL where
 f : Nat
 gn : Nat
 gs : Nat
 A : Option Addr
 c : Nat
def nC (d : bN) (A : Option Addr) (p : Piece) : Prop := aI p 2 A d.aQ.length (d.aQ.flatMap Rg.cells)
theorem nC.le {d : bN} {A : Option Addr} (p q : Piece) (hl : p.Le q) (h : nC d A p) : nC d A q := aI.le h hl
def Ap (L : FL) (d : bN) (k : Bool) : List Value := [.slice L.A d.aQ.length L.c, .slice (some ⟨L.gn, 0, none⟩) d.aQ.length d.aQ.length, .slice (some ⟨L.gs, 0, none⟩) d.aQ.length d.aQ.length, .bool k]
def dK (L : FL) (d : bN) (x : cP) : HP := HP.many [HP.aE L.f 240 (Ap L d x.kept), HP.aE L.gn 44 (iY x.now), HP.aE L.gs 44 (iY x.saved), HP.dM (nC d L.A) (nC.le (d := d) (A := L.A))]
structure vJ (w : World) (L : FL) (d : bN) (x : cP) : Prop where
 r0 : cX w L.f 0 (Ap L d x.kept)
 now : cX w L.gn 0 (iY x.now)
 saved : cX w L.gs 0 (iY x.saved)
 made : aI (all w) 2 L.A d.aQ.length (d.aQ.flatMap Rg.cells)
theorem vJ.below {w w' : World} {L : FL} {d : bN} {x : cP} (h : vJ w L d x) (hb : Below w.heap.size w w') : vJ w' L d x := ⟨h.r0.below hb, h.now.below hb, h.saved.below hb, h.made.le (fF hb)⟩
theorem vG {w : World} {g : Nat} {t : TypeId} {cs : List Value} (h : dO w g t cs.toArray) : cX w g 0 cs := ⟨h.lt, fun j v hv => by rw [h.cell, Nat.zero_add]; simpa using hv⟩
theorem dK.reads {L : FL} {d : bN} {x : cP} {F : Nat → Prop} {w : World} (h : (dK L d x).sat F w) (hF : ∀ b, F b → b < w.heap.size) : vJ w L d x := by
 obtain ⟨G, g1, g2, _⟩ := h
 exact ⟨vG (g1 0 _ rfl).2, vG (g1 1 _ rfl).2, vG (g1 2 _ rfl).2, aI.le (g1 3 _ rfl) (fun b hb => ⟨hF b (g2 3 b hb), rfl⟩)⟩
section
variable {N : cJ} {w0 w : World} {e : Env} {R : List Piece} {H : List HP} {K : Act → World → Prop} {L : FL} {d : bN} {x : cP}
theorem St.aAp (t : St w0 R H w) (i : Nat) (hi : H[i]? = some (dK L d x)) : vJ w L d x := by
 obtain ⟨F, h1, h2, _⟩ := t.chunk hi
 exact dK.reads h1 h2
theorem XK.Ju (i : Nat) (hi : H[i]? = some (dK L d x)) (h : XK N w0 K e R (HP.aE L.gs 44 (iY x.saved) :: HP.aE L.gn 44 (iY x.now) :: HP.aE L.f 240 (Ap L d x.kept) :: H.set i (HP.many [HP.emp, HP.emp, HP.emp, HP.dM (nC d L.A) (nC.le (d := d) (A := L.A))]))) : XK N w0 K e R H := by
 have hlt := sD hi
 refine XK.take i 0 hi rfl ?_
 refine XK.take (i + 1) 1 (by rw [List.getElem?_cons_succ, List.getElem?_set_self hlt]) rfl ?_
 refine XK.take (i + 2) 2 (by simp [hlt]; rfl) rfl ?_
 simpa [List.set_cons_succ, List.set_set] using h
theorem XK.Mi (i : Nat) (hi : H[i]? = some (HP.many [HP.emp, HP.emp, HP.emp, HP.dM (nC d L.A) (nC.le (d := d) (A := L.A))])) (h : XK N w0 K e R (H.set i (dK L d x))) : XK N w0 K e R (HP.aE L.gs 44 (iY x.saved) :: HP.aE L.gn 44 (iY x.now) :: HP.aE L.f 240 (Ap L d x.kept) :: H) := by
 have hlt := sD hi
 refine XK.bF (i + 2) 2 (by simpa using hi) rfl ?_
 dsimp only [List.set]
 refine XK.bF (i + 1) 1 (by simp [hlt]; rfl) rfl ?_
 dsimp only [List.set]
 refine XK.bF i 0 (by simp [hlt]; rfl) rfl ?_
 simpa [List.set_set, dK] using h
end
theorem Vy (L : FL) (d : bN) (x : cP) (w : World) (hR : vJ w L d x) :
  Calls Tryz.prog 64 #[.pointer (some ⟨L.f, 0, none⟩)] w (Rt (.int .i64 d.aQ.length) w) := by
 have h0 := hR.r0.at_ (j := 0) rfl
 refine XK.enter (vs := [.pointer (some ⟨L.f, 0, none⟩)]) Tryz.func64 rfl Tryz.ntmps64 (by simp) ?_
 refine XK.go ?_
 exact XK.bP (by simp) rfl
theorem Vz (p : Piece) (S : Nat → HP) (L : FL) (d : bN) (hrl : d.aQ.length ≤ 100) (f : FuncId) (hf : eY Tryz.prog f = true) (ca : List Value)
  (hread : ∀ i, i ≤ d.aQ.length → ∀ w F, (S i).sat F w → (∀ b, F b → b < w.heap.size) → ∃ x, vJ w L d x)
  (hstep : ∀ i r, d.aQ[i]? = some r → ∀ w F, (S i).sat F w → (∀ b, F b → b < w.heap.size) → p.Le ⟨w, fun b => b < w.heap.size ∧ ¬ F b⟩ →
   Calls Tryz.prog f (([.int .i64 (i : Int), .agg r.cells.toArray] : List Value) ++ ca).toArray w (fun y w' => y = .returned (.tuple #[]) ∧ ∃ F', (S (i + 1)).sat F' w' ∧ bX w w' F F'))
  (w : World) (F : Nat → Prop) (hp : (S 0).sat F w) (hF : ∀ b, F b → b < w.heap.size) (vY : p.Le ⟨w, fun b => b < w.heap.size ∧ ¬ F b⟩) :
  Calls Tryz.prog 226 #[.pointer (some ⟨L.f, 0, none⟩), .func (.func f) #[] ca.toArray] w (fun y w' => y = .returned (.tuple #[]) ∧ ∃ F', (S d.aQ.length).sat F' w' ∧ bX w w' F F') := by
 have hfr : ∀ {i : Nat} {R : List Piece} {H : List HP} {w1 : World}, i ≤ d.aQ.length → St w R (S i :: H) w1 → ∃ x, vJ w1 L d x := fun hi t => by
  obtain ⟨G, g1, g2, _⟩ := t.chunk (i := 0) rfl
  exact hread _ hi _ G g1 g2
 refine XK.dY (p := S 0) (F := F) (vs := [.pointer (some ⟨L.f, 0, none⟩), .func (.func f) #[] ca.toArray]) Tryz.func226 rfl Tryz.ntmps226 (by simp) hp hF ?_
 refine XK.go ?_
 refine bB (v := .int .i64 d.aQ.length) (fun w1 t => by
  obtain ⟨x, hx⟩ := hfr (Nat.zero_le _) t
  exact Vy L d x w1 hx) ?_
 refine XK.go ?_
 refine XK.aL [(7, .int .i64 0), (6, .int .i64 d.aQ.length), (1, .func (.func f) #[] ca.toArray), (0, .pointer (some ⟨L.f, 0, none⟩))] ?_
 refine XK.loop (fun m e R H => ∃ i : Nat, i ≤ d.aQ.length ∧ m = d.aQ.length - i ∧ e = [(7, .int .i64 i), (6, .int .i64 d.aQ.length), (1, .func (.func f) #[] ca.toArray), (0, .pointer (some ⟨L.f, 0, none⟩))] ∧ R = [⟨w, fun b => b < w.heap.size ∧ ¬ F b⟩] ∧ H = [S i]) d.aQ.length ⟨0, by omega, rfl, rfl, rfl, rfl⟩ fun m e R H hI => ?_
 obtain ⟨i, hi, rfl, rfl, rfl, rfl⟩ := hI
 refine XK.go ?_
 refine XK.if_ rfl (fun hlt => ?_) (fun hge => ?_)
 ·have hlt : i < d.aQ.length := by omega
  obtain ⟨r, hr⟩ := get_some hlt
  have hb0 : ∃ b off, L.A = some ⟨b, off, none⟩ := by
   obtain ⟨x, hx⟩ := hread 0 (Nat.zero_le _) w F hp hF
   obtain ⟨b, off, h, _⟩ := hx.made.2 (by omega)
   exact ⟨b, off, h⟩
  obtain ⟨b, off, hA⟩ := hb0
  have Qn : Rd w [⟨w, fun b => b < w.heap.size ∧ ¬ F b⟩] [S i] L.f 0 (.slice (some ⟨b, off, none⟩) d.aQ.length L.c) := fun w1 t => by
   obtain ⟨x, hx⟩ := hfr hi t
   rw [← hA]
   exact (hx.r0.at_ (j := 0) rfl).2
  have aHh : aC w [⟨w, fun b => b < w.heap.size ∧ ¬ F b⟩] [S i] b (off + i * 2) r.cells := fun w1 t => by
   obtain ⟨x, hx⟩ := hfr hi t
   obtain ⟨b', off', nA, hro⟩ := aI.row (rows := d.aQ.map Rg.cells) (by rw [← List.flatMap_def]; exact hx.made) (fun r hr => by obtain ⟨q, _, rfl⟩ := List.mem_map.1 hr; rfl) (by rw [List.getElem?_map, hr]; rfl) hlt
   rw [hA] at nA
   cases nA
   exact hro.2
  refine XK.go ?_
  refine kd (dat i (off + i * 2)) ?_
  refine XK.go ?_
  refine Ul 0 (fi := []) (ca := ca) (vs := [.int .i64 (i : Int), .agg r.cells.toArray]) (p := S i) (S (i + 1)) hf rfl rfl rfl ⟨(by decide), rfl⟩ (fun w1 G t hG qY hle => by
   have Kv := Piece.Le.trans vY (hle _ (by simp))
   simpa using hstep i r hr w1 G hG qY Kv) ?_
  dsimp only [List.set]
  refine XK.go ?_
  refine XK.aL [(7, .int .i64 (i + 1 : Nat)), (6, .int .i64 d.aQ.length), (1, .func (.func f) #[] ca.toArray), (0, .pointer (some ⟨L.f, 0, none⟩))] ?_
  exact XK.round (d.aQ.length - (i + 1)) (by omega) ⟨i + 1, hlt, rfl, rfl, rfl, rfl⟩
 ·obtain rfl : i = d.aQ.length := by omega
  refine XK.go ?_
  exact XK.kI (.inr rfl) rfl fun w1 t => ⟨rfl, t.turns hF (by simp) (i := 0) rfl⟩
end
section
set_option maxHeartbeats 4000000
set_option maxRecDepth 20000
def fW (vs old : List Int) (i : Nat) : List Int := vs.take i ++ old.drop i
theorem Es (vs old : List Int) : fW vs old 0 = old := by simp [fW]
theorem Ew {vs old : List Int} {n : Nat} (h1 : vs.length = n) (h2 : old.length = n) : fW vs old n = vs := by
 rw [fW, List.drop_eq_nil_of_le (by omega), List.append_nil, List.take_of_length_le (by omega)]
theorem Eu {vs old : List Int} {i n : Nat} (h1 : vs.length = n) (h2 : old.length = n) (hi : i ≤ n) : (fW vs old i).length = n := by simp [fW]; omega
theorem Et {vs old : List Int} {i : Nat} {v : Int} (h1 : vs.length = old.length) (hv : vs[i]? = some v) : (fW vs old i).set i v = fW vs old (i + 1) := by
 have hi := (List.getElem?_eq_some_iff.1 hv).1
 refine List.ext_getElem? fun j => ?_
 rw [List.getElem?_set]
 unfold fW
 by_cases he : i = j
 ·subst he
  rw [if_pos rfl, if_pos (by simp; omega), List.getElem?_append_left (by simp; omega), List.getElem?_take_of_lt (by omega), hv]
 ·rw [if_neg he]
  rcases Nat.lt_or_ge j i with hj | hj
  ·rw [List.getElem?_append_left (by simp; omega), List.getElem?_append_left (by simp; omega), List.getElem?_take_of_lt hj, List.getElem?_take_of_lt (by omega)]
  ·rw [List.getElem?_append_right (by simp; omega), List.getElem?_append_right (by simp; omega), List.getElem?_drop, List.getElem?_drop]
   congr 1
   simp
   omega
theorem aDH {vs old : List Int} {i : Nat} {v : Int} (h1 : vs.length = old.length) (hi : i < old.length) (hv : old[i]? = some v) : (fW vs old i)[i]? = some v := by
 rw [fW, List.getElem?_append_right (by simp; omega), List.getElem?_drop]
 simp only [List.length_take]
 rw [show i + (i - min i vs.length) = i by omega]
 exact hv
theorem aCH (p : Piece) (L : FL) (d : bN) (x : cP) (f : FuncId) (hf : eY Tryz.prog f = true) (ca : List Value) (g2 g3 i : Nat) (r : Rg) (v : Int) (hr : d.aQ[i]? = some r) (Ky : x.now.length = d.aQ.length)
  (h2 : p.Z g2 ∧ p.w.cell? ⟨g2, 0, none⟩ = some (.pointer (some ⟨L.f, 0, none⟩))) (h3 : p.Z g3 ∧ p.w.cell? ⟨g3, 0, none⟩ = some (.func (.func f) #[] ca.toArray))
  (hw : ∀ w F, (dK L d x).sat F w → (∀ b, F b → b < w.heap.size) → p.Le (all w) → Calls Tryz.prog f (([.int .i64 (i : Int), .agg r.cells.toArray] : List Value) ++ ca).toArray w (Rt (.int .u32 v) w))
  (w : World) (F : Nat → Prop) (hp : (dK L d x).sat F w) (hF : ∀ b, F b → b < w.heap.size) (vY : p.Le ⟨w, fun b => b < w.heap.size ∧ ¬ F b⟩) :
  Calls Tryz.prog 243 #[.int .i64 (i : Int), .agg r.cells.toArray, .pointer (some ⟨g3, 0, none⟩), .pointer (some ⟨g2, 0, none⟩)] w (fun y w' => y = .returned (.tuple #[]) ∧ ∃ F', (dK L d ⟨x.now.set i v, x.saved, x.kept⟩).sat F' w' ∧ bX w w' F F') := by
 have hlt := (List.getElem?_eq_some_iff.1 hr).1
 obtain ⟨c2, e2⟩ := vY g2 h2.1
 obtain ⟨c3, e3⟩ := vY g3 h3.1
 have k2 : w.cell? ⟨g2, 0, none⟩ = some (.pointer (some ⟨L.f, 0, none⟩)) := (World.cell?_of_block (w := p.w) e2).trans h2.2
 have k3 : w.cell? ⟨g3, 0, none⟩ = some (.func (.func f) #[] ca.toArray) := (World.cell?_of_block (w := p.w) e3).trans h3.2
 refine XK.dY (p := dK L d x) (F := F) (vs := [.int .i64 (i : Int), .agg r.cells.toArray, .pointer (some ⟨g3, 0, none⟩), .pointer (some ⟨g2, 0, none⟩)]) Tryz.func243 rfl Tryz.ntmps243 (by simp) hp hF ?_
 refine XK.go ?_
 refine bY rfl (by decide) fun g1 => ?_
 refine XK.go ?_
 have r2 : Rd w [⟨w, fun b => b < w.heap.size ∧ ¬ F b⟩] [HP.aE g1 92 r.cells, dK L d x] g2 0 (.pointer (some ⟨L.f, 0, none⟩)) := Rd.ro (List.mem_singleton.2 rfl) c2 k2
 have r3 : Rd w [⟨w, fun b => b < w.heap.size ∧ ¬ F b⟩] [HP.aE g1 92 r.cells, dK L d x] g3 0 (.func (.func f) #[] ca.toArray) := Rd.ro (List.mem_singleton.2 rfl) c3 k3
 have r4 : Rd w [⟨w, fun b => b < w.heap.size ∧ ¬ F b⟩] [HP.aE g1 92 r.cells, dK L d x] L.f 1 (.slice (some ⟨L.gn, 0, none⟩) d.aQ.length d.aQ.length) := fun w1 t => ((t.aAp 1 rfl).r0.at_ (j := 1) rfl).2
 refine XK.draw 9 (by kernel_rfl) (by kernel_rfl) ?_
 refine XA.q 0 ?_
 refine XA.q 1 ?_
 refine XA.q 2 ?_
 refine XA.q 3 ?_
 refine XA.q 4 ?_
 refine XA.q 5 ?_
 refine XA.q 6 ?_
 refine XA.q 7 ?_
 refine XA.next 8 rfl (by kernel_rfl) ?_
 refine Ki (fi := []) (ca := ca) (vs := [.int .i64 (i : Int), .agg r.cells.toArray]) (v := .int .u32 v) (hf := hf) (fun w1 t => by
  obtain ⟨G, g1', g2', g3', _⟩ := t.chunk (i := 1) rfl
  have hle : p.Le (all w1) := fun b hb => by
   obtain ⟨a1, a2⟩ := (Piece.Le.trans vY (g3' _ (List.mem_singleton.2 rfl))) b hb
   exact ⟨a1.1, a2⟩
  simpa using hw w1 G g1' g2' hle) ?_
 refine XA.bk ?_
 refine XA.next 9 rfl (by kernel_rfl) ?_
 refine kd (dat i i) ?_
 refine XA.bt ?_
 refine XA.next 10 rfl (by kernel_rfl) ?_
 refine XK.Ju 1 rfl ?_
 dsimp only [List.set]
 have Yc := Ns x.now
 refine gR rfl rfl ?_
 dsimp only [List.set]
 rw [Uw]
 refine XK.Mi (x := ⟨x.now.set i v, x.saved, x.kept⟩) 1 rfl ?_
 refine XA.bt ?_
 refine XA.done (by kernel_rfl) ?_
 refine XK.go ?_
 exact XK.kI (.inr rfl) rfl fun w1 t => ⟨rfl, t.turns hF (by simp) (i := 1) rfl⟩
theorem Wa (L : FL) (d : bN) (x : cP) (hrl : d.aQ.length ≤ 100) (f : FuncId) (hf : eY Tryz.prog f = true) (ca : List Value) (p : Piece) (vs : List Int) (hvl : vs.length = d.aQ.length) (Ky : x.now.length = d.aQ.length)
  (hw : ∀ (i : Nat) (r : Rg) (v : Int), d.aQ[i]? = some r → vs[i]? = some v → ∀ (now : List Int) w F, (dK L d ⟨now, x.saved, x.kept⟩).sat F w → (∀ b, F b → b < w.heap.size) → p.Le (all w) → Calls Tryz.prog f (([.int .i64 (i : Int), .agg r.cells.toArray] : List Value) ++ ca).toArray w (Rt (.int .u32 v) w))
  (w : World) (F : Nat → Prop) (hp : (dK L d x).sat F w) (hF : ∀ b, F b → b < w.heap.size) (vY : p.Le ⟨w, fun b => b < w.heap.size ∧ ¬ F b⟩) :
  Calls Tryz.prog 216 #[.pointer (some ⟨L.f, 0, none⟩), .func (.func f) #[] ca.toArray] w (fun y w' => y = .returned (.tuple #[]) ∧ ∃ F', (dK L d ⟨vs, x.saved, x.kept⟩).sat F' w' ∧ bX w w' F F') := by
 refine XK.dY (p := dK L d x) (F := F) (vs := [.pointer (some ⟨L.f, 0, none⟩), .func (.func f) #[] ca.toArray]) Tryz.func216 rfl Tryz.ntmps216 (by simp) hp hF ?_
 refine XK.go ?_
 refine bY rfl (by decide) fun g2 => ?_
 refine bY rfl (by decide) fun g3 => ?_
 refine XK.go ?_
 refine iA (vf := []) (vc := [.pointer (some ⟨g3, 0, none⟩), .pointer (some ⟨g2, 0, none⟩)]) rfl rfl (by decide) ?_
 refine XK.still [⟨w, fun b => b < w.heap.size ∧ ¬ F b⟩] [0, 1] [2] (by simp) rfl (by decide) (by decide) fun q hq Ru _ => ?_
 obtain ⟨F3, s3, z3⟩ := hq 0 _ (by simp) rfl
 obtain ⟨F2, s2, z2⟩ := hq 1 _ (by simp) rfl
 have hpq : p.Le q := Piece.Le.trans vY (Ru _ (by simp))
 refine iL 0 (dK L d ⟨vs, x.saved, x.kept⟩) (fun w1 G t hG qY hle => by
  have key := Vz q (fun i => dK L d ⟨fW vs x.now i, x.saved, x.kept⟩) L d hrl 243 (by kernel_rfl) [.pointer (some ⟨g3, 0, none⟩), .pointer (some ⟨g2, 0, none⟩)]
   (fun i _ w F h1 h2 => ⟨_, dK.reads h1 h2⟩) (fun i r hr w2 Tv h1 h2 h3 => by
    have hlt := (List.getElem?_eq_some_iff.1 hr).1
    obtain ⟨v, hv⟩ := get_some (l := vs) (i := i) (by omega)
    have := aCH q L d ⟨fW vs x.now i, x.saved, x.kept⟩ f hf ca g2 g3 i r v hr (Eu hvl Ky (by omega))
     ⟨z2 _ s2.1, by rw [s2.2.cell]; rfl⟩ ⟨z3 _ s3.1, by rw [s3.2.cell]; rfl⟩ (fun w3 F3 a1 a2 a3 => hw i r v hr hv _ w3 F3 a1 a2 (Piece.Le.trans hpq a3)) w2 Tv h1 h2 h3
    try dsimp only at this
    rw [Et (by omega) hv] at this
    exact this) w1 G (by show (dK L d ⟨fW vs x.now 0, x.saved, x.kept⟩).sat G w1; rw [Es]; exact hG) qY (hle q (by simp))
  try dsimp only at key
  rw [Ew hvl Ky] at key
  exact key) ?_
 dsimp only [List.set]
 refine XK.go ?_
 exact XK.kI (.inr rfl) rfl fun w1 t => ⟨rfl, t.turns hF (by simp) (i := 0) rfl⟩
end
section
set_option maxHeartbeats 4000000
set_option maxRecDepth 20000
structure GL where
 t : Nat
 A : Option Addr
 c : Nat
def lR (c : Dom) (x : eG) : List Value := [.int .i64 c.above, .int .i64 c.delay, .bool c.ret, .int .u8 x.phase, .int .i64 x.left, .bool x.kept, .bool x.keep]
def kY (s : aD) (st : List eG) : List (List Value) := List.zipWith lR s.domains st
abbrev pG (L : GL) (s : aD) (st : List eG) : HP := vI 230 232 7 L.t L.A s.domains.length L.c (kY s st)
abbrev aBg (w : World) (L : GL) (s : aD) (st : List eG) : Prop := uH w 7 L.t L.A s.domains.length L.c (kY s st)
section
variable {s : aD} {st : List eG}
theorem Sn (hok : rN s st) : (kY s st).length = s.domains.length ∧ ∀ r ∈ kY s st, r.length = 7 := by
 have := hok.len
 refine ⟨by simp [kY]; omega, fun r hr => ?_⟩
 obtain ⟨j, hj⟩ := List.getElem?_of_mem hr
 rw [kY, List.getElem?_zipWith] at hj
 split at hj <;> cases hj
 rfl
theorem Cq {i : Nat} {c : Dom} {x : eG} (hc : s.domains[i]? = some c) (hx : st[i]? = some x) : (kY s st)[i]? = some (lR c x) := by
 rw [kY, List.getElem?_zipWith, hc, hx]
theorem aA1 {i : Nat} {c : Dom} {x : eG} (hc : s.domains[i]? = some c) (hi : i < st.length) : (kY s st).set i (lR c x) = kY s (st.set i x) := by
 refine List.ext_getElem? fun j => ?_
 rw [List.getElem?_set]
 by_cases he : i = j
 ·subst he
  rw [if_pos rfl, Cq hc (x := x) (by rw [List.getElem?_set_self hi])]
  rw [if_pos]
  have h1 := (List.getElem?_eq_some_iff.1 hc).1
  simp [kY]; omega
 ·rw [if_neg he, kY, kY, List.getElem?_zipWith, List.getElem?_zipWith, List.getElem?_set_ne he]
end
theorem Wg (t n c b off i : Nat) (w : World) (h0 : eK w t 0 (.slice (some ⟨b, off, none⟩) n c)) (hi : i < n) :
  Calls Tryz.prog 161 #[.pointer (some ⟨t, 0, none⟩), .int .i64 (i : Int)] w (Rt (.pointer (some ⟨b, off + i * 7, none⟩)) w) := by
 refine XK.enter (vs := [.pointer (some ⟨t, 0, none⟩), .int .i64 (i : Int)]) Tryz.func161 rfl Tryz.ntmps161 (by simp) ?_
 refine XK.go ?_
 refine bO (t := 11) rfl (fun h => absurd h (by omega)) (fun _ => ?_)
 refine XK.go ?_
 refine XK.if_ rfl (fun h => absurd h (by omega)) (fun _ => ?_)
 refine XK.go ?_
 refine kd (dat i (off + i * 7)) ?_
 refine XK.go ?_
 exact XK.bP (by simp) rfl
theorem Wf (t n c : Nat) (A : Option Addr) (i : Int) (w : World) (h0 : eK w t 0 (.slice A n c)) (hi : cL n i = false) :
  Calls Tryz.prog 161 #[.pointer (some ⟨t, 0, none⟩), .int .i64 i] w (Rt (.pointer none) w) := by
 have hi := of_decide_eq_false hi
 refine XK.enter (vs := [.pointer (some ⟨t, 0, none⟩), .int .i64 i]) Tryz.func161 rfl Tryz.ntmps161 (by simp) ?_
 refine XK.go ?_
 refine bO (t := 11) rfl (fun h => ?_) (fun h => ?_)
 ·refine XK.go ?_
  exact XK.bP (by simp) rfl
 ·refine XK.go ?_
  refine XK.if_ rfl (fun h => ?_) (fun h => absurd hi (by omega))
  refine XK.go ?_
  exact XK.bP (by simp) rfl
theorem aDd (g o : Nat) (p : Int) (w : World) (h3 : eK w g (o + 3) (.int .u8 p)) :
  Calls Tryz.prog 162 #[.pointer (some ⟨g, o, none⟩)] w (Rt (.bool (decide (p = 48 ∨ p = 116))) w) := by
 refine XK.enter (vs := [.pointer (some ⟨g, o, none⟩)]) Tryz.func162 rfl Tryz.ntmps162 (by simp) ?_
 refine XK.go ?_
 refine bO (t := 8) rfl (fun h => ?_) (fun h => ?_)
 ·refine XK.go ?_
  refine XK.bP (by simp) ?_
  simp [h]
 ·refine XK.go ?_
  refine XK.bP (by simp) ?_
  simp [h]
theorem We (L : GL) (s : aD) (st : List eG) (hok : rN s st) (d : Int) (w : World) (hR : aBg w L s st) :
  Calls Tryz.prog 88 #[.pointer (some ⟨L.t, 0, none⟩), .int .i64 d] w (Rt (.int .u8 (mT st d)) w) := by
 have hl := hok.len
 cases hi : cL s.domains.length d
 ·refine XK.enter (vs := [.pointer (some ⟨L.t, 0, none⟩), .int .i64 d]) Tryz.func88 rfl Tryz.ntmps88 (by simp) ?_
  refine XK.go ?_
  refine bB (fun w1 t => Wf L.t s.domains.length L.c L.A d w1 ((hR.below (t.below (by simp))).r0) hi) ?_
  refine XK.go ?_
  refine XK.bP (by simp) ?_
  simp [mT, hl, hi]
 ·obtain ⟨n, rfl⟩ : ∃ n : Nat, d = n := ⟨d.toNat, by have := of_decide_eq_true hi; omega⟩
  have hlt : n < s.domains.length := by have := of_decide_eq_true hi; omega
  obtain ⟨c, hc⟩ := get_some hlt
  obtain ⟨x, hx⟩ := get_some (l := st) (i := n) (by omega)
  obtain ⟨b, off, hA, hro⟩ := hR.at_ (Sn hok).2 (Cq hc hx) hlt
  have h3 := hro.at_ (j := 3) rfl
  refine XK.enter (vs := [.pointer (some ⟨L.t, 0, none⟩), .int .i64 (n : Int)]) Tryz.func88 rfl Tryz.ntmps88 (by simp) ?_
  refine XK.go ?_
  refine bB (fun w1 t => Wg L.t s.domains.length L.c b off n w1 (by rw [← hA]; exact (hR.below (t.below (by simp))).r0) hlt) ?_
  refine XK.go ?_
  refine XK.bP (by simp) ?_
  simp [mT, hl, hi, hx]
theorem aCZ (L : GL) (s : aD) (st : List eG) (hH : s.cK) (hok : rN s st) (d : Int) (w : World) (F : Nat → Prop) (hp : (pG L s st).sat F w) (hF : ∀ b, F b → b < w.heap.size) :
  Calls Tryz.prog 79 #[.pointer (some ⟨L.t, 0, none⟩), .int .i64 d] w (fun y w' => y = .returned (.int .i64 (nH s st d).1) ∧ ∃ F', (pG L s (nH s st d).2).sat F' w' ∧ bX w w' F F') := by
 have hl := hok.len
 cases hi : cL s.domains.length d
 ·have hr : nH s st d = (4, st) := by simp [nH, hl, hi]
  rw [hr]
  refine XK.dY (p := pG L s st) (F := F) (vs := [.pointer (some ⟨L.t, 0, none⟩), .int .i64 d]) Tryz.func79 rfl Tryz.ntmps79 (by simp) hp hF ?_
  refine XK.go ?_
  refine bB (fun w1 t => Wf L.t s.domains.length L.c L.A d w1 ((t.Vw 0 rfl).r0) hi) ?_
  refine XK.go ?_
  exact XK.aK rfl rfl fun w1 t => ⟨rfl, t.turns hF (by simp) (i := 0) rfl⟩
 ·obtain ⟨n, rfl⟩ : ∃ n : Nat, d = n := ⟨d.toNat, by have := of_decide_eq_true hi; omega⟩
  have hlt : n < s.domains.length := by have := of_decide_eq_true hi; omega
  obtain ⟨c, hc⟩ := get_some hlt
  obtain ⟨x, hx⟩ := get_some (l := st) (i := n) (by omega)
  obtain ⟨iT, gS⟩ := Sn hok
  have oJ : nH s st (n : Int) = if Lt x = false ∨ Az st c.above = false then (6, st) else (0, st.set n ⟨114, c.delay, decide (x.phase = 116), x.keep⟩) := by
   simp [nH, hl, hi, hc, hx]
  obtain ⟨Lc, _, _⟩ := hH.domains n c hc
  refine XK.dY (p := pG L s st) (F := F) (vs := [.pointer (some ⟨L.t, 0, none⟩), .int .i64 (n : Int)]) Tryz.func79 rfl Tryz.ntmps79 (by simp) hp hF ?_
  refine XK.Wp 0 rfl (by omega) fun g cs hA h1 h2 h3 h4 => ?_
  dsimp only [List.set]
  have hs := Ai h2 iT gS (Cq hc hx)
  have hlen : n * 7 + 7 ≤ cs.length := by omega
  have hs1 := hs.set 5 (.bool (decide (x.phase = 116))) (by simp [lR]) (by omega)
  have eV := hs1.set 3 (.int .u8 114) (by simp [lR]) (by simp; omega)
  have kL := eV.set 4 (.int .i64 c.delay) (by simp [lR]) (by simp; omega)
  have hu3 := (((qH.refl cs (n * 7) 7).set 5 (.bool (decide (x.phase = 116))) (by decide)).set 3 (.int .u8 114) (by decide)).set 4 (.int .i64 c.delay) (by decide)
  have hf := wG (r' := lR c ⟨114, c.delay, decide (x.phase = 116), x.keep⟩) h2 iT gS hlt (by omega) rfl kL hu3
  rw [aA1 hc (by omega)] at hf
  refine XK.go ?_
  refine bB (fun w1 t => Wg L.t s.domains.length L.c g 0 n w1 ((t.box (i := 1) rfl).at_ (j := 0) rfl) hlt) ?_
  rw [Nat.zero_add]
  refine XK.go ?_
  refine XK.jD ?_
  refine XQ.go ?_
  refine XQ.call (fun w1 t => aDd g (n * 7) x.phase w1 ⟨(t.aE (i := 0) rfl).lt, Rd.sub 0 3 rfl hs rfl rfl w1 t⟩) ?_
  refine XQ.go ?_
  refine XQ.split 14 rfl (fun hd => ?_) (fun hd => ?_)
  ·rw [oJ, if_pos (.inl (decide_eq_false hd))]
   refine XQ.end_ ?_
   refine XK.go ?_
   refine XK.Hg 0 hA h1 h2 h3 h4 rfl ?_
   exact XK.aK rfl rfl fun w1 t => ⟨rfl, t.turns hF (by simp) (i := 0) rfl⟩
  ·have hdn : Lt x = true := decide_eq_true (Classical.not_not.1 hd)
   refine XQ.go ?_
   refine XQ.split 21 rfl (fun ha => ?_) (fun ha => ?_)
   ·obtain ⟨a, uW, Yr⟩ : ∃ a : Nat, c.above = a ∧ a < n := ⟨c.above.toNat, by omega, by omega⟩
    obtain ⟨ca, hca⟩ := get_some (l := s.domains) (i := a) (by omega)
    obtain ⟨xa, Xv⟩ := get_some (l := st) (i := a) (by omega)
    have hsa := Ai h2 iT gS (Cq hca Xv)
    refine XQ.go ?_
    refine XQ.kd (dat a (a * 7)) ?_
    refine XQ.end_ ?_
    have hal : Az st c.above = decide (xa.phase = 49) := by
     unfold Az
     rw [uW, Int.toNat_natCast, Xv]
     first | (simp; done) | (simp; omega)
    refine XK.if_ rfl (fun h => ?_) (fun h => ?_)
    ·rw [oJ, if_pos (.inr (by rw [hal]; exact decide_eq_false h))]
     refine XK.go ?_
     refine XK.Hg 0 hA h1 h2 h3 h4 rfl ?_
     exact XK.aK rfl rfl fun w1 t => ⟨rfl, t.turns hF (by simp) (i := 0) rfl⟩
    ·rw [oJ, if_neg (by rw [hal, hdn]; simp; exact Classical.not_not.1 h)]
     refine XK.go ?_
     refine XK.Hg 0 hA (by simpa using h1) hf h3 h4 rfl ?_
     exact XK.aK rfl rfl fun w1 t => ⟨rfl, t.turns hF (by simp) (i := 0) rfl⟩
   ·have ha := Classical.not_not.1 ha
    rw [oJ, if_neg (by rw [hdn]; simp [Az, ha])]
    refine XQ.end_ ?_
    refine XK.go ?_
    refine XK.Hg 0 hA (by simpa using h1) hf h3 h4 rfl ?_
    exact XK.aK rfl rfl fun w1 t => ⟨rfl, t.turns hF (by simp) (i := 0) rfl⟩
end
section
set_option maxHeartbeats 4000000
set_option maxRecDepth 20000
def jG (cs : List Value) (o : Nat) (x : eG) : List Value :=
 if x.phase = 114 then (if 0 < x.left then cs.set (o + 4) (.int .i64 (x.left - 1)) else cs.set (o + 3) (.int .u8 104))
 else if x.phase = 104 then cs.set (o + 3) (.int .u8 49)
 else if x.phase = 99 then cs.set (o + 3) (.int .u8 (if x.keep then 116 else 48)) else cs
theorem aBZ {cs : List Value} {o : Nat} {c : Dom} {x : eG} (h : Sub cs o (lR c x)) (hl : o + 7 ≤ cs.length) : Sub (jG cs o x) o (lR c (eB x).2) ∧ qH cs (jG cs o x) o 7 := by
 have hu := qH.refl cs o 7
 obtain ⟨ph, left, kept, keep⟩ := x
 by_cases h1 : ph = 114
 ·subst h1
  by_cases h2 : 0 < left
  ·simp only [jG, eB, if_pos h2, if_true]
   exact ⟨h.set 4 (.int .i64 (left - 1)) (by simp [lR]) (by omega), hu.set 4 _ (by decide)⟩
  ·simp only [jG, eB, if_neg h2, if_true]
   exact ⟨h.set 3 (.int .u8 104) (by simp [lR]) (by omega), hu.set 3 _ (by decide)⟩
 ·by_cases h2 : ph = 104
  ·simp only [jG, eB, if_neg h1, if_pos h2]
   exact ⟨h.set 3 (.int .u8 49) (by simp [lR]) (by omega), hu.set 3 _ (by decide)⟩
  ·by_cases h3 : ph = 99
   ·simp only [jG, eB, if_neg h1, if_neg h2, if_pos h3]
    cases keep
    ·exact ⟨h.set 3 (.int .u8 48) (by simp [lR]) (by omega), hu.set 3 _ (by decide)⟩
    ·exact ⟨h.set 3 (.int .u8 116) (by simp [lR]) (by omega), hu.set 3 _ (by decide)⟩
   ·simp only [jG, eB, if_neg h1, if_neg h2, if_neg h3]
    exact ⟨h, hu⟩
theorem aDb (g o : Nat) (cs : List Value) (c : Dom) (x : eG) (hs : Sub cs o (lR c x)) (hlen : o + 7 ≤ cs.length) (hx : 0 ≤ x.left ∧ x.left ≤ 3) (w : World) (F : Nat → Prop) (hp : (HP.aE g 232 cs).sat F w) (hF : ∀ b, F b → b < w.heap.size) :
  Calls Tryz.prog 168 #[.pointer (some ⟨g, o, none⟩)] w (fun y w' => y = .returned (.int .u8 (eB x).1) ∧ ∃ F', (HP.aE g 232 (jG cs o x)).sat F' w' ∧ bX w w' F F') := by
 refine XK.dY (p := HP.aE g 232 cs) (F := F) (vs := [.pointer (some ⟨g, o, none⟩)]) Tryz.func168 rfl Tryz.ntmps168 (by simp) hp hF ?_
 obtain ⟨ph, left, kept, keep⟩ := x
 dsimp only at hx
 dsimp only [lR] at hs
 refine XK.go ?_
 refine XK.if_ rfl (fun h => ?_) (fun h => ?_)
 ·subst h
  refine XK.go ?_
  refine XK.if_ rfl (fun hp => ?_) (fun hp => ?_)
  ·refine XK.go ?_
   refine XK.aK rfl rfl fun w1 t => ⟨by simp [eB, jG, hp, if_true], ?_⟩
   simp only [eB, jG, if_pos hp, if_true]
   exact t.turns hF (by simp) (i := 0) rfl
  ·have hs1 := hs.set 3 (.int .u8 104) (by simp) (by omega)
   refine XK.go ?_
   refine XK.cond rfl (fun hk => ?_) (fun hk => ?_)
   ·refine XK.go ?_
    refine XK.aK rfl rfl fun w1 t => ⟨by simp [eB, jG, hp, if_true, hk], ?_⟩
    simp only [eB, jG, if_neg hp, if_true, hk]
    exact t.turns hF (by simp) (i := 0) rfl
   ·refine XK.go ?_
    refine XK.aK rfl rfl fun w1 t => ⟨by simp [eB, jG, hp, if_true, hk], ?_⟩
    simp only [eB, jG, if_neg hp, if_true, hk]
    exact t.turns hF (by simp) (i := 0) rfl
 ·refine XK.go ?_
  refine XK.if_ rfl (fun h2 => ?_) (fun h2 => ?_)
  ·refine XK.go ?_
   refine XK.aK rfl rfl fun w1 t => ⟨by simp [eB, jG, h, h2], ?_⟩
   simp only [eB, jG, if_neg h, if_pos h2]
   exact t.turns hF (by simp) (i := 0) rfl
  ·refine XK.go ?_
   refine XK.if_ rfl (fun h3 => ?_) (fun h3 => ?_)
   ·refine XK.go ?_
    refine XK.cond rfl (fun hk => ?_) (fun hk => ?_)
    ·refine XK.go ?_
     refine XK.aK rfl rfl fun w1 t => ⟨by simp [eB, jG, h, h2, h3, hk, if_true], ?_⟩
     simp only [eB, jG, if_neg h, if_neg h2, if_pos h3, hk, if_true]
     exact t.turns hF (by simp) (i := 0) rfl
    ·refine XK.go ?_
     refine XK.aK rfl rfl fun w1 t => ⟨by simp [eB, jG, h, h2, h3, hk], ?_⟩
     simp only [eB, jG, if_neg h, if_neg h2, if_pos h3, hk]
     exact t.turns hF (by simp) (i := 0) rfl
   ·refine XK.go ?_
    refine XK.aK rfl rfl fun w1 t => ⟨by simp [eB, jG, h, h2, h3], ?_⟩
    simp only [eB, jG, if_neg h, if_neg h2, if_neg h3]
    exact t.turns hF (by simp) (i := 0) rfl
theorem Vk {α : Type} {l : List α} {i : Nat} {x : α} (h : l[i]? = some x) : l.set i x = l := by
 refine List.ext_getElem? fun j => ?_
 rw [List.getElem?_set]
 by_cases he : i = j
 ·subst he; rw [if_pos rfl, if_pos (List.getElem?_eq_some_iff.1 h).1, h]
 ·rw [if_neg he]
def vP (st : List eG) (i : Nat) : List eG := (kG st).take i ++ st.drop i
theorem Oy {α : Type} (f : α → α) (st : List α) {i : Nat} (hi : i < st.length) : ((st.map f).take i ++ st.drop i)[i]? = st[i]? := by
 have : ((st.map f).take i).length = i := by simp; omega
 rw [List.getElem?_append_right (by omega), this, Nat.sub_self, List.getElem?_drop, Nat.add_zero]
theorem Ox {α : Type} (f : α → α) (st : List α) {i : Nat} {x : α} (hx : st[i]? = some x) : ((st.map f).take i ++ st.drop i).set i (f x) = (st.map f).take (i + 1) ++ st.drop (i + 1) := by
 have hi := (List.getElem?_eq_some_iff.1 hx).1
 refine List.ext_getElem? fun j => ?_
 rw [List.getElem?_set]
 by_cases he : i = j
 ·subst he
  rw [if_pos rfl, if_pos (by simp; omega), List.getElem?_append_left (by simp; omega), List.getElem?_take_of_lt (by omega), List.getElem?_map, hx]
  rfl
 ·rw [if_neg he]
  rcases Nat.lt_or_ge j i with hj | hj
  ·rw [List.getElem?_append_left (by simp; omega), List.getElem?_append_left (by simp; omega), List.getElem?_take_of_lt hj, List.getElem?_take_of_lt (by omega)]
  ·rw [List.getElem?_append_right (by simp; omega), List.getElem?_append_right (by simp; omega), List.getElem?_drop, List.getElem?_drop]
   congr 1
   simp
   omega
theorem Va {x : eG} (hl : 0 ≤ x.left ∧ x.left ≤ 3) (hp : 0 ≤ x.phase ∧ x.phase < 256) : (0 ≤ (eB x).2.left ∧ (eB x).2.left ≤ 3) ∧ (0 ≤ (eB x).2.phase ∧ (eB x).2.phase < 256) := by
 unfold eB
 repeat' split
 all_goals (dsimp only; constructor <;> omega)
theorem Nu {s : aD} {st : List eG} (hok : rN s st) : rN s (kG st) := by
 have hl := hok.len
 refine ⟨by simp [kG]; omega, fun x hx => ?_, fun x hx => ?_⟩
 ·obtain ⟨y, hy, rfl⟩ := List.mem_map.1 hx
  exact (Va (hok.left y hy) (hok.phase y hy)).1
 ·obtain ⟨y, hy, rfl⟩ := List.mem_map.1 hx
  exact (Va (hok.left y hy) (hok.phase y hy)).2
theorem aDJ {s : aD} {st : List eG} (hok : rN s st) {i : Nat} (hi : i ≤ s.domains.length) : rN s (vP st i) := by
 have hl := hok.len
 have ht := Nu hok
 refine ⟨by simp [vP, kG]; omega, fun x hx => ?_, fun x hx => ?_⟩
 ·rcases List.mem_append.1 hx with h | h
  ·exact ht.left x (List.mem_of_mem_take h)
  ·exact hok.left x (List.mem_of_mem_drop h)
 ·rcases List.mem_append.1 hx with h | h
  ·exact ht.phase x (List.mem_of_mem_take h)
  ·exact hok.phase x (List.mem_of_mem_drop h)
def vA (p : Int × Nat) : List Value := [.int .u8 p.1, .int .i64 (p.2 : Int)]
theorem aAt (st : List eG) (n : Nat) : (gL st n).length ≤ n := by
 unfold gL
 exact Nat.le_trans (List.length_filterMap_le _ _) (by simp)
theorem aFG {st : List eG} {i : Nat} {x : eG} (hx : st[i]? = some x) : gL st (i + 1) = gL st i ++ (if (eB x).1 = 0 then [] else [((eB x).1, i)]) := by
 unfold gL
 rw [List.range_succ, List.filterMap_append]
 simp only [List.filterMap_cons, List.filterMap_nil, hx, Option.bind_some]
 by_cases h : (eB x).1 = 0 <;> simp [h]
theorem aDa (L : GL) (s : aD) (st : List eG) (hok : rN s st) (hnd : s.domains.length ≤ 1000) (w : World) (F : Nat → Prop) (hp : (pG L s st).sat F w) (hF : ∀ b, F b → b < w.heap.size) :
  Calls Tryz.prog 84 #[.pointer (some ⟨L.t, 0, none⟩)] w (fun y w' => ∃ a : Option Addr × Nat, y = .returned (.slice a.1 (gL st s.domains.length).length a.2) ∧ True ∧ ∃ F', (HP.many [pG L s (kG st), HP.own 166 2 (.slice a.1 (gL st s.domains.length).length a.2) (gL st s.domains.length).length ((gL st s.domains.length).flatMap vA)]).sat F' w' ∧ bX w w' F F') := by
 have hl := hok.len
 refine XK.dY (p := pG L s st) (F := F) (vs := [.pointer (some ⟨L.t, 0, none⟩)]) Tryz.func84 rfl Tryz.ntmps84 (by simp) hp hF ?_
 have Qn : Rd w [⟨w, fun b => b < w.heap.size ∧ ¬ F b⟩] [pG L s st] L.t 0 (.slice L.A s.domains.length L.c) := Rd.row 0 rfl
 refine XK.go ?_
 refine XK.kA 166 2 ?_
 refine XK.aL [(13, .int .i64 0), (12, .int .i64 s.domains.length), (3, .slice none 0 0), (0, .pointer (some ⟨L.t, 0, none⟩))] ?_
 refine XK.loop (fun m e R H => ∃ (i : Nat) (A : Option Addr) (k : Nat), i ≤ s.domains.length ∧ m = s.domains.length - i ∧ e = [(13, .int .i64 i), (12, .int .i64 s.domains.length), (3, .slice A (gL st i).length k), (0, .pointer (some ⟨L.t, 0, none⟩))] ∧ R = [⟨w, fun b => b < w.heap.size ∧ ¬ F b⟩] ∧ H = [HP.own 166 2 (.slice A (gL st i).length k) (gL st i).length ((gL st i).flatMap vA), pG L s (vP st i)]) s.domains.length ⟨0, none, 0, by omega, rfl, rfl, rfl, by simp [vP, gL]⟩ fun m e R H hI => ?_
 obtain ⟨i, A, k, hi, rfl, rfl, rfl, rfl⟩ := hI
 refine XK.go ?_
 refine XK.if_ rfl (fun hlt => ?_) (fun hge => ?_)
 ·have hlt : i < s.domains.length := by omega
  obtain ⟨c, hc⟩ := get_some hlt
  obtain ⟨x, hx⟩ := get_some (l := st) (i := i) (by omega)
  have zN : (vP st i)[i]? = some x := by rw [vP, kG, Oy _ st (by omega)]; exact hx
  have tJ := aDJ hok hi
  obtain ⟨iT, gS⟩ := Sn tJ
  have hel := aAt st i
  refine XK.Wp 1 rfl (by omega) fun g cs hA h1 h2 h3 h4 => ?_
  dsimp only [List.set]
  have hs := Ai h2 iT gS (Cq hc zN)
  obtain ⟨hs1, oK⟩ := aBZ hs (by omega)
  have hf := wG (r' := lR c (eB x).2) h2 iT gS hlt (by omega) rfl hs1 oK
  rw [aA1 hc (by have := tJ.len; omega), vP, kG, Ox (fun x => (eB x).2) st hx] at hf
  refine XK.go ?_
  refine kd (dat i (i * 7)) ?_
  refine Ng 0 (fi := []) (ca := []) (p := HP.aE g 232 cs) (HP.aE g 232 (jG cs (i * 7) x)) (by kernel_rfl) rfl rfl rfl ⟨(by decide), rfl⟩ (fun w1 G t hG qY => aDb g (i * 7) cs c x hs (by omega) (hok.left x (List.mem_of_getElem? hx)) w1 G hG qY) ?_
  dsimp only [List.set]
  have vW : (jG cs (i * 7) x).length = L.c * 7 := by rw [oK.1, h1]
  refine XK.Hg 1 hA vW hf h3 h4 rfl ?_
  dsimp only [List.set]
  have nP := aFG hx
  refine XK.go ?_
  refine XK.if_ rfl (fun hz => ?_) (fun hz => ?_)
  ·rw [if_neg hz] at nP
   refine XK.go ?_
   refine dJ (zs := [.int .u8 0, .int .i64 0]) (L := [(0, 1), (1, 1)]) (aM (by kernel_rfl)) (by kernel_rfl) rfl (by simp [aS, aT, Value.cells]; rfl) (by decide) ?_
   refine eZ (el := 166) (sz := 2) (zs := [.int .u8 0, .int .i64 0]) (by kernel_rfl) (aM (by kernel_rfl)) (by kernel_rfl) rfl (by decide) (by decide) rfl (by simp [aS, aT, Value.cells, List.range_succ, List.set]; rfl) (by decide) fun g2 => ?_
   refine fA 1 2 16 1 (el := 166) (by kernel_rfl) (by kernel_rfl) (by decide) rfl rfl rfl (jY 0 rfl rfl) (by simp [Value.oneCell']) rfl (by omega) (by omega) (by decide) fun A' k' => ?_
   dsimp only [List.set]
   refine XK.go ?_
   have e1 : (gL st (i + 1)).length = (gL st i).length + 1 := by rw [nP]; simp
   have e2 : (gL st (i + 1)).flatMap vA = (gL st i).flatMap vA ++ [.int .u8 (eB x).1, .int .i64 (i : Int)] := by rw [nP, List.flatMap_append]; rfl
   refine XK.weak [1, 2] rfl (by decide) (fun _ h => h) ?_
   refine XK.aL [(13, .int .i64 (i + 1 : Nat)), (12, .int .i64 s.domains.length), (3, .slice A' ((gL st i).length + 1) k'), (0, .pointer (some ⟨L.t, 0, none⟩))] ?_
   exact XK.round (s.domains.length - (i + 1)) (by omega) ⟨i + 1, A', k', hlt, rfl, by rw [e1], rfl, by rw [e1, e2]; rfl⟩
  ·have hz := Classical.not_not.1 hz
   rw [if_pos hz, List.append_nil] at nP
   refine XK.go ?_
   refine XK.aL [(13, .int .i64 (i + 1 : Nat)), (12, .int .i64 s.domains.length), (3, .slice A (gL st i).length k), (0, .pointer (some ⟨L.t, 0, none⟩))] ?_
   refine XK.round (s.domains.length - (i + 1)) (by omega) ⟨i + 1, A, k, hlt, rfl, by rw [nP], rfl, by rw [nP]; rfl⟩
 ·obtain rfl : i = s.domains.length := by omega
  have tN : vP st s.domains.length = kG st := by
   rw [vP, List.drop_eq_nil_of_le (by omega), List.append_nil, List.take_of_length_le (by simp [kG]; omega)]
  rw [tN]
  refine XK.go ?_
  refine XK.weak [1, 0] rfl (by decide) (fun _ h => h) ?_
  refine XK.pair ?_
  exact XK.aK rfl rfl fun w1 t => ⟨(A, k), rfl, trivial, t.turns hF (by simp) (i := 0) rfl⟩
end
section
set_option maxHeartbeats 4000000
set_option maxRecDepth 20000
theorem aFK (w : World) (q : Piece) : (⟨w, fun _ => False⟩ : Piece).Le q := fun _ h => h.elim
theorem aG7 (i : Nat) (r : Rg) (w : World) :
  Calls Tryz.prog 217 #[.int .i64 (i : Int), .agg r.cells.toArray] w (Rt (.int .u32 r.reset) w) := by
 refine XK.enter (vs := [.int .i64 (i : Int), .agg r.cells.toArray]) Tryz.func217 rfl Tryz.ntmps217 (by simp) ?_
 refine XK.go ?_
 refine bY rfl (by decide) fun g1 => ?_
 dsimp only [Value.cells, Rg.cells]
 refine XK.go ?_
 exact XK.bP (by simp) rfl
theorem Oi (L : FL) (d : bN) (x : cP) (hrl : d.aQ.length ≤ 100) (hok : yH d x) (w : World) (F : Nat → Prop) (hp : (dK L d x).sat F w) (hF : ∀ b, F b → b < w.heap.size) :
  Calls Tryz.prog 142 #[.pointer (some ⟨L.f, 0, none⟩)] w (fun y w' => y = .returned (.tuple #[]) ∧ ∃ F', (dK L d (Ho d x)).sat F' w' ∧ bX w w' F F') := by
 refine XK.dY (p := dK L d x) (F := F) (vs := [.pointer (some ⟨L.f, 0, none⟩)]) Tryz.func142 rfl Tryz.ntmps142 (by simp) hp hF ?_
 refine XK.go ?_
 refine iL 0 (dK L d ⟨d.aQ.map (·.reset), x.saved, x.kept⟩) (fun w1 G t hG qY hle => by
  have := Wa L d x hrl 217 (by kernel_rfl) [] ⟨w1, fun _ => False⟩ (d.aQ.map (·.reset)) (by simp) hok.now (fun i r v hr hv now w2 F2 _ _ _ => by
   rw [List.getElem?_map, hr] at hv
   cases hv
   exact aG7 i r w2) w1 G hG qY (aFK _ _)
  exact this) ?_
 dsimp only [List.set]
 refine XK.Ju 0 rfl ?_
 dsimp only [List.set, Ap]
 refine XK.go ?_
 refine XK.Mi (x := Ho d x) 0 rfl ?_
 exact XK.kI (.inr rfl) rfl fun w1 t => ⟨rfl, t.turns hF (by simp) (i := 0) rfl⟩
theorem aCC (L : FL) (d : bN) (x : cP) (g1 i : Nat) (r : Rg) (v : Int) (hr : d.aQ[i]? = some r) (hv : x.saved[i]? = some v) (w : World) (hR : vJ w L d x) (h1 : eK w g1 0 (.pointer (some ⟨L.f, 0, none⟩))) :
  Calls Tryz.prog 228 #[.int .i64 (i : Int), .agg r.cells.toArray, .pointer (some ⟨g1, 0, none⟩)] w (Rt (.int .u32 (Jn x.kept r v)) w) := by
 have hlt := (List.getElem?_eq_some_iff.1 hr).1
 have k3 := hR.r0.at_ (j := 3) rfl
 have k2 := hR.r0.at_ (j := 2) rfl
 have kv := hR.saved.at_ (Ux hv)
 rw [Nat.zero_add] at kv
 obtain ⟨rs, kp⟩ := r
 cases hk : x.kept
 ·rw [hk] at k3
  refine XK.enter (vs := [.int .i64 (i : Int), .agg (Rg.cells ⟨rs, kp⟩).toArray, .pointer (some ⟨g1, 0, none⟩)]) Tryz.func228 rfl Tryz.ntmps228 (by simp) ?_
  refine XK.go ?_
  refine bY rfl (by decide) fun g2 => ?_
  dsimp only [Value.cells, Rg.cells]
  refine XK.go ?_
  exact XK.bP (by simp) rfl
 ·rw [hk] at k3
  cases kp
  ·refine XK.enter (vs := [.int .i64 (i : Int), .agg (Rg.cells ⟨rs, false⟩).toArray, .pointer (some ⟨g1, 0, none⟩)]) Tryz.func228 rfl Tryz.ntmps228 (by simp) ?_
   refine XK.go ?_
   refine bY rfl (by decide) fun g2 => ?_
   dsimp only [Value.cells, Rg.cells]
   refine XK.go ?_
   exact XK.bP (by simp) rfl
  ·refine XK.enter (vs := [.int .i64 (i : Int), .agg (Rg.cells ⟨rs, true⟩).toArray, .pointer (some ⟨g1, 0, none⟩)]) Tryz.func228 rfl Tryz.ntmps228 (by simp) ?_
   refine XK.go ?_
   refine bY rfl (by decide) fun g2 => ?_
   dsimp only [Value.cells, Rg.cells]
   refine XK.go ?_
   refine kd (dat i i) ?_
   refine XK.go ?_
   exact XK.bP (by simp) rfl
theorem aCF (L : FL) (d : bN) (x : cP) (hrl : d.aQ.length ≤ 100) (hok : yH d x) (w : World) (F : Nat → Prop) (hp : (dK L d x).sat F w) (hF : ∀ b, F b → b < w.heap.size) :
  Calls Tryz.prog 170 #[.pointer (some ⟨L.f, 0, none⟩)] w (fun y w' => y = .returned (.tuple #[]) ∧ ∃ F', (dK L d (xD d x)).sat F' w' ∧ bX w w' F F') := by
 have oL := hok.saved
 refine XK.dY (p := dK L d x) (F := F) (vs := [.pointer (some ⟨L.f, 0, none⟩)]) Tryz.func170 rfl Tryz.ntmps170 (by simp) hp hF ?_
 refine XK.go ?_
 refine bY rfl (by decide) fun g1 => ?_
 refine XK.go ?_
 refine iA (vf := []) (vc := [.pointer (some ⟨g1, 0, none⟩)]) rfl rfl (by decide) ?_
 refine XK.still [⟨w, fun b => b < w.heap.size ∧ ¬ F b⟩] [0] [1] (by simp) rfl (by decide) (by decide) fun q hq Ru _ => ?_
 obtain ⟨F1, s1, z1⟩ := hq 0 _ (by simp) rfl
 refine iL 0 (dK L d (xD d x)) (fun w1 G t hG qY hle => by
  have := Wa L d x hrl 228 (by kernel_rfl) [.pointer (some ⟨g1, 0, none⟩)] q (xD d x).now (by simp [xD]; omega) hok.now (fun i r v hr hv now w2 F2 a1 a2 a3 => by
   have hlt := (List.getElem?_eq_some_iff.1 hr).1
   obtain ⟨u, hu⟩ := get_some (l := x.saved) (i := i) (by omega)
   have he : v = Jn x.kept r u := by
    rw [xD, List.getElem?_zipWith, hr, hu] at hv
    cases hv; rfl
   subst he
   obtain ⟨b1, b2⟩ := a3 g1 (z1 _ s1.1)
   exact aCC L d ⟨now, x.saved, x.kept⟩ g1 i r u hr hu w2 (dK.reads a1 a2) ⟨b1, (World.cell?_of_block (w := q.w) b2).trans (by rw [s1.2.cell]; rfl)⟩) w1 G hG qY (hle q (by simp))
  exact this) ?_
 dsimp only [List.set]
 refine XK.go ?_
 exact XK.kI (.inr rfl) rfl fun w1 t => ⟨rfl, t.turns hF (by simp) (i := 0) rfl⟩
theorem aCo (p : Piece) (L : FL) (d : bN) (x : cP) (g1 i : Nat) (r : Rg) (v u : Int) (hr : d.aQ[i]? = some r) (hv : x.now[i]? = some v) (hu : x.saved[i]? = some u) (Ky : x.saved.length = d.aQ.length)
  (h1 : p.Z g1 ∧ p.w.cell? ⟨g1, 0, none⟩ = some (.pointer (some ⟨L.f, 0, none⟩))) (w : World) (F : Nat → Prop) (hp : (dK L d x).sat F w) (hF : ∀ b, F b → b < w.heap.size) (vY : p.Le ⟨w, fun b => b < w.heap.size ∧ ¬ F b⟩) :
  Calls Tryz.prog 227 #[.int .i64 (i : Int), .agg r.cells.toArray, .pointer (some ⟨g1, 0, none⟩)] w (fun y w' => y = .returned (.tuple #[]) ∧ ∃ F', (dK L d ⟨x.now, x.saved.set i (yT r (v, u)), x.kept⟩).sat F' w' ∧ bX w w' F F') := by
 have hlt := (List.getElem?_eq_some_iff.1 hr).1
 obtain ⟨c1, e1⟩ := vY g1 h1.1
 have k1 : w.cell? ⟨g1, 0, none⟩ = some (.pointer (some ⟨L.f, 0, none⟩)) := (World.cell?_of_block (w := p.w) e1).trans h1.2
 obtain ⟨rs, kp⟩ := r
 cases kp
 ·have hsame : x.saved.set i (yT ⟨rs, false⟩ (v, u)) = x.saved := Vk hu
  rw [hsame]
  refine XK.dY (p := dK L d x) (F := F) (vs := [.int .i64 (i : Int), .agg (Rg.cells ⟨rs, false⟩).toArray, .pointer (some ⟨g1, 0, none⟩)]) Tryz.func227 rfl Tryz.ntmps227 (by simp) hp hF ?_
  refine XK.go ?_
  refine bY rfl (by decide) fun g2 => ?_
  dsimp only [Value.cells, Rg.cells]
  refine XK.go ?_
  exact XK.kI (.inr rfl) rfl fun w1 t => ⟨rfl, t.turns hF (by simp) (i := 1) rfl⟩
 ·refine XK.dY (p := dK L d x) (F := F) (vs := [.int .i64 (i : Int), .agg (Rg.cells ⟨rs, true⟩).toArray, .pointer (some ⟨g1, 0, none⟩)]) Tryz.func227 rfl Tryz.ntmps227 (by simp) hp hF ?_
  refine XK.go ?_
  refine bY rfl (by decide) fun g2 => ?_
  dsimp only [Value.cells, Rg.cells]
  refine XK.go ?_
  refine XK.Ju 1 rfl ?_
  dsimp only [List.set, Ap]
  have Yc := Ns x.now
  have oL := Ns x.saved
  have r1 : Rd w [⟨w, fun b => b < w.heap.size ∧ ¬ F b⟩] [HP.aE L.gs 44 (iY x.saved), HP.aE L.gn 44 (iY x.now), HP.aE L.f 240 [.slice L.A d.aQ.length L.c, .slice (some ⟨L.gn, 0, none⟩) d.aQ.length d.aQ.length, .slice (some ⟨L.gs, 0, none⟩) d.aQ.length d.aQ.length, .bool x.kept], HP.aE g2 92 [.int .u32 rs, .bool true], HP.many [HP.emp, HP.emp, HP.emp, HP.dM (nC d L.A) (nC.le (d := d) (A := L.A))]] g1 0 (.pointer (some ⟨L.f, 0, none⟩)) := Rd.ro (List.mem_singleton.2 rfl) c1 k1
  have r2 : Rd w [⟨w, fun b => b < w.heap.size ∧ ¬ F b⟩] [HP.aE L.gs 44 (iY x.saved), HP.aE L.gn 44 (iY x.now), HP.aE L.f 240 [.slice L.A d.aQ.length L.c, .slice (some ⟨L.gn, 0, none⟩) d.aQ.length d.aQ.length, .slice (some ⟨L.gs, 0, none⟩) d.aQ.length d.aQ.length, .bool x.kept], HP.aE g2 92 [.int .u32 rs, .bool true], HP.many [HP.emp, HP.emp, HP.emp, HP.dM (nC d L.A) (nC.le (d := d) (A := L.A))]] L.gn i (.int .u32 v) := Rd.aE 1 rfl (Ux hv)
  refine XK.draw 12 (by kernel_rfl) (by kernel_rfl) ?_
  refine XA.q 0 ?_
  refine XA.q 1 ?_
  refine XA.q 2 ?_
  refine XA.q 3 ?_
  refine XA.q 4 ?_
  refine XA.q 5 ?_
  refine XA.q 6 ?_
  refine XA.q 7 ?_
  refine XA.q 8 ?_
  refine XA.q 9 ?_
  refine XA.q 10 ?_ (eD := dat (sz := 1) i i)
  refine XA.q 11 ?_
  refine XA.next 12 rfl (by kernel_rfl) ?_
  refine kd (dat i i) ?_
  refine XA.bt ?_
  refine XA.next 13 rfl (by kernel_rfl) ?_
  refine gR rfl rfl ?_
  dsimp only [List.set]
  rw [Uw]
  refine XA.bt ?_
  refine XA.done (by kernel_rfl) ?_
  refine XK.go ?_
  refine XK.weak [0, 1, 2, 4] rfl (by decide) (fun _ h => h) ?_
  refine XK.Mi (x := ⟨x.now, x.saved.set i v, x.kept⟩) 0 rfl ?_
  exact XK.kI (.inr rfl) rfl fun w1 t => ⟨rfl, t.turns hF (by simp) (i := 0) rfl⟩
theorem aCE (L : FL) (d : bN) (x : cP) (hrl : d.aQ.length ≤ 100) (hok : yH d x) (w : World) (F : Nat → Prop) (hp : (dK L d x).sat F w) (hF : ∀ b, F b → b < w.heap.size) :
  Calls Tryz.prog 169 #[.pointer (some ⟨L.f, 0, none⟩)] w (fun y w' => y = .returned (.tuple #[]) ∧ ∃ F', (dK L d (pT d x)).sat F' w' ∧ bX w w' F F') := by
 have oL := hok.saved
 have iT := hok.now
 have hvl : (pT d x).saved.length = d.aQ.length := by simp [pT]; omega
 refine XK.dY (p := dK L d x) (F := F) (vs := [.pointer (some ⟨L.f, 0, none⟩)]) Tryz.func169 rfl Tryz.ntmps169 (by simp) hp hF ?_
 refine XK.go ?_
 refine bY rfl (by decide) fun g1 => ?_
 refine XK.go ?_
 refine iA (vf := []) (vc := [.pointer (some ⟨g1, 0, none⟩)]) rfl rfl (by decide) ?_
 refine XK.still [⟨w, fun b => b < w.heap.size ∧ ¬ F b⟩] [0] [1] (by simp) rfl (by decide) (by decide) fun q hq Ru _ => ?_
 obtain ⟨F1, s1, z1⟩ := hq 0 _ (by simp) rfl
 refine iL 0 (dK L d ⟨x.now, (pT d x).saved, x.kept⟩) (fun w1 G t hG qY hle => by
  have key := Vz q (fun i => dK L d ⟨x.now, fW (pT d x).saved x.saved i, x.kept⟩) L d hrl 227 (by kernel_rfl) [.pointer (some ⟨g1, 0, none⟩)]
   (fun i _ w F h1 h2 => ⟨_, dK.reads h1 h2⟩) (fun i r hr w2 Tv h1 h2 h3 => by
    have hlt := (List.getElem?_eq_some_iff.1 hr).1
    obtain ⟨v, hv⟩ := get_some (l := x.now) (i := i) (by omega)
    obtain ⟨u, hu⟩ := get_some (l := x.saved) (i := i) (by omega)
    have hs : (pT d x).saved[i]? = some (yT r (v, u)) := by
     rw [pT, List.getElem?_zipWith, hr, (List.getElem?_zip_eq_some (z := (v, u))).2 ⟨hv, hu⟩]
    have := aCo q L d ⟨x.now, fW (pT d x).saved x.saved i, x.kept⟩ g1 i r v u hr hv (aDH (by omega) (by omega) hu) (Eu hvl oL (by omega))
     ⟨z1 _ s1.1, by rw [s1.2.cell]; rfl⟩ w2 Tv h1 h2 h3
    try dsimp only at this
    rw [Et (by omega) hs] at this
    exact this) w1 G (by show (dK L d ⟨x.now, fW (pT d x).saved x.saved 0, x.kept⟩).sat G w1; rw [Es]; exact hG) qY (hle q (by simp))
  try dsimp only at key
  rw [Ew hvl oL] at key
  exact key) ?_
 dsimp only [List.set]
 refine XK.Ju 0 rfl ?_
 dsimp only [List.set, Ap]
 have r1 : ∀ H, Rd w [q, ⟨w, fun b => b < w.heap.size ∧ ¬ F b⟩] H g1 0 (.pointer (some ⟨L.f, 0, none⟩)) := fun H => Rd.ro (by simp : q ∈ _) (z1 _ s1.1) (by rw [s1.2.cell]; rfl)
 have r1 := r1 [HP.aE L.gs 44 (iY (pT d x).saved), HP.aE L.gn 44 (iY x.now), HP.aE L.f 240 [.slice L.A d.aQ.length L.c, .slice (some ⟨L.gn, 0, none⟩) d.aQ.length d.aQ.length, .slice (some ⟨L.gs, 0, none⟩) d.aQ.length d.aQ.length, .bool x.kept], HP.many [HP.emp, HP.emp, HP.emp, HP.dM (nC d L.A) (nC.le (d := d) (A := L.A))]]
 refine XK.go ?_
 refine XK.Mi (x := pT d x) 0 rfl ?_
 exact XK.kI (.inr rfl) rfl fun w1 t => ⟨rfl, t.turns hF (by simp) (i := 0) rfl⟩
end
section
set_option maxHeartbeats 4000000
set_option maxRecDepth 20000
def aBb (n : Nat) (xs : List Value) (v : Value) (hs : List HP) (_ : Piece) : Prop := ∃ A c, v = .slice A n c ∧ hs = [HP.own 118 6 (.slice A n c) n xs]
theorem aDq (A : Option Addr) (n c : Nat) (xs : List Value) (w : World) (hs : aI (all w) 6 A n xs) (h1 : ∀ u ∈ xs, u.oneCell' = true) (hn : n ≤ 1000000) :
  Calls Tryz.prog 143 #[.slice A n c] w (fun y w' => (∃ v hs q, y = .returned v ∧ q.w = w' ∧ aBb n xs v hs q ∧ jN w hs q) ∧ Below w.heap.size w w') := by
 refine XK.enter (vs := [.slice A n c]) Tryz.func143 rfl Tryz.ntmps143 (by simp) ?_
 refine XK.go ?_
 refine XK.kA 118 6 ?_
 refine fA 0 6 64 n (n' := n) (v := .slice none 0 0) (el := 118) (by kernel_rfl) (by kernel_rfl) (by decide) rfl rfl rfl (qQ (by simp) hs) h1 (by omega) (by omega) (by omega) (by decide) fun A' k' => ?_
 dsimp only [List.set, List.nil_append]
 refine XK.go ?_
 refine XK.still [] [] [0] (by simp) rfl (by decide) (by decide) fun q _ _ hfr => ?_
 exact XK.aK rfl rfl fun w1 st => ⟨⟨_, _, ⟨w1, q.Z⟩, rfl, rfl, ⟨_, _, rfl, rfl⟩, st.newR (by simp) (by simp) (hfr (by simp) (by simp))⟩, st.below (by simp)⟩
def aAZ (n : Nat) (xs : List Value) (v : Value) (hs : List HP) (_ : Piece) : Prop := ∃ A c, v = .slice A n c ∧ hs = [HP.own 75 3 (.slice A n c) n xs]
theorem aDo (A : Option Addr) (n c : Nat) (xs : List Value) (w : World) (hs : aI (all w) 3 A n xs) (h1 : ∀ u ∈ xs, u.oneCell' = true) (hn : n ≤ 1000000) :
  Calls Tryz.prog 144 #[.slice A n c] w (fun y w' => (∃ v hs q, y = .returned v ∧ q.w = w' ∧ aAZ n xs v hs q ∧ jN w hs q) ∧ Below w.heap.size w w') := by
 refine XK.enter (vs := [.slice A n c]) Tryz.func144 rfl Tryz.ntmps144 (by simp) ?_
 refine XK.go ?_
 refine XK.kA 75 3 ?_
 refine fA 0 3 24 n (n' := n) (v := .slice none 0 0) (el := 75) (by kernel_rfl) (by kernel_rfl) (by decide) rfl rfl rfl (qQ (by simp) hs) h1 (by omega) (by omega) (by omega) (by decide) fun A' k' => ?_
 dsimp only [List.set, List.nil_append]
 refine XK.go ?_
 refine XK.still [] [] [0] (by simp) rfl (by decide) (by decide) fun q _ _ hfr => ?_
 exact XK.aK rfl rfl fun w1 st => ⟨⟨_, _, ⟨w1, q.Z⟩, rfl, rfl, ⟨_, _, rfl, rfl⟩, st.newR (by simp) (by simp) (hfr (by simp) (by simp))⟩, st.below (by simp)⟩
def aAX (n : Nat) (xs : List Value) (v : Value) (hs : List HP) (_ : Piece) : Prop := ∃ A c, v = .slice A n c ∧ hs = [HP.own 120 1 (.slice A n c) n xs]
theorem aDm (A : Option Addr) (n c : Nat) (xs : List Value) (w : World) (hs : aI (all w) 1 A n xs) (h1 : ∀ u ∈ xs, u.oneCell' = true) (hn : n ≤ 1000000) :
  Calls Tryz.prog 145 #[.slice A n c] w (fun y w' => (∃ v hs q, y = .returned v ∧ q.w = w' ∧ aAX n xs v hs q ∧ jN w hs q) ∧ Below w.heap.size w w') := by
 refine XK.enter (vs := [.slice A n c]) Tryz.func145 rfl Tryz.ntmps145 (by simp) ?_
 refine XK.go ?_
 refine XK.kA 120 1 ?_
 refine fA 0 1 8 n (n' := n) (v := .slice none 0 0) (el := 120) (by kernel_rfl) (by kernel_rfl) (by decide) rfl rfl rfl (qQ (by simp) hs) h1 (by omega) (by omega) (by omega) (by decide) fun A' k' => ?_
 dsimp only [List.set, List.nil_append]
 refine XK.go ?_
 refine XK.still [] [] [0] (by simp) rfl (by decide) (by decide) fun q _ _ hfr => ?_
 exact XK.aK rfl rfl fun w1 st => ⟨⟨_, _, ⟨w1, q.Z⟩, rfl, rfl, ⟨_, _, rfl, rfl⟩, st.newR (by simp) (by simp) (hfr (by simp) (by simp))⟩, st.below (by simp)⟩
def aBa (n : Nat) (xs : List Value) (v : Value) (hs : List HP) (_ : Piece) : Prop := ∃ A c, v = .slice A n c ∧ hs = [HP.own 78 6 (.slice A n c) n xs]
theorem aDp (A : Option Addr) (n c : Nat) (xs : List Value) (w : World) (hs : aI (all w) 6 A n xs) (h1 : ∀ u ∈ xs, u.oneCell' = true) (hn : n ≤ 1000000) :
  Calls Tryz.prog 146 #[.slice A n c] w (fun y w' => (∃ v hs q, y = .returned v ∧ q.w = w' ∧ aBa n xs v hs q ∧ jN w hs q) ∧ Below w.heap.size w w') := by
 refine XK.enter (vs := [.slice A n c]) Tryz.func146 rfl Tryz.ntmps146 (by simp) ?_
 refine XK.go ?_
 refine XK.kA 78 6 ?_
 refine fA 0 6 80 n (n' := n) (v := .slice none 0 0) (el := 78) (by kernel_rfl) (by kernel_rfl) (by decide) rfl rfl rfl (qQ (by simp) hs) h1 (by omega) (by omega) (by omega) (by decide) fun A' k' => ?_
 dsimp only [List.set, List.nil_append]
 refine XK.go ?_
 refine XK.still [] [] [0] (by simp) rfl (by decide) (by decide) fun q _ _ hfr => ?_
 exact XK.aK rfl rfl fun w1 st => ⟨⟨_, _, ⟨w1, q.Z⟩, rfl, rfl, ⟨_, _, rfl, rfl⟩, st.newR (by simp) (by simp) (hfr (by simp) (by simp))⟩, st.below (by simp)⟩
def To (n : Nat) (xs : List Value) (v : Value) (hs : List HP) (_ : Piece) : Prop := ∃ A c, v = .slice A n c ∧ hs = [HP.own 3 1 (.slice A n c) n xs]
theorem Wl (A : Option Addr) (n c : Nat) (xs : List Value) (w : World) (hs : aI (all w) 1 A n xs) (h1 : ∀ u ∈ xs, u.oneCell' = true) (hn : n ≤ 1000000) :
  Calls Tryz.prog 147 #[.slice A n c] w (fun y w' => (∃ v hs q, y = .returned v ∧ q.w = w' ∧ To n xs v hs q ∧ jN w hs q) ∧ Below w.heap.size w w') := by
 refine XK.enter (vs := [.slice A n c]) Tryz.func147 rfl Tryz.ntmps147 (by simp) ?_
 refine XK.go ?_
 refine XK.kA 3 1 ?_
 refine fA 0 1 8 n (n' := n) (v := .slice none 0 0) (el := 3) (by kernel_rfl) (by kernel_rfl) (by decide) rfl rfl rfl (qQ (by simp) hs) h1 (by omega) (by omega) (by omega) (by decide) fun A' k' => ?_
 dsimp only [List.set, List.nil_append]
 refine XK.go ?_
 refine XK.still [] [] [0] (by simp) rfl (by decide) (by decide) fun q _ _ hfr => ?_
 exact XK.aK rfl rfl fun w1 st => ⟨⟨_, _, ⟨w1, q.Z⟩, rfl, rfl, ⟨_, _, rfl, rfl⟩, st.newR (by simp) (by simp) (hfr (by simp) (by simp))⟩, st.below (by simp)⟩
def aAY (n : Nat) (xs : List Value) (v : Value) (hs : List HP) (_ : Piece) : Prop := ∃ A c, v = .slice A n c ∧ hs = [HP.own 92 2 (.slice A n c) n xs]
theorem aDn (A : Option Addr) (n c : Nat) (xs : List Value) (w : World) (hs : aI (all w) 2 A n xs) (h1 : ∀ u ∈ xs, u.oneCell' = true) (hn : n ≤ 1000000) :
  Calls Tryz.prog 148 #[.slice A n c] w (fun y w' => (∃ v hs q, y = .returned v ∧ q.w = w' ∧ aAY n xs v hs q ∧ jN w hs q) ∧ Below w.heap.size w w') := by
 refine XK.enter (vs := [.slice A n c]) Tryz.func148 rfl Tryz.ntmps148 (by simp) ?_
 refine XK.go ?_
 refine XK.kA 92 2 ?_
 refine fA 0 2 8 n (n' := n) (v := .slice none 0 0) (el := 92) (by kernel_rfl) (by kernel_rfl) (by decide) rfl rfl rfl (qQ (by simp) hs) h1 (by omega) (by omega) (by omega) (by decide) fun A' k' => ?_
 dsimp only [List.set, List.nil_append]
 refine XK.go ?_
 refine XK.still [] [] [0] (by simp) rfl (by decide) (by decide) fun q _ _ hfr => ?_
 exact XK.aK rfl rfl fun w1 st => ⟨⟨_, _, ⟨w1, q.Z⟩, rfl, rfl, ⟨_, _, rfl, rfl⟩, st.newR (by simp) (by simp) (hfr (by simp) (by simp))⟩, st.below (by simp)⟩
end
section
structure yD (p : Piece) (s : aD) (A1 : Option Addr) (n1 : Nat) (A2 : Option Addr) (n2 : Nat) (A3 : Option Addr) (n3 : Nat) (A4 : Option Addr) (n4 : Nat) : Prop where
 gX : fG (dR p) (iO (dR p)) 118 6 A1 n1 s.aB
 dom : fG (dR p) sV 75 3 A2 n2 s.domains
 nZ : fG (dR p) sQ 120 1 A3 n3 s.aU
 dev : fG (dR p) (jF (dR p)) 78 6 A4 n4 s.aG
section
variable {p q : Piece} {w : World} {s : aD} {A1 A2 A3 A4 : Option Addr} {n1 n2 n3 n4 : Nat}
theorem yD.le (h : yD p s A1 n1 A2 n2 A3 n3 A4 n4) (hl : p.Le q) : yD q s A1 n1 A2 n2 A3 n3 A4 n4 :=
 ⟨h.gX.mono (fV hl) (fun _ _ => iO.mono (fV hl)), h.dom.mono (fV hl) (fun _ _ h => h), h.nZ.mono (fV hl) (fun _ _ h => h), h.dev.mono (fV hl) (fun _ _ => jF.mono (fV hl))⟩
theorem yD.W (h : yD p s A1 n1 A2 n2 A3 n3 A4 n4) (hl : p.Le (all w)) (hs : s.small) : eO w s A1 n1 A2 n2 A3 n3 A4 n4 := ⟨(h.le hl).gX, (h.le hl).dom, (h.le hl).nZ, (h.le hl).dev, hs⟩
theorem yD.len (h : yD p s A1 n1 A2 n2 A3 n3 A4 n4) : n1 = s.aB.length ∧ n2 = s.domains.length ∧ n3 = s.aU.length ∧ n4 = s.aG.length := by
 obtain ⟨⟨_, _, h1, _⟩, ⟨_, _, h2, _⟩, ⟨_, _, h3, _⟩, ⟨_, _, h4, _⟩⟩ := h
 exact ⟨h1, h2, h3, h4⟩
theorem mJ.Q {cs : Array Value} (h : mJ (dR p) s cs) : ∃ A1 n1 k1 A2 n2 k2 A3 n3 k3 A4 n4 k4, cs = #[.slice A1 n1 k1, .slice A2 n2 k2, .slice A3 n3 k3, .slice A4 n4 k4] ∧ yD p s A1 n1 A2 n2 A3 n3 A4 n4 := by
 obtain ⟨A1, n1, k1, A2, n2, k2, A3, n3, k3, A4, n4, k4, h0, h1, h2, h3, h4⟩ := h
 exact ⟨A1, n1, k1, A2, n2, k2, A3, n3, k3, A4, n4, k4, h0, h1, h2, h3, h4⟩
end
end
section
theorem XK.uF {N : cJ} {w0 : World} {e : Env} {R : List Piece} {H : List HP} {K : Act → World → Prop} {p : HP} (hp : ∀ w, p.sat (fun _ => False) w) (h : XK N w0 K e R (p :: H)) : XK N w0 K e R H := fun a w hr st =>
 h a w hr (st.new (w' := w) (Below.refl _ _) (by
  rw [show (fresh w w).Z = fun _ => False from by funext b; simp only [fresh, eq_iff_iff, iff_false]; omega]
  exact hp w))
abbrev AC := Option Addr × Nat
def sN (c : cZ) (a : AC) : List Value := [.int .u8 c.kind, .slice a.1 c.src.length a.2, .int .u64 c.rate, .int .i64 c.mul, .int .i64 c.div, .int .i64 c.lock]
def sJ (d : bN) (p : AC × AC) : List Value := [.int .i64 d.clock, .int .i64 d.domain, .int .i64 d.reset, .int .u32 d.eX, .slice p.1.1 d.aQ.length p.1.2, .slice p.2.1 d.iC.length p.2.2]
def Cy (s : aD) (fa : List AC) : List (List Value) := List.zipWith sN s.aB fa
def Cv (s : aD) (da : List (AC × AC)) : List (List Value) := List.zipWith sJ s.aG da
section
variable {α β : Type} {f : α → β → List Value} {sz : Nat}
theorem Il {es : List α} {bs : List β} (hl : bs.length = es.length) (hf : ∀ e a, (f e a).length = sz) : (List.zipWith f es bs).length = es.length ∧ ∀ r ∈ List.zipWith f es bs, r.length = sz := by
 refine ⟨by simp; omega, fun r hr => ?_⟩
 obtain ⟨j, hj⟩ := List.getElem?_of_mem hr
 rw [List.getElem?_zipWith] at hj
 split at hj <;> cases hj
 exact hf _ _
theorem Dp {es : List α} {bs : List β} {i : Nat} {e : α} {a : β} (he : es[i]? = some e) (ha : bs[i]? = some a) : (List.zipWith f es bs)[i]? = some (f e a) := by rw [List.getElem?_zipWith, he, ha]
theorem Ub {es : List α} {bs : List β} {i : Nat} {e : α} {a : β} (he : es[i]? = some e) (hi : i < bs.length) : (List.zipWith f es bs).set i (f e a) = List.zipWith f es (bs.set i a) := by
 refine List.ext_getElem? fun j => ?_
 rw [List.getElem?_set]
 by_cases hj : i = j
 ·subst hj
  have h1 := (List.getElem?_eq_some_iff.1 he).1
  rw [if_pos rfl, Dp he (List.getElem?_set_self hi), if_pos (by simp; omega)]
 ·rw [if_neg hj, List.getElem?_zipWith, List.getElem?_zipWith, List.getElem?_set_ne hj]
theorem Uc {es : List α} {bs : List β} (hf : ∀ e a, ∀ u ∈ f e a, u.oneCell' = true) : ∀ u ∈ (List.zipWith f es bs).flatten, u.oneCell' = true := fun u hu => by
 obtain ⟨r, hr, hu⟩ := List.mem_flatten.1 hu
 obtain ⟨j, hj⟩ := List.getElem?_of_mem hr
 rw [List.getElem?_zipWith] at hj
 split at hj <;> cases hj
 exact hf _ _ u hu
end
theorem aG6 (c : cZ) (a : AC) : ∀ u ∈ sN c a, u.oneCell' = true := by simp [sN, Value.oneCell']
theorem aGk (d : bN) (p : AC × AC) : ∀ u ∈ sJ d p, u.oneCell' = true := by simp [sJ, Value.oneCell']
theorem Sy {S : nV} : ∀ {cl : List cZ} {rs : List (List Value)}, Rows (iO S) 6 cl rs → ∃ fa : List AC, fa.length = cl.length ∧ rs = List.zipWith sN cl fa ∧ ∀ (i : Nat) (c : cZ) (a : AC), cl[i]? = some c → fa[i]? = some a → S 3 1 a.1 c.src.length (aR c.src)
 | [], [], _ => ⟨[], rfl, rfl, fun i c a h => by simp at h⟩
 | e :: es, r :: rs, h => by
  obtain ⟨_, ⟨A, n, k, hr, hn, hS⟩, h3⟩ := h
  obtain ⟨fa, h4, h5, h6⟩ := Sy h3
  subst hn
  refine ⟨(A, k) :: fa, by simp [h4], by rw [hr, h5]; rfl, fun i c a hc ha => ?_⟩
  cases i with
  | zero => simp at hc ha; subst hc; subst ha; exact hS
  | succ i => exact h6 i c a (by simpa using hc) (by simpa using ha)
theorem Vu {S : nV} : ∀ {cl : List cZ} {fa : List AC}, fa.length = cl.length → (∀ (i : Nat) (c : cZ) (a : AC), cl[i]? = some c → fa[i]? = some a → S 3 1 a.1 c.src.length (aR c.src)) → Rows (iO S) 6 cl (List.zipWith sN cl fa)
 | [], [], _, _ => trivial
 | c :: cl, a :: fa, hl, h => ⟨rfl, ⟨a.1, _, a.2, rfl, rfl, h 0 c a rfl rfl⟩, Vu (by simpa using hl) fun i c' a' hc ha => h (i + 1) c' a' (by simpa using hc) (by simpa using ha)⟩
theorem Sr {S : nV} : ∀ {cl : List bN} {rs : List (List Value)}, Rows (jF S) 6 cl rs → ∃ da : List (AC × AC), da.length = cl.length ∧ rs = List.zipWith sJ cl da ∧ ∀ (i : Nat) (d : bN) (p : AC × AC), cl[i]? = some d → da[i]? = some p → S 92 2 p.1.1 d.aQ.length (d.aQ.flatMap Rg.cells) ∧ S 3 1 p.2.1 d.iC.length (aR d.iC)
 | [], [], _ => ⟨[], rfl, rfl, fun i c a h => by simp at h⟩
 | e :: es, r :: rs, h => by
  obtain ⟨_, ⟨A, n, k, A', n', k', hr, hn, hn', hS, hS'⟩, h3⟩ := h
  obtain ⟨da, h4, h5, h6⟩ := Sr h3
  subst hn; subst hn'
  refine ⟨((A, k), (A', k')) :: da, by simp [h4], by rw [hr, h5]; rfl, fun i d p hc ha => ?_⟩
  cases i with
  | zero => simp at hc ha; subst hc; subst ha; exact ⟨hS, hS'⟩
  | succ i => exact h6 i d p (by simpa using hc) (by simpa using ha)
theorem Vt {S : nV} : ∀ {cl : List bN} {da : List (AC × AC)}, da.length = cl.length → (∀ (i : Nat) (d : bN) (p : AC × AC), cl[i]? = some d → da[i]? = some p → S 92 2 p.1.1 d.aQ.length (d.aQ.flatMap Rg.cells) ∧ S 3 1 p.2.1 d.iC.length (aR d.iC)) → Rows (jF S) 6 cl (List.zipWith sJ cl da)
 | [], [], _, _ => trivial
 | c :: cl, a :: da, hl, h => ⟨rfl, ⟨a.1.1, _, a.1.2, a.2.1, _, a.2.2, rfl, rfl, rfl, (h 0 c a rfl rfl).1, (h 0 c a rfl rfl).2⟩, Vt (by simpa using hl) fun i c' a' hc ha => h (i + 1) c' a' (by simpa using hc) (by simpa using ha)⟩
theorem aFZ {es : List Dom} {rs : List (List Value)} (h : Rows sV 3 es rs) : ∀ u ∈ rs.flatten, u.oneCell' = true := fun u hu => by
 obtain ⟨r, hr, hu⟩ := List.mem_flatten.1 hu
 obtain ⟨j, hj⟩ := List.getElem?_of_mem hr
 obtain ⟨e, _, _, hR⟩ := h.at_ hj
 unfold sV at hR
 subst hR
 simp only [List.mem_cons, List.not_mem_nil, or_false] at hu
 rcases hu with rfl | rfl | rfl <;> rfl
theorem aC3 {es : List Int} {rs : List (List Value)} (h : Rows sQ 1 es rs) : ∀ u ∈ rs.flatten, u.oneCell' = true := fun u hu => by
 obtain ⟨r, hr, hu⟩ := List.mem_flatten.1 hu
 obtain ⟨j, hj⟩ := List.getElem?_of_mem hr
 obtain ⟨e, _, _, hR⟩ := h.at_ hj
 unfold sQ at hR
 subst hR
 simp only [List.mem_cons, List.not_mem_nil, or_false] at hu
 subst hu
 rfl
def rP (s : aD) (fa : List AC) (i : Nat) (p : Piece) : Prop := ∀ (j : Nat) (c : cZ) (a : AC), j < i → s.aB[j]? = some c → fa[j]? = some a → aI p 1 a.1 c.src.length (aR c.src)
theorem rP.le {s : aD} {fa : List AC} {i : Nat} (p q : Piece) (hl : p.Le q) (h : rP s fa i p) : rP s fa i q := fun j c a hj hc ha => (h j c a hj hc ha).le hl
def uJ (s : aD) (da : List (AC × AC)) (i : Nat) (p : Piece) : Prop := ∀ (j : Nat) (d : bN) (a : AC × AC), j < i → s.aG[j]? = some d → da[j]? = some a → aI p 2 a.1.1 d.aQ.length (d.aQ.flatMap Rg.cells) ∧ aI p 1 a.2.1 d.iC.length (aR d.iC)
theorem uJ.le {s : aD} {da : List (AC × AC)} {i : Nat} (p q : Piece) (hl : p.Le q) (h : uJ s da i p) : uJ s da i q := fun j c a hj hc ha => ⟨(h j c a hj hc ha).1.le hl, (h j c a hj hc ha).2.le hl⟩
end
section
section
variable {P : Program} {ops : Array Oper} {Q : Exit → Act → World → Prop} {S : World → Prop} {Z : List Nat}
def yM (ops : Array Oper) (Z : List Nat) (j : Nat) : Bool := match ops[j]? with
 | some o => Z.all fun z => (Hh ops ops.size (Jq o)).testBit z
 | none => true
def Jz (ops : Array Oper) (j : Nat) : Bool := match ops[j]? with
 | some o => (match o.op with
  | .move _ => true
  | _ => false)
 | none => false
def wY (P : Program) (ops : Array Oper) (Q : Exit → Act → World → Prop) (S : World → Prop) (Z : List Nat) : Nat → Array Bool → Act → World → Prop
 | 0, listed, a, w => Region.ready .any ops listed = [] ∧ Q .normal a w
 | fuel + 1, listed, a, w => (Region.ready .any ops listed = [] → Q .normal a w) ∧
  ∀ i ∈ Region.ready .any ops listed, wpOp P ops Q i (fun a' w' => (yM ops Z i = false → (S w ∨ Jz ops i = false) → S w') ∧ wY P ops Q S Z fuel (listed.setIfInBounds i true) a' w') a w
theorem Uq : ∀ (fuel : Nat) (listed : Array Bool) (a : Act) (w : World), wY P ops Q S Z fuel listed a w → wpAny P .any ops Q fuel listed a w
 | 0, _, _, _, h => h
 | fuel + 1, _, _, _, h => ⟨h.1, fun i hi => wpOp_mono (fun a' w' h' => Uq fuel _ a' w' h'.2) (h.2 i hi)⟩
theorem aBH {i : Nat} {oi : Oper} {v : Value} (hi : ops[i]? = some oi) (hsel : ∀ (j : Nat) (o : Oper) cs b, ops[j]? = some o → o.op ≠ .select cs b)
  (hQ : ∀ c a w, Q (.panic c) (a.put oi.dst v) w → Q (.panic c) a w) (tM : i ∈ Z) :
  ∀ (fuel : Nat) (listed : Array Bool) (a : Act) (w : World), Down ops listed →
   (∀ j oj, ops[j]? = some oj → j ≠ i → listed.getD j true = false → (∀ e ∈ oj.after, Region.binds .any e = true → e.on ≠ i) → oi.apart ops oj = true) →
   i ∈ Region.ready .any ops listed → YieldsIf P ops S oi v a → S w →
   wY P ops Q S Z fuel (listed.setIfInBounds i true) (a.put oi.dst v) w → wY P ops Q S Z (fuel + 1) listed a w := by
 intro fuel
 induction fuel with
 | zero =>
  intro listed a w hdn _ hr hy hS H
  refine ⟨fun h => (by rw [h] at hr; cases hr), fun j hj => ?_⟩
  by_cases hji : j = i
  ·subst hji; exact hy.wpOp hi hS ⟨fun _ _ => hS, H⟩
  ·have := ready_mono hj hji
   rw [H.1] at this
   cases this
 | succ fuel ih =>
  intro listed a w hdn hfree hr hy hS H
  refine ⟨fun h => (by rw [h] at hr; cases hr), fun j hj => ?_⟩
  by_cases hji : j = i
  ·subst hji; exact hy.wpOp hi hS ⟨fun _ _ => hS, H⟩
  ·have h1 := H.2 j (ready_mono hj hji)
   obtain ⟨xN, oj, oO, hall⟩ := mem_ready.1 hj
   have hun : ∀ k, k ∈ Region.ready .any ops listed → listed.getD k false = true → False := fun k hk h => by
    have h0 := (mem_ready.1 hk).1
    rcases Nat.lt_or_ge k listed.size with h' | h'
    ·simp [h'] at h0 h; rw [h0] at h; cases h
    ·simp [Array.getElem?_eq_none h'] at h
   have Qw : yM ops Z j = false := by
    cases hw : yM ops Z j with
    | false => rfl
    | true =>
     exfalso
     unfold yM at hw
     rw [oO] at hw
     exact hun i hr (Sw hdn ops.size _ (Ol (P := fun k => listed.getD k false = true) fun x hx hb => hall x hx hb) i (List.all_eq_true.1 hw i tM))
   have hnot : ∀ e ∈ oj.after, Region.binds .any e = true → e.on ≠ i := fun e he hb heq => hun i hr (heq ▸ hall e he hb)
   have h2 := wpOp_putIf oO (hfree j oj oO hji xN hnot) (fun cs b => hsel i oi cs b hi) (fun cs b => hsel j oj cs b oO) hQ hy h1
   have Gd : ∀ k ok, ops[k]? = some ok → k ≠ i → (listed.setIfInBounds j true).getD k true = false →
     (∀ e ∈ ok.after, Region.binds .any e = true → e.on ≠ i) → oi.apart ops ok = true := fun k ok hk hki hun hno => by
    refine hfree k ok hk hki ?_ hno
    by_cases iU : j = k
    ·subst iU; exact xN
    ·rw [getD_set_ne true iU] at hun; exact hun
   refine wpOp_mono (fun a' w' h3 => ⟨h3.2.1, ih (listed.setIfInBounds j true) a' w' (hdn.gI hj) Gd (ready_mono hr (Ne.symm hji)) h3.1 (h3.2.1 Qw (.inl hS)) ?_⟩) h2
   rw [Array.setIfInBounds_comm _ _ hji]
   exact h3.2.2
theorem aBG {i : Nat} {oi : Oper} {v : Value} (hi : ops[i]? = some oi) (tM : Jz ops i = true) (hsel : ∀ (j : Nat) (o : Oper) cs b, ops[j]? = some o → o.op ≠ .select cs b)
  (hQ : ∀ c a w, Q (.panic c) (a.put oi.dst v) w → Q (.panic c) a w) :
  ∀ (fuel : Nat) (listed : Array Bool) (a : Act) (w : World), Down ops listed →
   (∀ j oj, ops[j]? = some oj → j ≠ i → listed.getD j true = false → (∀ e ∈ oj.after, Region.binds .any e = true → e.on ≠ i) → oi.apart ops oj = true) →
   i ∈ Region.ready .any ops listed → YieldsIf P ops (fun _ => True) oi v a →
   wY P ops Q S Z fuel (listed.setIfInBounds i true) (a.put oi.dst v) w → wY P ops Q S Z (fuel + 1) listed a w := by
 intro fuel
 induction fuel with
 | zero =>
  intro listed a w hdn _ hr hy H
  refine ⟨fun h => (by rw [h] at hr; cases hr), fun j hj => ?_⟩
  by_cases hji : j = i
  ·subst hji; exact hy.wpOp hi trivial ⟨fun _ hw => hw.resolve_right (by rw [tM]; decide), H⟩
  ·have := ready_mono hj hji
   rw [H.1] at this
   cases this
 | succ fuel ih =>
  intro listed a w hdn hfree hr hy H
  refine ⟨fun h => (by rw [h] at hr; cases hr), fun j hj => ?_⟩
  by_cases hji : j = i
  ·subst hji; exact hy.wpOp hi trivial ⟨fun _ hw => hw.resolve_right (by rw [tM]; decide), H⟩
  ·have h1 := H.2 j (ready_mono hj hji)
   obtain ⟨xN, oj, oO, hall⟩ := mem_ready.1 hj
   have hun : ∀ k, k ∈ Region.ready .any ops listed → listed.getD k false = true → False := fun k hk h => by
    have h0 := (mem_ready.1 hk).1
    rcases Nat.lt_or_ge k listed.size with h' | h'
    ·simp [h'] at h0 h; rw [h0] at h; cases h
    ·simp [Array.getElem?_eq_none h'] at h
   have hnot : ∀ e ∈ oj.after, Region.binds .any e = true → e.on ≠ i := fun e he hb heq => hun i hr (heq ▸ hall e he hb)
   have h2 := wpOp_putIf oO (hfree j oj oO hji xN hnot) (fun cs b => hsel i oi cs b hi) (fun cs b => hsel j oj cs b oO) hQ hy h1
   have Gd : ∀ k ok, ops[k]? = some ok → k ≠ i → (listed.setIfInBounds j true).getD k true = false →
     (∀ e ∈ ok.after, Region.binds .any e = true → e.on ≠ i) → oi.apart ops ok = true := fun k ok hk hki hun hno => by
    refine hfree k ok hk hki ?_ hno
    by_cases iU : j = k
    ·subst iU; exact xN
    ·rw [getD_set_ne true iU] at hun; exact hun
   refine wpOp_mono (fun a' w' h3 => ⟨h3.2.1, ih (listed.setIfInBounds j true) a' w' (hdn.gI hj) Gd (ready_mono hr (Ne.symm hji)) h3.1 ?_⟩) h2
   rw [Array.setIfInBounds_comm _ _ hji]
   exact h3.2.2
end
section
variable {P : Program} {N : cJ} {w0 : World} {e e' : Env} {R R' R0 : List Piece} {H H' H0 : List HP} {Q : Exit → Act → World → Prop} {ops : Array Oper} {Z : List Nat} {fuel : Nat} {listed : Array Bool}
structure Hz (ops : Array Oper) (listed : Array Bool) : Prop where
 down : Down ops listed
 xC : Region.noSelect ops = true
theorem Hz.gI {i : Nat} (h : Hz ops listed) (hi : i ∈ Region.ready .any ops listed) : Hz ops (listed.setIfInBounds i true) := ⟨h.down.gI hi, h.xC⟩
def XB (P : Program) (N : cJ) (w0 : World) (ops : Array Oper) (Q : Exit → Act → World → Prop) (R0 : List Piece) (H0 : List HP) (Z : List Nat) (fuel : Nat) (listed : Array Bool) (e : Env) (R : List Piece) (H : List HP) : Prop :=
 Hz ops listed → XK N w0 (wY P ops Q (St w0 R0 H0) Z fuel listed) e R H
def Ba (P : Program) (w0 : World) (ops : Array Oper) (Q : Exit → Act → World → Prop) (R0 : List Piece) (H0 : List HP) (Z : List Nat) (fuel : Nat) (listed : Array Bool) (i : Nat) : Act → World → Prop :=
 fun a' w' => (yM ops Z i = false → St w0 R0 H0 w') ∧ (Hz ops (listed.setIfInBounds i true) → wY P ops Q (St w0 R0 H0) Z fuel (listed.setIfInBounds i true) a' w')
theorem XK.eJ (Z : List Nat) {id : Nat} {l : List Oper} (h : XB P N w0 l.toArray Q R H Z l.length (Array.replicate l.length false) e R H) (hm : P.follows .mixedOrders = true := by kernel_rfl) (hc : Region.noSelect l.toArray = true := by kernel_rfl) : XK N w0 ((Code.region id l.toArray true).wp P Q) e R H := fun a w hr st => by
 have := h ⟨Down.start _ _, hc⟩ a w.drew hr st.drew
 refine wp_region_any hm (Uq (S := St w0 R H) (Z := Z) _ _ _ _ ?_)
 simpa using this
theorem XB.dZ (i : Nat) {oi : Oper} {v : Value} {d : Nat} (hi : ops[i]? = some oi) (tP : oi.dst = some d) (hg : oi.guard = none) (hd : d < N.n) (eD : bL P N w0 e R0 H0 oi v)
  (hc : (Region.free .any ops listed i && (Region.ready .any ops listed).contains i && Z.contains i) = true) (hQ : ∀ c a w, Q (.panic c) (a.put oi.dst v) w → Q (.panic c) a w)
  (hsub : ∀ w, St w0 R H w → St w0 R0 H0 w)
  (k : XB P N w0 ops Q R0 H0 Z fuel (listed.setIfInBounds i true) ((d, v) :: e) R H) : XB P N w0 ops Q R0 H0 Z (fuel + 1) listed e R H := by
 simp only [Bool.and_eq_true] at hc
 obtain ⟨⟨h2, h3⟩, h5⟩ := hc
 intro up a w hr st
 have hp := k (up.gI (by simpa using h3)) (a.put oi.dst v) w (by rw [tP]; exact hr.put hd v) st
 refine aBH hi (Region.noSelect_spec up.xC) hQ (by simpa using h5) fuel listed a w up.down (Region.free_spec hi h2) (by simpa using h3) (.inl ⟨by simp [Region.wanted, hg], fun w' hw' => ?_⟩) (hsub w st) hp
 exact eD a w' hr hw'
theorem XB.pure (i : Nat) (hmv : Jz ops i = true) {oi : Oper} {v : Value} {d : Nat} (hi : ops[i]? = some oi) (tP : oi.dst = some d) (hg : oi.guard = none) (hd : d < N.n) (eD : ∀ a w, cW N e a → (execOp a.eval oi).run P w = .ok (.value v) w)
  (hc : (Region.free .any ops listed i && (Region.ready .any ops listed).contains i) = true) (hQ : ∀ c a w, Q (.panic c) (a.put oi.dst v) w → Q (.panic c) a w)
  (k : XB P N w0 ops Q R0 H0 Z fuel (listed.setIfInBounds i true) ((d, v) :: e) R H) : XB P N w0 ops Q R0 H0 Z (fuel + 1) listed e R H := by
 simp only [Bool.and_eq_true] at hc
 obtain ⟨h2, h3⟩ := hc
 intro up a w hr st
 have hp := k (up.gI (by simpa using h3)) (a.put oi.dst v) w (by rw [tP]; exact hr.put hd v) st
 refine aBG hi hmv (Region.noSelect_spec up.xC) hQ fuel listed a w up.down (Region.free_spec hi h2) (by simpa using h3) (.inl ⟨by simp [Region.wanted, hg], fun w' _ => ?_⟩) hp
 exact eD a w' hr
theorem XB.next (i : Nat) {oi : Oper} (hi : ops[i]? = some oi) (hr : Region.ready .any ops listed = [i]) (k : XK N w0 (wpList P ops (Exit.then (Ba P w0 ops Q R0 H0 Z fuel listed i) Q) [oi]) e R H) : XB P N w0 ops Q R0 H0 Z (fuel + 1) listed e R H := by
 intro up a w bM st
 refine ⟨fun h => (by rw [hr] at h; cases h), fun j hj => ?_⟩
 rw [hr] at hj
 simp at hj
 subst hj
 exact uL hi (fun a w h => ⟨fun hw _ => h.1 hw, h.2 (up.gI (by rw [hr]; simp))⟩) (k a w bM st)
theorem XB.either (i j : Nat) {oi oj : Oper} (hi : ops[i]? = some oi) (hj : ops[j]? = some oj) (hr : Region.ready .any ops listed = [i, j])
  (k1 : XK N w0 (wpList P ops (Exit.then (Ba P w0 ops Q R0 H0 Z fuel listed i) Q) [oi]) e R H) (k2 : XK N w0 (wpList P ops (Exit.then (Ba P w0 ops Q R0 H0 Z fuel listed j) Q) [oj]) e R H) : XB P N w0 ops Q R0 H0 Z (fuel + 1) listed e R H := by
 intro up a w bM st
 refine ⟨fun h => (by rw [hr] at h; cases h), fun q hq => ?_⟩
 have lM := hq
 rw [hr] at hq
 simp at hq
 rcases hq with rfl | rfl
 ·exact uL hi (fun a w h => ⟨fun hw _ => h.1 hw, h.2 (up.gI lM)⟩) (k1 a w bM st)
 ·exact uL hj (fun a w h => ⟨fun hw _ => h.1 hw, h.2 (up.gI lM)⟩) (k2 a w bM st)
theorem XB.back {i : Nat} (hS : ∀ w, St w0 R H w → St w0 R0 H0 w) (h : XB P N w0 ops Q R0 H0 Z fuel (listed.setIfInBounds i true) e R H) : XK N w0 (Ba P w0 ops Q R0 H0 Z fuel listed i) e R H := fun a w hr st => ⟨fun _ => hS w st, fun up => h up a w hr st⟩
theorem XB.done (hr : Region.ready .any ops listed = []) (h : XK N w0 (Q .normal) e R H) : XB P N w0 ops Q R0 H0 Z fuel listed e R H := by
 intro up a w bM st
 cases fuel with
 | zero => exact ⟨hr, h a w bM st⟩
 | succ fuel => exact ⟨fun _ => h a w bM st, by rw [hr]; simp⟩
theorem XB.Tf {i : Nat} (h : XB P N w0 ops Q R0 H0 Z fuel (listed.setIfInBounds i true) e R H) (hl : yM ops Z i = true := by kernel_rfl) : XK N w0 (Ba P w0 ops Q R0 H0 Z fuel listed i) e R H := fun a w hr st => ⟨(fun h2 => by rw [hl] at h2; cases h2), fun up => h up a w hr st⟩
theorem XB.bt {i : Nat} (h : XB P N w0 ops Q R0 H0 Z fuel (listed.setIfInBounds i true) e R H) (hl : yM ops Z i = true := by kernel_rfl) : XK N w0 (wpList P ops (Exit.then (Ba P w0 ops Q R0 H0 Z fuel listed i) Q) []) e R H := XK.nil (XK.iJ (XB.Tf h hl))
theorem XB.bk {i : Nat} (h : XB P N w0 ops Q R0 H0 Z fuel (listed.setIfInBounds i true) e R H) (hS : ∀ w, St w0 R H w → St w0 R0 H0 w := by first | exact fun _ h => h | exact fun _ h => h.tail | exact fun _ h => h.aP | exact fun _ h => h.tail.tail | exact fun _ h => h.aP.tail | exact fun _ h => h.aP.aP | exact fun _ h => h.aP.tail.tail | exact fun _ h => h.tail.tail.tail | exact fun _ h => h.aP.tail.aP.tail) : XK N w0 (wpList P ops (Exit.then (Ba P w0 ops Q R0 H0 Z fuel listed i) Q) []) e R H := XK.nil (XK.iJ (XB.back hS h))
end
section
variable {N : cJ} {w0 : World} {e : Env} {R R0 : List Piece} {H H0 : List HP} {Q : Exit → Act → World → Prop} {ops : Array Oper} {Z : List Nat} {fuel : Nat} {listed : Array Bool}
variable {d : Nat} {ty : TypeId} {pos : String} {aJ : Array Edge} {op : Op} {v : Value}
theorem XB.q (i : Nat) (k : XB Tryz.prog N w0 ops Q R0 H0 Z fuel (listed.setIfInBounds i true) ((d, v) :: e) R H) (hi : ops[i]? = some ⟨some d, op, ty, pos, aJ, none⟩ := by rfl) (eD : bL Tryz.prog N w0 e R0 H0 ⟨some d, op, ty, pos, aJ, none⟩ v := by
  first
  | ((with_reducible apply Iz); exact cE rfl)
  | ((with_reducible apply Jg); exact xY rfl)
  | ((with_reducible apply Ja); (first | exact dS rfl | exact sI rfl | exact Mc rfl))
  | ((with_reducible apply Jc); exact Mf rfl)
  | ((with_reducible apply Iy); exact Ly rfl)
  | ((with_reducible apply Iw); (first | exact xW rfl rfl | exact xX rfl rfl))
  | ((with_reducible apply Jf); (first | exact Lz rfl rfl | exact Mb rfl rfl | exact Md rfl rfl | exact Me rfl rfl | exact Au rfl rfl | exact Cs rfl rfl | exact lS rfl rfl (aY (by omega)) | exact Gy rfl rfl (aY (by omega)) | exact Lv rfl | exact Lu rfl | exact He rfl))
  | ((with_reducible apply Iv); (first | exact Lw rfl | exact Lx rfl))
  | ((with_reducible apply Jb); exact Ma rfl)
  | ((with_reducible apply Je); exact vB rfl rfl)
  | ((with_reducible apply Jd); exact Mg rfl rfl)) (hd : d < N.n := by decide)
  (hc : (Region.free .any ops listed i && (Region.ready .any ops listed).contains i && Z.contains i) = true := by kernel_rfl) (hQ : ∀ c a w, Q (.panic c) (a.put (some d) v) w → Q (.panic c) a w := by exact fun _ _ _ h => h)
  (hsub : ∀ w, St w0 R H w → St w0 R0 H0 w := by first | exact fun _ h => h | exact fun _ h => h.tail | exact fun _ h => h.aP | exact fun _ h => h.tail.tail | exact fun _ h => h.aP.tail | exact fun _ h => h.aP.aP) : XB Tryz.prog N w0 ops Q R0 H0 Z (fuel + 1) listed e R H := XB.dZ i hi rfl rfl hd eD hc hQ hsub k
theorem XB.mv (i : Nat) {y : Operand} (k : XB Tryz.prog N w0 ops Q R0 H0 Z fuel (listed.setIfInBounds i true) ((d, v) :: e) R H) (hi : ops[i]? = some ⟨some d, .move y, ty, pos, aJ, none⟩ := by rfl) (hx : e.ev y = some v := by rfl) (hd : d < N.n := by decide)
  (hc : (Region.free .any ops listed i && (Region.ready .any ops listed).contains i) = true := by kernel_rfl) (hQ : ∀ c a w, Q (.panic c) (a.put (some d) v) w → Q (.panic c) a w := by exact fun _ _ _ h => h)
  (hsub : ∀ w, St w0 R H w → St w0 R0 H0 w := by first | exact fun _ h => h | exact fun _ h => h.tail | exact fun _ h => h.aP | exact fun _ h => h.tail.tail | exact fun _ h => h.aP.tail | exact fun _ h => h.aP.aP | exact fun _ h => h.aP.tail.tail | exact fun _ h => h.tail.tail.tail | exact fun _ h => h.aP.tail.aP.tail) : XB Tryz.prog N w0 ops Q R0 H0 Z (fuel + 1) listed e R H := XB.pure i (by simp [Jz, hi]) hi rfl rfl hd (fun a w hr => by simp [execOp, hr.ev hx]) hc hQ k
end
end
section
set_option maxHeartbeats 4000000
set_option maxRecDepth 20000
theorem Bp {l : List Rg} : ∀ u ∈ l.flatMap Rg.cells, u.oneCell' = true := fun u hu => by
 obtain ⟨r, _, hu⟩ := List.mem_flatMap.1 hu
 simp only [Rg.cells, List.mem_cons, List.not_mem_nil, or_false] at hu
 rcases hu with rfl | rfl <;> rfl
def Tw (s : aD) (v : Value) (w w' : World) : Prop := ∃ cs, v = .agg cs ∧ mJ (dR (fresh w w')) s cs
theorem aA8 (s : aD) (A1 A2 A3 A4 : Option Addr) (n1 k1 n2 k2 n3 k3 n4 k4 : Nat) (w : World) (hW : eO w s A1 n1 A2 n2 A3 n3 A4 n4) (Fp : ∀ d ∈ s.aG, d.aQ.length ≤ 1000000) :
  Calls Tryz.prog 67 #[.agg #[.slice A1 n1 k1, .slice A2 n2 k2, .slice A3 n3 k3, .slice A4 n4 k4]] w (fun y w' => (∃ v, y = .returned v ∧ Tw s v w w') ∧ Below w.heap.size w w') := by
 obtain ⟨rc, hrc, oP, hsc⟩ := hW.gX
 obtain ⟨rd, hrd, hn2, Qe⟩ := hW.dom
 obtain ⟨rr, cM, qD, hst⟩ := hW.nZ
 obtain ⟨rv, Qg, qC, zD⟩ := hW.dev
 obtain ⟨xV, aEC, rfl, aED⟩ := Sy hrc
 obtain ⟨wN, aEF, rfl, aEG⟩ := Sr Qg
 obtain ⟨sm1, sm2, sm3, sm4, sm5, sm6⟩ := hW.small
 subst oP; subst hn2; subst qD; subst qC
 have ho1 := Uc (es := s.aB) (bs := xV) aG6
 have ho4 := Uc (es := s.aG) (bs := wN) aGk
 refine XK.enter (vs := [.agg #[.slice A1 s.aB.length k1, .slice A2 s.domains.length k2, .slice A3 s.aU.length k3, .slice A4 s.aG.length k4]]) Tryz.func67 rfl Tryz.ntmps67 (by simp) ?_
 refine XK.seq ?_
 refine XK.region ?_
 refine bY rfl (by decide) fun g1 => ?_
 refine cD (cs := [.slice none 0 0, .slice none 0 0, .slice none 0 0, .slice none 0 0]) (aM (by kernel_rfl)) (by decide) fun g2 => ?_
 refine XK.aA ?_
 refine XK.cut (fun e R H => ∃ C j1 D j2 E j3 V j4 g3, e = [(3, .pointer (some ⟨g3, 0, none⟩)), (2, .pointer (some ⟨g2, 0, none⟩))] ∧ R = [all w] ∧ H = [HP.own 118 6 (.slice C s.aB.length j1) s.aB.length (Cy s xV).flatten, HP.own 78 6 (.slice V s.aG.length j4) s.aG.length (Cv s wN).flatten, HP.own 75 3 (.slice D s.domains.length j2) s.domains.length rd.flatten, HP.own 120 1 (.slice E s.aU.length j3) s.aU.length rr.flatten, HP.aE g3 29 [.slice C s.aB.length j1, .slice D s.domains.length j2, .slice E s.aU.length j3, .slice V s.aG.length j4], HP.aE g2 29 [.slice none 0 0, .slice none 0 0, .slice none 0 0, .slice none 0 0]]) ?_ ?_
 ·refine XK.draw 14 (by kernel_rfl) (by kernel_rfl) ?_
  refine XA.q 0 ?_
  refine XA.q 1 ?_
  refine XA.q 3 ?_
  refine XA.q 4 ?_
  refine XA.q 6 ?_
  refine XA.q 7 ?_
  refine XA.q 9 ?_
  refine XA.q 10 ?_
  refine XA.aDR (j := 13) 3 29 [.slice none 0 0, .slice none 0 0, .slice none 0 0, .slice none 0 0] fun M => ?_
  refine XA.maybe 2 13 rfl rfl (aM (by kernel_rfl)) (by decide) (by kernel_rfl) (by kernel_rfl) (fun _ h => h) (fun M => ?_)
  refine dU (f := 143) (fi := []) (ca := []) (by kernel_rfl) (Gx M rfl rfl) (Gw M rfl rfl) (by decide) (aBb s.aB.length (Cy s xV).flatten) (fun w1 st => aDq A1 _ k1 _ w1 (hsc.le (st.le (by simp))) ho1 sm1) ?_
  rintro _ _ q1 ⟨C, j1, rfl, rfl⟩ _
  dsimp only [List.cons_append, List.nil_append]
  refine XK.It ?_
  refine XK.nil ?_; refine XK.iJ ?_; refine XA.Mo (by decide) rfl (fun _ h => h.aP.tail) ?_
  refine XA.maybe 5 13 rfl rfl (aM (by kernel_rfl)) (by decide) (by kernel_rfl) (by kernel_rfl) (fun _ h => h.aP.tail) (fun M => ?_)
  refine dU (f := 144) (fi := []) (ca := []) (by kernel_rfl) (Gx M rfl rfl) (Gw M rfl rfl) (by decide) (aAZ s.domains.length rd.flatten) (fun w1 st => aDo A2 _ k2 _ w1 (Qe.le (st.le (by simp))) (aFZ hrd) sm2) ?_
  rintro _ _ q2 ⟨D, j2, rfl, rfl⟩ _
  dsimp only [List.cons_append, List.nil_append]
  refine XK.It ?_
  refine XK.nil ?_; refine XK.iJ ?_; refine XA.Mo (by decide) rfl (fun _ h => h.aP.tail.aP.tail) ?_
  refine XA.maybe 8 13 rfl rfl (aM (by kernel_rfl)) (by decide) (by kernel_rfl) (by kernel_rfl) (fun _ h => h.aP.tail.aP.tail) (fun M => ?_)
  refine dU (f := 145) (fi := []) (ca := []) (by kernel_rfl) (Gx M rfl rfl) (Gw M rfl rfl) (by decide) (aAX s.aU.length rr.flatten) (fun w1 st => aDm A3 _ k3 _ w1 (hst.le (st.le (by simp))) (aC3 cM) sm3) ?_
  rintro _ _ q3 ⟨E, j3, rfl, rfl⟩ _
  dsimp only [List.cons_append, List.nil_append]
  refine XK.It ?_
  refine XK.nil ?_; refine XK.iJ ?_; refine XA.Mo (by decide) rfl (fun _ h => h.aP.tail.aP.tail.aP.tail) ?_
  refine XA.maybe 11 13 rfl rfl (aM (by kernel_rfl)) (by decide) (by kernel_rfl) (by kernel_rfl) (fun _ h => h.aP.tail.aP.tail.aP.tail) (fun M => ?_)
  refine dU (f := 146) (fi := []) (ca := []) (by kernel_rfl) (Gx M rfl rfl) (Gw M rfl rfl) (by decide) (aBa s.aG.length (Cv s wN).flatten) (fun w1 st => aDp A4 _ k4 _ w1 (zD.le (st.le (by simp))) ho4 sm4) ?_
  rintro _ _ q4 ⟨V, j4, rfl, rfl⟩ _
  dsimp only [List.cons_append, List.nil_append]
  refine XK.It ?_
  refine XK.nil ?_; refine XK.iJ ?_; refine XA.Mo (by decide) rfl (fun _ h => h.aP.tail.aP.tail.aP.tail.aP.tail) ?_
  cases M with
  | none =>
   dsimp only [sH, uT, vR, Ah]
   refine XA.dZ 12 rfl rfl rfl (by decide) (fS (zs := [.slice none 0 0, .slice none 0 0, .slice none 0 0, .slice none 0 0]) (L := [(0, 1), (1, 1), (2, 1), (3, 1)]) (aM (by kernel_rfl)) (by kernel_rfl) rfl (by simp [aS, aT, Value.cells]; rfl)) (by kernel_rfl) (fun _ _ _ h => h) (fun _ h => h.aP.tail.aP.tail.aP.tail.aP.tail) ?_
   refine XA.next 13 rfl (by kernel_rfl) ?_
   refine cD (cs := [.slice none 0 0, .slice none 0 0, .slice none 0 0, .slice none 0 0]) (aM (by kernel_rfl)) (by decide) fun g3 => ?_
   refine XK.nil ?_; refine XK.iJ ?_; refine XA.back (fun _ h => h.tail.aP.tail.aP.tail.aP.tail.aP.tail) ?_
   refine XA.next 14 rfl (by kernel_rfl) ?_
   refine tI 0 rfl ?_
   dsimp only [List.set]
   refine XA.bt ?_
   refine XA.done (by kernel_rfl) ?_
   refine XK.norm ?_
   exact XK.weak [4, 1, 3, 2, 0, 5] rfl (by decide) (by simp) (XK.aL [(3, .pointer (some ⟨g3, 0, none⟩)), (2, .pointer (some ⟨g2, 0, none⟩))] (XK.meet ⟨C, j1, D, j2, E, j3, V, j4, g3, rfl, rfl, rfl⟩))
  | some g3 =>
   dsimp only [sH, uT, vR, Ah]
   refine XA.dZ 12 rfl rfl rfl (by decide) (fS (zs := [.slice none 0 0, .slice none 0 0, .slice none 0 0, .slice none 0 0]) (L := [(0, 1), (1, 1), (2, 1), (3, 1)]) (aM (by kernel_rfl)) (by kernel_rfl) rfl (by simp [aS, aT, Value.cells]; rfl)) (by kernel_rfl) (fun _ _ _ h => h) (fun _ h => h.tail.aP.tail.aP.tail.aP.tail.aP.tail) ?_
   refine XA.next 14 rfl (by kernel_rfl) ?_
   refine tI 0 rfl ?_
   dsimp only [List.set]
   refine XA.bt ?_
   refine XA.done (by kernel_rfl) ?_
   refine XK.norm ?_
   exact XK.weak [4, 1, 3, 2, 0, 5] rfl (by decide) (by simp) (XK.aL [(3, .pointer (some ⟨g3, 0, none⟩)), (2, .pointer (some ⟨g2, 0, none⟩))] (XK.meet ⟨C, j1, D, j2, E, j3, V, j4, g3, rfl, rfl, rfl⟩))
 rintro _ _ _ ⟨C, j1, D, j2, E, j3, V, j4, g3, rfl, rfl, rfl⟩
 refine XK.uF (p := HP.dM (rP s xV 0) (rP.le (s := s) (fa := xV) (i := 0))) (fun w1 j c a hj => absurd hj (by omega)) ?_
 refine XK.go ?_
 refine XK.aL [(23, .int .i64 0), (22, .int .i64 s.aB.length), (3, .pointer (some ⟨g3, 0, none⟩)), (2, .pointer (some ⟨g2, 0, none⟩))] ?_
 refine XK.loop (fun m e R H => ∃ (i : Nat) (fa : List AC), i ≤ s.aB.length ∧ fa.length = s.aB.length ∧ (∀ j, i ≤ j → fa[j]? = xV[j]?) ∧ m = s.aB.length - i ∧ e = [(23, .int .i64 i), (22, .int .i64 s.aB.length), (3, .pointer (some ⟨g3, 0, none⟩)), (2, .pointer (some ⟨g2, 0, none⟩))] ∧ R = [all w] ∧ H = [HP.dM (rP s fa i) (rP.le (s := s) (fa := fa) (i := i)), HP.own 118 6 (.slice C s.aB.length j1) s.aB.length (Cy s fa).flatten, HP.own 78 6 (.slice V s.aG.length j4) s.aG.length (Cv s wN).flatten, HP.own 75 3 (.slice D s.domains.length j2) s.domains.length rd.flatten, HP.own 120 1 (.slice E s.aU.length j3) s.aU.length rr.flatten, HP.aE g3 29 [.slice C s.aB.length j1, .slice D s.domains.length j2, .slice E s.aU.length j3, .slice V s.aG.length j4], HP.aE g2 29 [.slice none 0 0, .slice none 0 0, .slice none 0 0, .slice none 0 0]]) s.aB.length ⟨0, xV, by omega, aEC, fun _ _ => rfl, rfl, rfl, rfl, rfl⟩ fun m e R H hI => ?_
 obtain ⟨i, fa, hi, hfl, hsame, rfl, rfl, rfl, rfl⟩ := hI
 refine XK.go ?_
 refine XK.if_ rfl (fun hlt => ?_) (fun hge => ?_)
 ·have hlt : i < s.aB.length := by omega
  obtain ⟨c, hc⟩ := get_some hlt
  obtain ⟨a, ha⟩ := get_some (l := fa) (i := i) (by omega)
  have ha0 : xV[i]? = some a := by rw [← hsame i (Nat.le_refl _)]; exact ha
  have aEB := aED i c a hc ha0
  have hcs := sm5 c (List.mem_of_getElem? hc)
  refine XK.weak [1, 0, 2, 3, 4, 5, 6] rfl (by decide) (fun _ h => h) ?_
  refine XK.Jt 0 rfl (by omega) fun gC hC => ?_
  subst hC
  refine XK.uP 0 rfl fun cs h1 h2 h3 h4 => ?_
  dsimp only [List.set]
  obtain ⟨iT, gS⟩ := Il (f := sN) (es := s.aB) (bs := fa) (sz := 6) hfl (fun _ _ => rfl)
  have hs := Ai h2 iT gS (Dp hc ha)
  refine XK.go ?_
  refine XK.draw 10 (by kernel_rfl) (by kernel_rfl) ?_
  refine XA.q 0 ?_
  refine XA.q 1 ?_
  refine XA.q 2 ?_
  refine XA.q 3 ?_
  refine XA.q 4 ?_
  refine XA.q 5 ?_
  refine XA.q 6 ?_ (eD := dat (sz := 6) i (i * 6))
  refine XA.q 7 ?_
  refine XA.q 8 ?_
  refine XA.next 9 rfl (by kernel_rfl) ?_
  refine dU (f := 147) (fi := []) (ca := []) (by kernel_rfl) rfl rfl (by decide) (To c.src.length (aR c.src)) (fun w1 st => Wl a.1 _ a.2 _ w1 (aI.le aEB (st.le (by simp))) (Xp _) hcs) ?_
  rintro _ _ q ⟨Af, kf, rfl, rfl⟩ _
  dsimp only [List.cons_append, List.nil_append]
  refine XA.bk ?_
  refine XA.next 10 rfl (by kernel_rfl) ?_
  refine kd (dat i (i * 6)) ?_
  refine XA.bt ?_
  refine XA.next 11 rfl (by kernel_rfl) ?_
  refine bI ?_
  refine XA.bt ?_
  refine XA.next 12 rfl (by kernel_rfl) ?_
  refine gR rfl rfl ?_
  dsimp only [List.set]
  refine XA.bt ?_
  refine XA.done (by kernel_rfl) ?_
  have hs1 := hs.set 1 (.slice Af c.src.length kf) (by simp [sN]) (by omega)
  have oK := (qH.refl cs (i * 6) 6).set 1 (.slice Af c.src.length kf) (by decide)
  have hf := wG (r' := sN c (Af, kf)) h2 iT gS hlt (by omega) rfl hs1 oK
  rw [show (Cy s fa).set i (sN c (Af, kf)) = Cy s (fa.set i (Af, kf)) from Ub hc (by omega)] at hf
  refine XK.vE 1 (n := s.aB.length) (c := j1) (sz := 6) rfl (by simpa using h1) hf h3 h4 ?_
  dsimp only [List.set]
  refine XK.rS 0 (Φ := fun p => aI p 1 Af c.src.length (aR c.src)) (hm := fun p q hl h => aI.le h hl) rfl (fun p h => h) ?_
  dsimp only [List.set]
  refine XK.weak [0, 2, 1, 3, 4, 5, 6, 7] rfl (by decide) (fun _ h => h) ?_
  refine XK.Pq (X := rP s (fa.set i (Af, kf)) (i + 1)) (h3 := rP.le) (fun p h1 h2 j c' a' hj zV tW => by
   rcases Nat.lt_or_ge j i with h | h
   ·rw [List.getElem?_set_ne (by omega)] at tW
    exact h2 j c' a' h zV tW
   ·obtain rfl : j = i := by omega
    rw [hc] at zV
    cases zV
    rw [List.getElem?_set_self (by omega)] at tW
    cases tW
    exact h1) ?_
  refine XK.go ?_
  refine XK.aL [(23, .int .i64 (i + 1 : Nat)), (22, .int .i64 s.aB.length), (3, .pointer (some ⟨g3, 0, none⟩)), (2, .pointer (some ⟨g2, 0, none⟩))] ?_
  refine XK.Bj (R' := [all w]) (by simp) ?_
  exact XK.round (s.aB.length - (i + 1)) (by omega) ⟨i + 1, fa.set i (Af, kf), hlt, by simpa using hfl, fun j hj => by rw [List.getElem?_set_ne (by omega)]; exact hsame j (by omega), rfl, rfl, rfl, rfl⟩
 ·obtain rfl : i = s.aB.length := by omega
  refine XK.uF (p := HP.dM (uJ s wN 0) (uJ.le (s := s) (da := wN) (i := 0))) (fun w1 j d a hj => absurd hj (by omega)) ?_
  refine XK.go ?_
  refine XK.aL [(42, .int .i64 0), (41, .int .i64 s.aG.length), (3, .pointer (some ⟨g3, 0, none⟩)), (2, .pointer (some ⟨g2, 0, none⟩))] ?_
  refine XK.loop (fun m e R H => ∃ (i : Nat) (da : List (AC × AC)), i ≤ s.aG.length ∧ da.length = s.aG.length ∧ (∀ j, i ≤ j → da[j]? = wN[j]?) ∧ m = s.aG.length - i ∧ e = [(42, .int .i64 i), (41, .int .i64 s.aG.length), (3, .pointer (some ⟨g3, 0, none⟩)), (2, .pointer (some ⟨g2, 0, none⟩))] ∧ R = [all w] ∧ H = [HP.dM (uJ s da i) (uJ.le (s := s) (da := da) (i := i)), HP.dM (rP s fa s.aB.length) (rP.le (s := s) (fa := fa) (i := s.aB.length)), HP.own 118 6 (.slice C s.aB.length j1) s.aB.length (Cy s fa).flatten, HP.own 78 6 (.slice V s.aG.length j4) s.aG.length (Cv s da).flatten, HP.own 75 3 (.slice D s.domains.length j2) s.domains.length rd.flatten, HP.own 120 1 (.slice E s.aU.length j3) s.aU.length rr.flatten, HP.aE g3 29 [.slice C s.aB.length j1, .slice D s.domains.length j2, .slice E s.aU.length j3, .slice V s.aG.length j4], HP.aE g2 29 [.slice none 0 0, .slice none 0 0, .slice none 0 0, .slice none 0 0]]) s.aG.length ⟨0, wN, by omega, aEF, fun _ _ => rfl, rfl, rfl, rfl, rfl⟩ fun m e R H hI => ?_
  obtain ⟨i, da, hi, mX, Yf, rfl, rfl, rfl, rfl⟩ := hI
  refine XK.go ?_
  refine XK.if_ rfl (fun hlt => ?_) (fun hge => ?_)
  ·have hlt : i < s.aG.length := by omega
   obtain ⟨d, hd⟩ := get_some hlt
   obtain ⟨⟨a1, a2⟩, ha⟩ := get_some (l := da) (i := i) (by omega)
   have ha0 : wN[i]? = some (a1, a2) := by rw [← Yf i (Nat.le_refl _)]; exact ha
   obtain ⟨Ql, Yq⟩ := aEG i d _ hd ha0
   have cT := Fp d (List.mem_of_getElem? hd)
   have dW := sm6 d (List.mem_of_getElem? hd)
   refine XK.weak [3, 0, 1, 2, 4, 5, 6, 7] rfl (by decide) (fun _ h => h) ?_
   refine XK.Jt 0 rfl (by omega) fun gV hV => ?_
   subst hV
   refine XK.uP 0 rfl fun cs h1 h2 h3 h4 => ?_
   dsimp only [List.set]
   obtain ⟨iT, gS⟩ := Il (f := sJ) (es := s.aG) (bs := da) (sz := 6) mX (fun _ _ => rfl)
   have hs := Ai h2 iT gS (Dp hd ha)
   refine XK.go ?_
   refine kd (dat i (i * 6)) ?_
   refine XK.go ?_
   refine XK.eJ [3, 4, 5, 8, 9, 10] ?_
   refine XB.mv 0 ?_
   refine XB.mv 1 ?_
   refine XB.mv 2 ?_
   refine XB.mv 7 ?_
   refine XB.q 3 ?_
   refine XB.q 4 ?_
   refine XB.q 5 ?_
   refine XB.q 8 ?_
   refine XB.q 9 ?_
   refine XB.q 10 ?_
   refine XB.next 6 rfl (by kernel_rfl) ?_
   refine dU (f := 148) (fi := []) (ca := []) (by kernel_rfl) rfl rfl (by decide) (aAY d.aQ.length (d.aQ.flatMap Rg.cells)) (fun w1 st => aDn a1.1 _ a1.2 _ w1 (aI.le Ql (st.le (by simp))) Bp cT) ?_
   rintro _ _ q1 ⟨Ag, kg, rfl, rfl⟩ _
   dsimp only [List.cons_append, List.nil_append]
   refine XB.bk ?_
   refine XB.next 11 rfl (by kernel_rfl) ?_
   refine dU (f := 147) (fi := []) (ca := []) (by kernel_rfl) rfl rfl (by decide) (To d.iC.length (aR d.iC)) (fun w1 st => Wl a2.1 _ a2.2 _ w1 (aI.le Yq (st.le (by simp))) (Xp _) dW) ?_
   rintro _ _ q2 ⟨An, kn, rfl, rfl⟩ _
   dsimp only [List.cons_append, List.nil_append]
   refine XB.bk ?_ (hS := fun _ h => h.aP.tail.aP.tail)
   refine XB.next 12 rfl (by kernel_rfl) ?_
   refine bI ?_
   refine XB.bk ?_ (hS := fun _ h => h.aP.tail.aP.tail)
   refine XB.next 13 rfl (by kernel_rfl) ?_
   refine bI ?_
   refine XB.bk ?_ (hS := fun _ h => h.aP.tail.aP.tail)
   refine XB.next 14 rfl (by kernel_rfl) ?_
   refine gR rfl rfl ?_
   dsimp only [List.set]
   refine XB.bt ?_
   refine XB.next 15 rfl (by kernel_rfl) ?_
   refine bI ?_
   refine XB.bt ?_
   refine XB.next 16 rfl (by kernel_rfl) ?_
   refine bI ?_
   refine XB.bt ?_
   refine XB.next 17 rfl (by kernel_rfl) ?_
   refine gR rfl rfl ?_
   dsimp only [List.set]
   refine XB.bt ?_
   refine XB.done (by kernel_rfl) ?_
   have hs1 := (hs.set 4 (.slice Ag d.aQ.length kg) (by simp [sJ]) (by omega)).set 5 (.slice An d.iC.length kn) (by simp [sJ]) (by simp; omega)
   have oK := ((qH.refl cs (i * 6) 6).set 4 (.slice Ag d.aQ.length kg) (by decide)).set 5 (.slice An d.iC.length kn) (by decide)
   have hf := wG (r' := sJ d ((Ag, kg), (An, kn))) h2 iT gS hlt (by omega) rfl hs1 oK
   rw [show (Cv s da).set i (sJ d ((Ag, kg), (An, kn))) = Cv s (da.set i ((Ag, kg), (An, kn))) from Ub hd (by omega)] at hf
   refine XK.vE 2 (n := s.aG.length) (c := j4) (sz := 6) rfl (by simpa using h1) hf h3 h4 ?_
   dsimp only [List.set]
   refine XK.rS 0 (Φ := fun p => aI p 1 An d.iC.length (aR d.iC)) (hm := fun p q hl h => aI.le h hl) rfl (fun p h => h) ?_
   refine XK.rS 1 (Φ := fun p => aI p 2 Ag d.aQ.length (d.aQ.flatMap Rg.cells)) (hm := fun p q hl h => aI.le h hl) rfl (fun p h => h) ?_
   dsimp only [List.set]
   refine XK.Pq (X := fun p => aI p 1 An d.iC.length (aR d.iC) ∧ aI p 2 Ag d.aQ.length (d.aQ.flatMap Rg.cells)) (h3 := fun p q hl h => ⟨aI.le h.1 hl, aI.le h.2 hl⟩) (fun p h1 h2 => ⟨h1, h2⟩) ?_
   refine XK.weak [0, 2, 3, 4, 1, 5, 6, 7, 8] rfl (by decide) (fun _ h => h) ?_
   refine XK.Pq (X := uJ s (da.set i ((Ag, kg), (An, kn))) (i + 1)) (h3 := uJ.le) (fun p h1 h2 j d' a' hj hd' tW => by
    rcases Nat.lt_or_ge j i with h | h
    ·rw [List.getElem?_set_ne (by omega)] at tW
     exact h2 j d' a' h hd' tW
    ·obtain rfl : j = i := by omega
     rw [hd] at hd'
     cases hd'
     rw [List.getElem?_set_self (by omega)] at tW
     cases tW
     exact ⟨h1.2, h1.1⟩) ?_
   refine XK.go ?_
   refine XK.aL [(42, .int .i64 (i + 1 : Nat)), (41, .int .i64 s.aG.length), (3, .pointer (some ⟨g3, 0, none⟩)), (2, .pointer (some ⟨g2, 0, none⟩))] ?_
   refine XK.Bj (R' := [all w]) (by simp) ?_
   exact XK.round (s.aG.length - (i + 1)) (by omega) ⟨i + 1, da.set i ((Ag, kg), (An, kn)), hlt, by simpa using mX, fun j hj => by rw [List.getElem?_set_ne (by omega)]; exact Yf j (by omega), rfl, rfl, rfl, rfl⟩
  ·obtain rfl : i = s.aG.length := by omega
   refine XK.weak [6, 7, 0, 1, 2, 3, 4, 5] rfl (by decide) (fun _ h => h) ?_
   refine XK.go ?_
   refine XK.still [] [2, 3, 4, 5, 6, 7] [1] (by simp) rfl (by decide) (by decide) fun q hq _ hfr => ?_
   obtain ⟨F0, s0, z0⟩ := hq 2 _ (by simp) rfl
   obtain ⟨F1, s1, z1⟩ := hq 3 _ (by simp) rfl
   have e0 : uJ s da s.aG.length q := uJ.le ⟨q.w, F0⟩ q (fun b hb => ⟨z0 b hb, rfl⟩) s0
   have e1 : rP s fa s.aB.length q := rP.le ⟨q.w, F1⟩ q (fun b hb => ⟨z1 b hb, rfl⟩) s1
   have e2 := aI.own (hq 4 _ (by simp) rfl)
   have e3 := aI.own (hq 5 _ (by simp) rfl)
   have e4 := aI.own (hq 6 _ (by simp) rfl)
   have e5 := aI.own (hq 7 _ (by simp) rfl)
   have hS : mJ (dR q) s #[.slice C s.aB.length j1, .slice D s.domains.length j2, .slice E s.aU.length j3, .slice V s.aG.length j4] :=
    ⟨C, _, j1, D, _, j2, E, _, j3, V, _, j4, rfl, ⟨_, Vu hfl (fun i c a hc ha => e1 i c a (List.getElem?_eq_some_iff.1 hc).1 hc ha), rfl, e2⟩, ⟨rd, hrd, rfl, e4⟩, ⟨rr, cM, rfl, e5⟩, ⟨_, Vt mX (fun i d p hd hp => e0 i d p (List.getElem?_eq_some_iff.1 hd).1 hd hp), rfl, e3⟩⟩
   exact XK.Bo (vs := [.slice C s.aB.length j1, .slice D s.domains.length j2, .slice E s.aU.length j3, .slice V s.aG.length j4]) rfl (by kernel_rfl) rfl rfl (by first | assumption | exact aC.whole 0 rfl | exact aC.whole 1 rfl | exact aC.whole 2 rfl | exact aC.whole 3 rfl | exact aC.whole 4 rfl | exact aC.whole 5 rfl | exact aC.whole 6 rfl | exact aC.whole 7 rfl | exact aC.whole 8 rfl | exact aC.eM (by simp) (by assumption)) fun w1 t => ⟨⟨_, rfl, _, rfl, hS.mono (fV (t.kX (by simp) (hfr (by simp) (by simp))))⟩, t.below (by simp)⟩
end
end Go.Proofs.YticjkhagldkejaaGreatDoor
