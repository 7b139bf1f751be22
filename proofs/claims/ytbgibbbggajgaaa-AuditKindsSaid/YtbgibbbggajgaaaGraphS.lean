/- Graphs, in plain words: what hangs on what, and in which order it can be had. No program in sight. -/
import Derived.Test.YtbgibbbggajgaaaMem
namespace Go.Proofs.Ytbgibbbggajgaaa
set_option linter.all false

/-- does a row name what is no node? -/
def badG (g : List (List Int)) : Bool := g.any fun l => l.any fun u => decide (u < 0) || decide ((g.length : Int) ≤ u)
def numbersG (g : List (List Int)) : Int := if 100 < g.length then 1 else if badG g then 4 else 0
/-- node v hangs on u, once more: how many each waits for, who uses each, what was met -/
def hstep (v : Nat) (s : List Int × List (List Int) × List Int) (u : Int) : List Int × List (List Int) × List Int :=
  if s.2.2.contains u then s else (s.1.set v (s.1[v]?.getD 0 + 1), s.2.1.set u.toNat (s.2.1[u.toNat]?.getD [] ++ [(v : Int)]), s.2.2 ++ [u])
def hrow (v : Nat) (s : List Int × List (List Int)) (l : List Int) : List Int × List (List Int) × List Int := l.foldl (hstep v) (s.1, s.2, [])
def hangTo (g : List (List Int)) : Nat → List Int × List (List Int)
  | 0 => (List.replicate g.length 0, List.replicate g.length [])
  | k + 1 => let r := hrow k (hangTo g k) (g[k]?.getD []); (r.1, r.2.1)
/-- the least node that is not had, and all of whose sources are -/
def nextG (g : List (List Int)) (M : List Nat) : Option Nat := (List.range g.length).find? fun v => !(M.contains v) && (g[v]?.getD []).all fun u => M.contains u.toNat
def orderG (g : List (List Int)) : Nat → List Nat → Option (List Nat)
  | 0, M => some M
  | k + 1, M => match nextG g M with
    | none => none
    | some v => orderG g k (M ++ [v])
/-- each of a row once, as they come -/
def dset (l : List Int) : List Int := l.foldl (fun a u => if a.contains u then a else a ++ [u]) []

theorem badG_of {g : List (List Int)} {k j : Nat} {l : List Int} {u : Int} (hk : g[k]? = some l) (hj : l[j]? = some u) (hu : u < 0 ∨ (g.length : Int) ≤ u) : badG g = true := by
  unfold badG
  simp only [List.any_eq_true, Bool.or_eq_true, decide_eq_true_eq]
  exact ⟨l, List.mem_of_getElem? hk, u, List.mem_of_getElem? hj, hu⟩
theorem badG_no {g : List (List Int)} (h : ∀ (k : Nat) (l : List Int), g[k]? = some l → ∀ (j : Nat) (u : Int), l[j]? = some u → 0 ≤ u ∧ u < g.length) : badG g = false := by
  cases hb : badG g with
  | false => rfl
  | true =>
    unfold badG at hb
    simp only [List.any_eq_true, Bool.or_eq_true, decide_eq_true_eq] at hb
    obtain ⟨l, hl, u, hu, hbad⟩ := hb
    obtain ⟨k, hk⟩ := List.getElem?_of_mem hl
    obtain ⟨j, hj⟩ := List.getElem?_of_mem hu
    have := h k l hk j u hj
    omega
/-- all numbers are nodes -/
def InG (g : List (List Int)) : Prop := ∀ l ∈ g, ∀ u ∈ l, 0 ≤ u ∧ u < g.length
theorem InG.of {g : List (List Int)} (h : badG g = false) : InG g := by
  intro l hl u hu
  by_cases h0 : u < 0 ∨ (g.length : Int) ≤ u
  · have hb : badG g = true := by
      unfold badG
      simp only [List.any_eq_true, Bool.or_eq_true, decide_eq_true_eq]
      exact ⟨l, hl, u, hu, h0⟩
    rw [h] at hb
    cases hb
  · omega
theorem hstep_len (v : Nat) (s : List Int × List (List Int) × List Int) (u : Int) : (hstep v s u).1.length = s.1.length ∧ (hstep v s u).2.1.length = s.2.1.length := by
  unfold hstep; split <;> simp
theorem hrow_len (v : Nat) : ∀ (l : List Int) (s : List Int × List (List Int) × List Int), (l.foldl (hstep v) s).1.length = s.1.length ∧ (l.foldl (hstep v) s).2.1.length = s.2.1.length
  | [], s => ⟨rfl, rfl⟩
  | u :: l, s => by rw [List.foldl_cons]; have h1 := hrow_len v l (hstep v s u); have h2 := hstep_len v s u; exact ⟨h1.1.trans h2.1, h1.2.trans h2.2⟩
theorem hangTo_len (g : List (List Int)) : ∀ k, (hangTo g k).1.length = g.length ∧ (hangTo g k).2.length = g.length
  | 0 => by simp [hangTo]
  | k + 1 => by
    have h := hangTo_len g k
    have h1 := hrow_len k (g[k]?.getD []) ((hangTo g k).1, (hangTo g k).2, [])
    exact ⟨h1.1.trans h.1, h1.2.trans h.2⟩
/-! what it comes to -/
theorem hstep_met (v : Nat) (s : List Int × List (List Int) × List Int) (u : Int) : (hstep v s u).2.2 = if s.2.2.contains u then s.2.2 else s.2.2 ++ [u] := by unfold hstep; split <;> rfl
theorem hrow_met (v : Nat) : ∀ (l : List Int) (s : List Int × List (List Int) × List Int), (l.foldl (hstep v) s).2.2 = l.foldl (fun a u => if a.contains u then a else a ++ [u]) s.2.2
  | [], s => rfl
  | u :: l, s => by rw [List.foldl_cons, List.foldl_cons, hrow_met v l, hstep_met]
/-- waits: node v's own -/
theorem hrow_own (v : Nat) : ∀ (l : List Int) (s : List Int × List (List Int) × List Int), v < s.1.length → s.1[v]? = some (s.2.2.length : Int) → (l.foldl (hstep v) s).1[v]? = some ((l.foldl (hstep v) s).2.2.length : Int)
  | [], s, _, h => h
  | u :: l, s, hv, h => by
    rw [List.foldl_cons]
    refine hrow_own v l _ (by rw [(hstep_len v s u).1]; exact hv) ?_
    unfold hstep
    split
    · exact h
    · simp only [h, Option.getD_some]
      rw [List.getElem?_set_self hv]
      simp
theorem hrow_other (v : Nat) : ∀ (l : List Int) (s : List Int × List (List Int) × List Int) (x : Nat), x ≠ v → (l.foldl (hstep v) s).1[x]? = s.1[x]?
  | [], s, x, _ => rfl
  | u :: l, s, x, hx => by
    rw [List.foldl_cons, hrow_other v l _ x hx]
    unfold hstep
    split
    · rfl
    · exact List.getElem?_set_ne (Ne.symm hx)
/-- users -/
theorem hrow_users (v : Nat) : ∀ (l : List Int) (s : List Int × List (List Int) × List Int) (x : Nat), (∀ u ∈ l, 0 ≤ u ∧ u < s.2.1.length) → x < s.2.1.length →
    (l.foldl (hstep v) s).2.1[x]? = some (s.2.1[x]?.getD [] ++ if (x : Int) ∈ l ∧ (x : Int) ∉ s.2.2 then [(v : Int)] else [])
  | [], s, x, _, hx => by simp [List.getElem?_eq_getElem hx]
  | u :: l, s, x, hl, hx => by
    have hu := hl u (by simp)
    have hlen := (hstep_len v s u).2
    rw [List.foldl_cons, hrow_users v l (hstep v s u) x (fun y hy => by rw [hlen]; exact hl y (by simp [hy])) (by rw [hlen]; exact hx)]
    unfold hstep
    by_cases hc : s.2.2.contains u = true
    · have hc' : u ∈ s.2.2 := by simpa using hc
      simp only [hc, if_true, List.mem_cons]
      congr 2
      by_cases hxu : (x : Int) = u
      · rw [hxu]; simp [hc']
      · simp [hxu]
    · have hc' : u ∉ s.2.2 := by simpa using hc
      simp only [hc, Bool.false_eq_true, if_false, List.mem_cons, List.mem_append, List.mem_singleton, List.not_mem_nil, or_false]
      by_cases hxu : (x : Int) = u
      · subst hxu
        have e : ((x : Int)).toNat = x := by simp
        rw [e, List.getElem?_set_self hx]
        simp [hc']
      · have hne : u.toNat ≠ x := by omega
        rw [List.getElem?_set_ne hne]
        simp [hxu]
theorem hangTo_spec {g : List (List Int)} (hg : InG g) : ∀ k, k ≤ g.length → (∀ v, v < g.length → (hangTo g k).1[v]? = some (if v < k then ((dset (g[v]?.getD [])).length : Int) else 0)) ∧
    ∀ u, u < g.length → (hangTo g k).2[u]? = some (((List.range k).filter fun v => (g[v]?.getD []).contains (u : Int)).map Int.ofNat)
  | 0, _ => by
    refine ⟨fun v hv => ?_, fun u hu => ?_⟩
    · simp [hangTo, hv]
    · simp [hangTo, hu]
  | k + 1, hk => by
    obtain ⟨h1, h2⟩ := hangTo_spec hg k (by omega)
    have hl := hangTo_len g k
    have hin : ∀ u ∈ g[k]?.getD [], 0 ≤ u ∧ u < (hangTo g k).2.length := fun u hu => by
      rw [hl.2]
      have : g[k]? = some (g[k]'(by omega)) := List.getElem?_eq_getElem _
      rw [this] at hu
      exact hg _ (List.getElem_mem _) u hu
    refine ⟨fun v hv => ?_, fun u hu => ?_⟩
    · show (((g[k]?.getD []).foldl (hstep k) ((hangTo g k).1, (hangTo g k).2, [])).1)[v]? = _
      by_cases hvk : v = k
      · subst hvk
        have := hrow_own v (g[v]?.getD []) ((hangTo g v).1, (hangTo g v).2, []) (by rw [hl.1]; exact hv) (by rw [h1 v hv]; simp)
        rw [this, hrow_met]
        simp [dset]
      · rw [hrow_other k _ _ v hvk, h1 v hv]
        congr 1
        by_cases h : v < k
        · rw [if_pos h, if_pos (by omega)]
        · rw [if_neg h, if_neg (by omega)]
    · show (((g[k]?.getD []).foldl (hstep k) ((hangTo g k).1, (hangTo g k).2, [])).2.1)[u]? = _
      rw [hrow_users k _ _ u hin (by rw [hl.2]; exact hu), h2 u hu, List.range_succ, List.filter_append, List.map_append]
      simp only [Option.getD_some, List.not_mem_nil, not_false_eq_true, and_true]
      congr 2
      by_cases h : (u : Int) ∈ g[k]?.getD []
      · simp [h]
      · simp [h]
theorem hangTo_users_le {g : List (List Int)} (hg : InG g) {k u : Nat} (hk : k ≤ g.length) {l : List Int} (hu : (hangTo g k).2[u]? = some l) : l.length ≤ k := by
  have hlt : u < g.length := by
    rw [← (hangTo_len g k).2]
    rcases Nat.lt_or_ge u (hangTo g k).2.length with h | h
    · exact h
    · rw [List.getElem?_eq_none h] at hu; cases hu
  rw [(hangTo_spec hg k hk).2 u hlt] at hu
  cases hu
  rw [List.length_map]
  have := List.length_filter_le (fun v => (g[v]?.getD []).contains (u : Int)) (List.range k)
  simpa using this
end Go.Proofs.Ytbgibbbggajgaaa
