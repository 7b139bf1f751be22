/- The order of a graph, as it is reckoned: how many each node still waits for. No program in sight. -/
import Derived.Test.YtbgibbbggajgaaaGraphS
namespace Go.Proofs.Ytbgibbbggajgaaa
set_option linter.all false

def natI (M : List Nat) : List Int := M.map Int.ofNat
/-- can node v be had next? -/
def okN (g : List (List Int)) (M : List Nat) (v : Nat) : Bool := !(M.contains v) && (g[v]?.getD []).all fun u => M.contains u.toNat
/-- how many sources of v are not had yet -/
def waitN (g : List (List Int)) (M : List Nat) (v : Nat) : Nat := ((dset (g[v]?.getD [])).filter fun u => !(M.contains u.toNat)).length
def waitsG (g : List (List Int)) (M : List Nat) : List Int := (List.range g.length).map fun v => (waitN g M v : Int)
def decBy (W : List Int) (us : List Int) : List Int := us.foldl (fun W u => W.set u.toNat (W[u.toNat]?.getD 0 - 1)) W
def usersG (g : List (List Int)) (v : Nat) : List Int := ((List.range g.length).filter fun x => (g[x]?.getD []).contains (v : Int)).map Int.ofNat
def orderE (g : List (List Int)) : Int × List Nat := if numbersG g ≠ 0 then (numbersG g, []) else match orderG g g.length [] with
  | some M => (0, M)
  | none => (5, [])
theorem natI_has (M : List Nat) (v : Nat) : (natI M).contains (v : Int) = M.contains v := by
  rw [Bool.eq_iff_iff]
  simp only [natI, List.contains_iff_mem, List.mem_map]
  constructor
  · rintro ⟨a, h, e⟩
    have : a = v := Int.ofNat.inj e
    exact this ▸ h
  · exact fun h => ⟨v, h, rfl⟩
theorem natI_snoc (M : List Nat) (v : Nat) : natI (M ++ [v]) = natI M ++ [(v : Int)] := by simp [natI]
theorem waitsG_get {g : List (List Int)} {M : List Nat} {v : Nat} (h : v < g.length) : (waitsG g M)[v]? = some (waitN g M v : Int) := by simp [waitsG, h]
theorem waitsG_len (g : List (List Int)) (M : List Nat) : (waitsG g M).length = g.length := by simp [waitsG]
theorem dset_fold (l : List Int) : ∀ (a : List Int), (∀ u, u ∈ l.foldl (fun a u => if a.contains u then a else a ++ [u]) a ↔ u ∈ a ∨ u ∈ l) ∧ (a.Nodup → (l.foldl (fun a u => if a.contains u then a else a ++ [u]) a).Nodup) ∧ (l.foldl (fun a u => if a.contains u then a else a ++ [u]) a).length ≤ a.length + l.length := by
  induction l with
  | nil => intro a; simp
  | cons x l ih =>
    intro a
    rw [List.foldl_cons]
    obtain ⟨h1, h2, h3⟩ := ih (if a.contains x then a else a ++ [x])
    refine ⟨fun u => ?_, fun hn => h2 ?_, ?_⟩
    · rw [h1]
      split
      · rename_i hc
        have : x ∈ a := by simpa using hc
        constructor
        · rintro (h | h)
          · exact .inl h
          · exact .inr (by simp [h])
        · rintro (h | h)
          · exact .inl h
          · rcases List.mem_cons.1 h with rfl | h
            · exact .inl this
            · exact .inr h
      · simp [or_assoc]
    · split
      · exact hn
      · rename_i hc
        have : x ∉ a := by simpa using hc
        rw [List.nodup_append]
        refine ⟨hn, by simp, fun y hy z hz => ?_⟩
        simp at hz
        subst hz
        exact fun e => this (e ▸ hy)
    · refine Nat.le_trans h3 ?_
      split <;> simp <;> omega
theorem dset_mem (l : List Int) (u : Int) : u ∈ dset l ↔ u ∈ l := by have := (dset_fold l []).1 u; simpa [dset] using this
theorem dset_nodup (l : List Int) : (dset l).Nodup := (dset_fold l []).2.1 List.nodup_nil
theorem dset_len (l : List Int) : (dset l).length ≤ l.length := by have := (dset_fold l []).2.2; simpa [dset] using this
theorem waitN_le (g : List (List Int)) (M : List Nat) (v : Nat) : waitN g M v ≤ (g[v]?.getD []).length := Nat.le_trans (List.length_filter_le _ _) (dset_len _)
theorem waitN_zero (g : List (List Int)) (M : List Nat) (v : Nat) : waitN g M v = 0 ↔ ((g[v]?.getD []).all fun u => M.contains u.toNat) = true := by
  unfold waitN
  rw [List.length_eq_zero_iff, List.filter_eq_nil_iff, List.all_eq_true]
  constructor
  · intro h u hu
    have := h u ((dset_mem _ _).2 hu)
    simpa using this
  · intro h u hu
    have := h u ((dset_mem _ _).1 hu)
    simpa using this
theorem okN_met {g : List (List Int)} {M : List Nat} {v : Nat} (h : M.contains v = true) : okN g M v = false := by rw [okN, h]; rfl
theorem okN_waits {g : List (List Int)} {M : List Nat} {v : Nat} (h : (waitN g M v : Int) > 0) : okN g M v = false := by
  have : ¬ waitN g M v = 0 := by omega
  rw [waitN_zero] at this
  rw [okN]
  simp only [Bool.not_eq_true] at this
  rw [this, Bool.and_false]
theorem okN_free {g : List (List Int)} {M : List Nat} {v : Nat} (h : M.contains v = false) (h2 : ¬ (waitN g M v : Int) > 0) : okN g M v = true := by
  have : waitN g M v = 0 := by omega
  rw [waitN_zero] at this
  rw [okN, h, this]
  rfl
theorem nextG_none {g : List (List Int)} {M : List Nat} (h : ∀ j, j < g.length → okN g M j = false) : nextG g M = none := by
  unfold nextG
  rw [List.find?_eq_none]
  intro x hx
  have := h x (by simpa using hx)
  unfold okN at this
  rw [this]
  simp
theorem nextG_some {g : List (List Int)} {M : List Nat} {v : Nat} (hv : v < g.length) (h : ∀ j, j < v → okN g M j = false) (hk : okN g M v = true) : nextG g M = some v := by
  unfold nextG
  rw [List.find?_range_eq_some]
  refine ⟨hk, by simpa using hv, fun j hj => ?_⟩
  have := h j hj
  unfold okN at this
  rw [this]
  rfl
theorem orderG_step {g : List (List Int)} {M : List Nat} {v k : Nat} (h : nextG g M = some v) : orderG g (k + 1) M = orderG g k (M ++ [v]) := by rw [orderG, h]
theorem orderG_stop {g : List (List Int)} {M : List Nat} {k : Nat} (h : nextG g M = none) : orderG g (k + 1) M = none := by rw [orderG, h]
theorem decBy_len : ∀ (us W : List Int), (decBy W us).length = W.length
  | [], W => rfl
  | u :: us, W => by rw [decBy, List.foldl_cons]; have := decBy_len us (W.set u.toNat (W[u.toNat]?.getD 0 - 1)); rw [decBy] at this; rw [this]; simp
theorem decBy_next {us W : List Int} {j : Nat} {u : Int} (h : us[j]? = some u) : decBy W (us.take (j + 1)) = (decBy W (us.take j)).set u.toNat ((decBy W (us.take j))[u.toNat]?.getD 0 - 1) := by
  rw [List.take_add_one, h, Option.toList_some, decBy, List.foldl_append]; rfl
theorem decBy_get : ∀ (us W : List Int) (x : Nat), (∀ u ∈ us, 0 ≤ u) → x < W.length → (decBy W us)[x]? = some (W[x]?.getD 0 - (us.count (x : Int) : Int))
  | [], W, x, _, h => by simp [decBy, h]
  | u :: us, W, x, hu, h => by
    rw [decBy, List.foldl_cons]
    have := decBy_get us (W.set u.toNat (W[u.toNat]?.getD 0 - 1)) x (fun y hy => hu y (by simp [hy])) (by simpa using h)
    rw [decBy] at this
    rw [this]
    have h0 := hu u (by simp)
    congr 1
    by_cases e : u = (x : Int)
    · subst e
      have e2 : ((x : Int)).toNat = x := by simp
      rw [e2, List.getElem?_set_self h, List.count_cons_self]
      simp only [Option.getD_some]
      omega
    · have e2 : u.toNat ≠ x := by omega
      rw [List.getElem?_set_ne e2, List.count_cons_of_ne e]
theorem usersG_mem {g : List (List Int)} {v : Nat} {u : Int} (h : u ∈ usersG g v) : 0 ≤ u ∧ u < g.length := by
  simp only [usersG, List.mem_map, List.mem_filter, List.mem_range] at h
  obtain ⟨a, ⟨h1, _⟩, rfl⟩ := h
  simp; omega
theorem usersG_len (g : List (List Int)) (v : Nat) : (usersG g v).length ≤ g.length := by
  rw [usersG, List.length_map]
  have := List.length_filter_le (fun x => (g[x]?.getD []).contains (v : Int)) (List.range g.length)
  simpa using this
theorem usersG_count {g : List (List Int)} {v x : Nat} (hx : x < g.length) : (usersG g v).count (x : Int) = if (g[x]?.getD []).contains (v : Int) then 1 else 0 := by
  have hnd : (usersG g v).Nodup := List.Pairwise.map _ (fun a b h e => h (Int.ofNat.inj e)) (List.Pairwise.filter _ List.nodup_range)
  rw [List.Nodup.count hnd]
  have : ((x : Int) ∈ usersG g v) ↔ (g[x]?.getD []).contains (v : Int) = true := by
    simp only [usersG, List.mem_map, List.mem_filter, List.mem_range]
    constructor
    · rintro ⟨a, ⟨_, h⟩, e⟩
      have : a = x := Int.ofNat.inj e
      exact this ▸ h
    · intro h; exact ⟨x, ⟨hx, h⟩, rfl⟩
  by_cases h : (g[x]?.getD []).contains (v : Int) = true
  · rw [if_pos (this.2 h), if_pos h]
  · rw [if_neg (fun e => h (this.1 e)), if_neg h]
theorem filter_one {l : List Int} (hn : l.Nodup) {p q : Int → Bool} {a : Int} (ha : p a = true) (hq : ∀ u ∈ l, q u = (p u && decide (u ≠ a))) : (l.filter p).length = (l.filter q).length + if l.contains a then 1 else 0 := by
  induction l with
  | nil => simp
  | cons x l ih =>
    have hn' := List.nodup_cons.1 hn
    have ih := ih hn'.2 (fun u hu => hq u (by simp [hu]))
    have hx := hq x (by simp)
    by_cases e : x = a
    · subst e
      have hc : ¬ l.contains x = true := by simpa using hn'.1
      rw [if_neg hc] at ih
      have hc2 : (x :: l).contains x = true := by simp
      rw [if_pos hc2, List.filter_cons_of_pos ha, List.filter_cons_of_neg (by rw [hx]; simp), List.length_cons, ih]
    · have hc : (x :: l).contains a = l.contains a := by
        rw [List.contains_cons]
        have : (a == x) = false := by simp; exact fun h => e h.symm
        rw [this, Bool.false_or]
      rw [hc]
      by_cases hp : p x = true
      · rw [List.filter_cons_of_pos hp, List.filter_cons_of_pos (by rw [hx, hp]; simp [e]), List.length_cons, List.length_cons, ih]
        omega
      · rw [List.filter_cons_of_neg hp, List.filter_cons_of_neg (by rw [hx]; simp [hp]), ih]
theorem waitN_snoc {g : List (List Int)} (hg : InG g) {M : List Nat} {v x : Nat} (hv : M.contains v = false) (hx : x < g.length) : (waitN g M x : Int) - (if (g[x]?.getD []).contains (v : Int) then 1 else 0) = waitN g (M ++ [v]) x := by
  have hin : ∀ u ∈ g[x]?.getD [], 0 ≤ u := fun u hu => by
    have h1 : g[x]? = some (g[x]'hx) := List.getElem?_eq_getElem _
    rw [h1] at hu
    exact (hg _ (List.getElem_mem _) u hu).1
  have key := filter_one (dset_nodup (g[x]?.getD [])) (p := fun u => !(M.contains u.toNat)) (q := fun u => !((M ++ [v]).contains u.toNat)) (a := (v : Int)) (by simp only [Int.toNat_natCast]; rw [hv]; rfl) (fun u hu => by
    have h0 := hin u ((dset_mem _ _).1 hu)
    have hiff : (u.toNat = v) ↔ u = (v : Int) := by omega
    simp only [List.contains_eq_mem, List.mem_append, List.mem_singleton, hiff, Bool.decide_or, Bool.not_or, decide_not])
  have hc : (dset (g[x]?.getD [])).contains (v : Int) = (g[x]?.getD []).contains (v : Int) := by
    rw [Bool.eq_iff_iff]; simp only [List.contains_iff_mem]; exact dset_mem _ _
  rw [hc] at key
  unfold waitN
  rw [key]
  split <;> omega
theorem waits_snoc {g : List (List Int)} (hg : InG g) {M : List Nat} {v : Nat} (hv : M.contains v = false) : decBy (waitsG g M) (usersG g v) = waitsG g (M ++ [v]) := by
  apply List.ext_getElem?
  intro x
  rcases Nat.lt_or_ge x g.length with hx | hx
  · rw [decBy_get _ _ _ (fun u hu => (usersG_mem hu).1) (by rw [waitsG_len]; exact hx), waitsG_get hx, waitsG_get hx, usersG_count hx]
    congr 1
    have := waitN_snoc hg hv hx
    simp only [Option.getD_some]
    rw [← this]
    split <;> rfl
  · rw [List.getElem?_eq_none (by rw [decBy_len, waitsG_len]; exact hx), List.getElem?_eq_none (by rw [waitsG_len]; exact hx)]
theorem waits_start {g : List (List Int)} (hg : InG g) : (hangTo g g.length).1 = waitsG g [] := by
  apply List.ext_getElem?
  intro x
  rcases Nat.lt_or_ge x g.length with hx | hx
  · rw [(hangTo_spec hg g.length (Nat.le_refl _)).1 x hx, waitsG_get hx, if_pos hx]
    congr 2
    unfold waitN
    rw [List.filter_eq_self.2 (by simp)]
  · rw [List.getElem?_eq_none (by rw [(hangTo_len g _).1]; exact hx), List.getElem?_eq_none (by rw [waitsG_len]; exact hx)]
theorem users_row {g : List (List Int)} (hg : InG g) {v : Nat} (hv : v < g.length) : (hangTo g g.length).2[v]? = some (usersG g v) := (hangTo_spec hg g.length (Nat.le_refl _)).2 v hv
end Go.Proofs.Ytbgibbbggajgaaa
