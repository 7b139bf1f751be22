/- What devices in use want, in plain words. No walk in sight. -/
import Derived.Test.YtbgibbbggajgaaaBackP
import Derived.Test.YtbgibbbggajgaaaAllocs
namespace Go.Proofs.Ytbgibbbggajgaaa
set_option linter.all false
open Go.RowKit
/-- a clock, and what it comes from -/
def chainN (s : Soc) : Nat → Nat → List Nat
  | 0, _ => []
  | k + 1, c => match s.clocks[c]? with
    | some x => c :: (match x.src with
      | [] => []
      | f :: _ => chainN s k f.toNat)
    | none => []
def chainL (s : Soc) (c : Nat) : List Nat := chainN s s.clocks.length c
theorem chainN_in (s : Soc) : ∀ (k c : Nat), ∀ i ∈ chainN s k c, i < s.clocks.length
  | 0, c, i, h => by simp [chainN] at h
  | k + 1, c, i, h => by
    unfold chainN at h
    cases hc : s.clocks[c]? with
    | none => rw [hc] at h; simp at h
    | some x =>
      rw [hc] at h
      dsimp only at h
      have hlt := (List.getElem?_eq_some_iff.1 hc).1
      cases hs : x.src with
      | nil => rw [hs] at h; simp at h; omega
      | cons f fs =>
        rw [hs] at h
        rcases List.mem_cons.1 h with rfl | h
        · exact hlt
        · exact chainN_in s k _ i h
theorem chainN_len (s : Soc) : ∀ (k c : Nat), (chainN s k c).length ≤ k
  | 0, c => by simp [chainN]
  | k + 1, c => by
    unfold chainN
    split
    · rename_i x hx
      split
      · simp
      · rename_i f fs hs
        have := chainN_len s k f.toNat
        simp only [List.length_cons]
        omega
    · simp
theorem chainN_cons {s : Soc} {k c : Nat} {x : Clk} (h : s.clocks[c]? = some x) : chainN s (k + 1) c = c :: (match x.src with
      | [] => []
      | f :: _ => chainN s k f.toNat) := by
  show (match s.clocks[c]? with | some x => _ | none => _) = _
  rw [h]
/-- a domain, and those above it -/
def upsN (s : Soc) : Nat → Nat → List Nat
  | 0, _ => []
  | k + 1, d => match s.domains[d]? with
    | some x => d :: (if x.above = -1 then [] else upsN s k x.above.toNat)
    | none => []
def ups (s : Soc) (d : Nat) : List Nat := upsN s (d + 1) d
def UpsR (s : Soc) : Int → List Nat → Prop
  | d, [] => d = -1
  | d, i :: r => d = (i : Int) ∧ ∃ x, s.domains[i]? = some x ∧ UpsR s x.above r
theorem upsN_R {s : Soc} (hm : s.made) : ∀ (k d : Nat), d < k → d < s.domains.length → UpsR s d (upsN s k d)
  | k + 1, d, hk, hd => by
    have hx : s.domains[d]? = some (s.domains[d]'hd) := List.getElem?_eq_getElem _
    have hf := (hm.domains d _ hx).1
    show UpsR s d (match s.domains[d]? with | some x => d :: (if x.above = -1 then [] else upsN s k x.above.toNat) | none => [])
    rw [hx]
    refine ⟨rfl, _, hx, ?_⟩
    by_cases h1 : (s.domains[d]'hd).above = -1
    · rw [if_pos h1]; exact h1
    · rw [if_neg h1]
      have h2 : ((s.domains[d]'hd).above.toNat : Int) = (s.domains[d]'hd).above := by omega
      have := upsN_R hm k (s.domains[d]'hd).above.toNat (by omega) (by omega)
      rwa [h2] at this
theorem ups_R {s : Soc} (hm : s.made) {d : Nat} (hd : d < s.domains.length) : UpsR s d (ups s d) := upsN_R hm _ _ (by omega) hd
theorem UpsR.in_ {s : Soc} : ∀ {l : List Nat} {d : Int}, UpsR s d l → ∀ i ∈ l, i < s.domains.length
  | [], _, _, i, h => by cases h
  | j :: l, _, ⟨_, x, hx, hr⟩, i, h => by
    rcases List.mem_cons.1 h with rfl | h
    · exact (List.getElem?_eq_some_iff.1 hx).1
    · exact hr.in_ i h
/-- what is above one of the row is of the row -/
theorem UpsR.up {s : Soc} : ∀ {l : List Nat} {d : Int}, UpsR s d l → ∀ i ∈ l, ∀ x, s.domains[i]? = some x → 0 ≤ x.above → x.above.toNat ∈ l
  | [], _, _, i, h, _, _, _ => by cases h
  | j :: l, _, ⟨_, y, hy, hr⟩, i, h, x, hx, h0 => by
    rcases List.mem_cons.1 h with rfl | h
    · rw [hy] at hx
      cases hx
      cases l with
      | nil => have h2 : y.above = -1 := hr; omega
      | cons k l =>
        have h2 : y.above = (k : Int) := hr.1
        rw [h2]
        simp
    · exact List.mem_cons_of_mem _ (hr.up i h x hx h0)
theorem UpsR.head {s : Soc} {d : Nat} {l : List Nat} (h : UpsR s (d : Int) l) : d ∈ l := by
  cases l with
  | nil => have h2 : (d : Int) = -1 := h; omega
  | cons i r => have h2 : (d : Int) = (i : Int) := h.1; rw [show d = i by omega]; simp
/-- all of these on -/
def putAll (ids : List Nat) (l : List Bool) : List Bool := ids.foldl (fun d (i : Nat) => putB d (i : Int) true) l
theorem putAll_len (ids : List Nat) (l : List Bool) : (putAll ids l).length = l.length := by
  unfold putAll
  induction ids generalizing l with
  | nil => rfl
  | cons i ids ih => rw [List.foldl_cons, ih, putB_len]
theorem putAll_get (ids : List Nat) (l : List Bool) (j : Nat) (hj : j < l.length) : (putAll ids l)[j]?.getD false = (decide (j ∈ ids) || l[j]?.getD false) := by
  unfold putAll
  rw [putB_fold, List.getElem?_eq_getElem hj]
  by_cases h : j ∈ ids <;> simp [h]
def swK (s : Soc) (i : Nat) : Bool := match s.clocks[i]? with
  | some c => decide (c.kind = 112 ∨ c.kind = 103)
  | none => false
def zeroW (s : Soc) : Wsh := ⟨List.replicate s.domains.length false, List.replicate s.clocks.length false, List.replicate s.resets.length false⟩
def wantStep (s : Soc) (w : Wsh) (x : Dev) : Wsh := ⟨putAll (ups s x.domain.toNat) w.d, putAll ((chainL s x.clock.toNat).filter (swK s)) w.c, putB w.l x.reset true⟩
def wantN (s : Soc) (act : List Bool) : Nat → Wsh
  | 0 => zeroW s
  | j + 1 => if hasB act j then (match s.devs[j]? with
    | some x => wantStep s (wantN s act j) x
    | none => wantN s act j) else wantN s act j
def wants (s : Soc) (act : List Bool) : Wsh := wantN s act s.devs.length
theorem wantN_of (s : Soc) (act : List Bool) : ∀ j, (wantN s act j).of s
  | 0 => ⟨by simp [wantN, zeroW], by simp [wantN, zeroW], by simp [wantN, zeroW]⟩
  | j + 1 => by
    have ih := wantN_of s act j
    unfold wantN
    split
    · split
      · exact ⟨by rw [wantStep, putAll_len]; exact ih.d, by rw [wantStep, putAll_len]; exact ih.c, by rw [wantStep, putB_len]; exact ih.l⟩
      · exact ih
    · exact ih
theorem wantN_next {s : Soc} {act : List Bool} {j : Nat} {x : Dev} (hx : s.devs[j]? = some x) (ha : hasB act j = true) : wantN s act (j + 1) = wantStep s (wantN s act j) x := by
  show (if hasB act j then _ else _) = _
  rw [if_pos ha, hx]
theorem wantN_skip {s : Soc} {act : List Bool} {j : Nat} (ha : hasB act j = false) : wantN s act (j + 1) = wantN s act j := by
  show (if hasB act j then _ else _) = _
  rw [if_neg (by rw [ha]; decide)]
theorem Wsh.of.sm {x : Wsh} {s : Soc} (h : x.of s) (hm : s.made) : x.sm := by
  have h1 := hm.nc; have h2 := hm.nd; have h3 := hm.nr
  exact ⟨by rw [h.d]; omega, by rw [h.c]; omega, by rw [h.l]; omega⟩
end Go.Proofs.Ytbgibbbggajgaaa
