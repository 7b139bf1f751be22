/- What devices in use want: more want no less, a domain wants all above it. No walk in sight. -/
import Derived.Test.YtbgibbbggajgaaaWantsP
namespace Go.Proofs.Ytbgibbbggajgaaa
set_option linter.all false
open Go.RowKit
theorem wantN_d {s : Soc} {act : List Bool} (i : Nat) (hi : i < s.domains.length) : ∀ n, (wantN s act n).d[i]?.getD false = true ↔ ∃ j, j < n ∧ hasB act j = true ∧ ∃ x, s.devs[j]? = some x ∧ i ∈ ups s x.domain.toNat
  | 0 => by simp [wantN, zeroW, hi]
  | n + 1 => by
    have ih := wantN_d (act := act) i hi n
    have hl := (wantN_of s act n).d
    cases ha : hasB act n with
    | false =>
      rw [wantN_skip ha, ih]
      constructor
      · rintro ⟨j, h1, h2⟩; exact ⟨j, by omega, h2⟩
      · rintro ⟨j, h1, h2, h3⟩
        rcases Nat.lt_or_ge j n with h | h
        · exact ⟨j, h, h2, h3⟩
        · have : j = n := by omega
          subst this
          rw [ha] at h2; cases h2
    | true =>
      cases hx : s.devs[n]? with
      | none =>
        have e : wantN s act (n + 1) = wantN s act n := by
          show (if hasB act n then _ else _) = _
          rw [if_pos ha, hx]
        rw [e, ih]
        constructor
        · rintro ⟨j, h1, h2⟩; exact ⟨j, by omega, h2⟩
        · rintro ⟨j, h1, h2, x, h3, h4⟩
          rcases Nat.lt_or_ge j n with h | h
          · exact ⟨j, h, h2, x, h3, h4⟩
          · have : j = n := by omega
            subst this
            rw [hx] at h3; cases h3
      | some x =>
        rw [wantN_next hx ha]
        show (putAll (ups s x.domain.toNat) (wantN s act n).d)[i]?.getD false = true ↔ _
        rw [putAll_get _ _ _ (by omega), Bool.or_eq_true, decide_eq_true_eq, ih]
        constructor
        · rintro (h | ⟨j, h1, h2⟩)
          · exact ⟨n, by omega, ha, x, hx, h⟩
          · exact ⟨j, by omega, h2⟩
        · rintro ⟨j, h1, h2, y, h3, h4⟩
          rcases Nat.lt_or_ge j n with h | h
          · exact .inr ⟨j, h, h2, y, h3, h4⟩
          · have : j = n := by omega
            subst this
            rw [hx] at h3; cases h3
            exact .inl h4
theorem wantN_c {s : Soc} {act : List Bool} (i : Nat) (hi : i < s.clocks.length) : ∀ n, (wantN s act n).c[i]?.getD false = true ↔ ∃ j, j < n ∧ hasB act j = true ∧ ∃ x, s.devs[j]? = some x ∧ i ∈ (chainL s x.clock.toNat).filter (swK s)
  | 0 => by simp [wantN, zeroW, hi]
  | n + 1 => by
    have ih := wantN_c (act := act) i hi n
    have hl := (wantN_of s act n).c
    cases ha : hasB act n with
    | false =>
      rw [wantN_skip ha, ih]
      constructor
      · rintro ⟨j, h1, h2⟩; exact ⟨j, by omega, h2⟩
      · rintro ⟨j, h1, h2, h3⟩
        rcases Nat.lt_or_ge j n with h | h
        · exact ⟨j, h, h2, h3⟩
        · have : j = n := by omega
          subst this
          rw [ha] at h2; cases h2
    | true =>
      cases hx : s.devs[n]? with
      | none =>
        have e : wantN s act (n + 1) = wantN s act n := by
          show (if hasB act n then _ else _) = _
          rw [if_pos ha, hx]
        rw [e, ih]
        constructor
        · rintro ⟨j, h1, h2⟩; exact ⟨j, by omega, h2⟩
        · rintro ⟨j, h1, h2, x, h3, h4⟩
          rcases Nat.lt_or_ge j n with h | h
          · exact ⟨j, h, h2, x, h3, h4⟩
          · have : j = n := by omega
            subst this
            rw [hx] at h3; cases h3
      | some x =>
        rw [wantN_next hx ha]
        show (putAll ((chainL s x.clock.toNat).filter (swK s)) (wantN s act n).c)[i]?.getD false = true ↔ _
        rw [putAll_get _ _ _ (by omega), Bool.or_eq_true, decide_eq_true_eq, ih]
        constructor
        · rintro (h | ⟨j, h1, h2⟩)
          · exact ⟨n, by omega, ha, x, hx, h⟩
          · exact ⟨j, by omega, h2⟩
        · rintro ⟨j, h1, h2, y, h3, h4⟩
          rcases Nat.lt_or_ge j n with h | h
          · exact .inr ⟨j, h, h2, y, h3, h4⟩
          · have : j = n := by omega
            subst this
            rw [hx] at h3; cases h3
            exact .inl h4
theorem wantN_l {s : Soc} {act : List Bool} (i : Nat) {j : Nat} {x : Dev} (hi : i < s.resets.length) (hx : s.devs[j]? = some x) (ha : hasB act j = true) (hr : x.reset = (i : Int)) : ∀ n, j < n → (wantN s act n).l[i]?.getD false = true
  | n + 1, hj => by
    have hl := (wantN_of s act n).l
    by_cases hjn : j = n
    · subst hjn
      rw [wantN_next hx ha]
      show (putB (wantN s act j).l x.reset true)[i]?.getD false = true
      rw [hr, putB_get, if_pos rfl, List.getElem?_eq_getElem (by omega)]
      rfl
    · have ih := wantN_l i hi hx ha hr n (by omega)
      cases ha2 : hasB act n with
      | false => rw [wantN_skip ha2]; exact ih
      | true =>
        cases hy : s.devs[n]? with
        | none =>
          have e : wantN s act (n + 1) = wantN s act n := by
            show (if hasB act n then _ else _) = _
            rw [if_pos ha2, hy]
          rw [e]; exact ih
        | some y =>
          rw [wantN_next hy ha2]
          show (putB (wantN s act n).l y.reset true)[i]?.getD false = true
          unfold putB
          rw [List.getElem?_set]
          split
          · split <;> simp
            omega
          · exact ih
theorem wants_mono_d {s : Soc} {a b : List Bool} (hab : ∀ j, hasB a j = true → hasB b j = true) {i : Nat} (hi : i < s.domains.length) (h : (wants s a).d[i]?.getD false = true) : (wants s b).d[i]?.getD false = true := by
  obtain ⟨j, h1, h2, h3⟩ := (wantN_d i hi _).1 h
  exact (wantN_d i hi _).2 ⟨j, h1, hab j h2, h3⟩
theorem wants_mono_c {s : Soc} {a b : List Bool} (hab : ∀ j, hasB a j = true → hasB b j = true) {i : Nat} (hi : i < s.clocks.length) (h : (wants s a).c[i]?.getD false = true) : (wants s b).c[i]?.getD false = true := by
  obtain ⟨j, h1, h2, h3⟩ := (wantN_c i hi _).1 h
  exact (wantN_c i hi _).2 ⟨j, h1, hab j h2, h3⟩
theorem wants_up {s : Soc} (hm : s.made) {a : List Bool} {i : Nat} {dm : Dom} (hd : s.domains[i]? = some dm) (h : (wants s a).d[i]?.getD false = true) (h0 : 0 ≤ dm.above) : (wants s a).d[dm.above.toNat]?.getD false = true := by
  have hi := (List.getElem?_eq_some_iff.1 hd).1
  have hf := (hm.domains i dm hd).1
  obtain ⟨j, h1, h2, x, h3, h4⟩ := (wantN_d i hi _).1 h
  obtain ⟨_, _, d0, d1, _⟩ := hm.devs j x h3
  have hu : UpsR s (x.domain.toNat : Int) (ups s x.domain.toNat) := ups_R hm (by omega)
  exact (wantN_d _ (by omega) _).2 ⟨j, h1, h2, x, h3, hu.up i h4 dm hd h0⟩
theorem wants_kind {s : Soc} {a : List Bool} {i : Nat} {c : Clk} (hc : s.clocks[i]? = some c) (h : (wants s a).c[i]?.getD false = true) : c.kind = 112 ∨ c.kind = 103 := by
  have hi := (List.getElem?_eq_some_iff.1 hc).1
  obtain ⟨j, h1, h2, x, h3, h4⟩ := (wantN_c i hi _).1 h
  have := (List.mem_filter.1 h4).2
  unfold swK at this
  rw [hc] at this
  exact of_decide_eq_true this
theorem wants_dev {s : Soc} (hm : s.made) {a : List Bool} {j : Nat} {x : Dev} (hx : s.devs[j]? = some x) (ha : hasB a j = true) :
    (wants s a).d[x.domain.toNat]?.getD false = true ∧ (wants s a).l[x.reset.toNat]?.getD false = true ∧ ∀ c, s.clocks[x.clock.toNat]? = some c → (c.kind = 112 ∨ c.kind = 103) → (wants s a).c[x.clock.toNat]?.getD false = true := by
  have hj := (List.getElem?_eq_some_iff.1 hx).1
  obtain ⟨c0, c1, d0, d1, r0, r1, _⟩ := hm.devs j x hx
  have hu : UpsR s (x.domain.toNat : Int) (ups s x.domain.toNat) := ups_R hm (by omega)
  refine ⟨(wantN_d _ (by omega) _).2 ⟨j, hj, ha, x, hx, hu.head⟩, wantN_l _ (by omega) hx ha (by omega) _ hj, fun c hc hk => (wantN_c _ (List.getElem?_eq_some_iff.1 hc).1 _).2 ⟨j, hj, ha, x, hx, List.mem_filter.2 ⟨?_, ?_⟩⟩⟩
  · unfold chainL
    obtain ⟨n, hn⟩ : ∃ n, s.clocks.length = n + 1 := ⟨s.clocks.length - 1, by have := hm.nc; omega⟩
    rw [hn, chainN_cons hc]
    simp
  · unfold swK
    rw [hc]
    exact decide_eq_true hk
theorem wants_none (s : Soc) : wants s [] = zeroW s := by
  have : ∀ n, wantN s [] n = zeroW s := fun n => by
    induction n with
    | zero => rfl
    | succ n ih => rw [wantN_skip (by simp [hasB]), ih]
  exact this _
/-! bits -/
def or64 (x y : Int) : Int := IntKind.i64.wrap (BitVec.ofInt 64 x ||| BitVec.ofInt 64 y).toNat
theorem wrap_toInt (v : BitVec 64) : IntKind.i64.wrap v.toNat = v.toInt := by
  rw [IntKind.wrap_i64, BitVec.toInt_eq_toNat_cond]
  have := v.isLt
  split <;> omega
theorem bit_of (v : BitVec 64) {k : Nat} (hk : k < 30) : decide (and64 (v.toInt.fdiv (2 ^ k)) 1 = 1) = v.getLsbD k := by
  have h1 : v.toInt.fdiv (2 ^ k) = (v.sshiftRight k).toInt := by
    rw [BitVec.toInt_sshiftRight, Int.shiftRight_eq_div_pow, Int.fdiv_eq_ediv_of_nonneg]
    · norm_cast
    · exact Int.le_of_lt (Int.pow_pos (by decide))
  have h2 : and64 (v.toInt.fdiv (2 ^ k)) 1 = (((v.sshiftRight k).toNat % 2 : Nat) : Int) := by
    unfold and64
    rw [h1, BitVec.ofInt_toInt, show BitVec.ofInt 64 1 = 1#64 from rfl, wrap_toInt]
    have e : ((v.sshiftRight k) &&& 1#64).toNat = (v.sshiftRight k).toNat % 2 := by
      rw [BitVec.toNat_and]
      exact Nat.and_one_is_mod _
    rw [BitVec.toInt_eq_toNat_cond, e]
    split <;> omega
  have h3 : v.getLsbD k = (v.sshiftRight k).getLsbD 0 := by
    rw [BitVec.getLsbD_sshiftRight]
    simp
    omega
  rw [h2, h3, BitVec.getLsbD, Nat.testBit_zero]
  congr 1
  apply propext
  omega
theorem bitB_or {a b : Int} (ha : -9223372036854775808 ≤ a ∧ a ≤ 9223372036854775807) {i : Nat} (h : bitB a i = true) : bitB (or64 a b) i = true := by
  have hk : i % 30 < 30 := Nat.mod_lt _ (by decide)
  have e1 : (BitVec.ofInt 64 a).toInt = a := by
    rw [BitVec.toInt_ofInt]
    simp only [Int.bmod_def, show ((2 ^ 64 : Nat) : Int) = 18446744073709551616 from rfl]
    split <;> omega
  unfold bitB at h ⊢
  rw [← e1, bit_of _ hk] at h
  unfold or64
  rw [wrap_toInt, bit_of _ hk, BitVec.getLsbD_or, h]
  rfl
theorem bits_or {n : Nat} {a b : Int} (ha : -9223372036854775808 ≤ a ∧ a ≤ 9223372036854775807) (j : Nat) (h : hasB (bitsL n a) j = true) : hasB (bitsL n (or64 a b)) j = true := by
  unfold hasB bitsL at h ⊢
  rw [List.getElem?_map] at h ⊢
  cases hj : (List.range n)[j]? with
  | none => rw [hj] at h; cases h
  | some i =>
    rw [hj] at h
    simp only [Option.map_some, Option.getD_some] at h ⊢
    exact bitB_or ha h
end Go.Proofs.Ytbgibbbggajgaaa
