/- The reference's counts and the program's tell the same. No walk in sight. -/
import Derived.RegionIn
import Derived.Shelf.RegionOpen
import Derived.Test.YtbgibbbggajgaaaGreatAuditTellsK4
namespace Go.Proofs.YtbgibbbggajgaaaGreat
set_option linter.all false
open Go.RowKit
theorem getC_setC : ∀ (l : List (Int × Int)) (k v j : Int), getC (setC l k v) j = if j = k then v else getC l j
  | [], k, v, j => by
    by_cases h : j = k
    · subst h; simp [getC, setC]
    · rw [if_neg h]
      have h2 : ¬ k = j := fun e => h e.symm
      simp [getC, setC, h2]
  | (a, b) :: l, k, v, j => by
    have ih := getC_setC l k v j
    unfold setC
    by_cases hak : a = k
    · subst hak
      rw [if_pos rfl]
      by_cases h : j = a
      · subst h; simp [getC]
      · have h2 : ¬ a = j := fun e => h e.symm
        simp [getC, h, h2]
    · rw [if_neg hak]
      by_cases haj : a = j
      · subst haj
        rw [if_neg hak]
        simp [getC]
      · have e1 : ∀ m, getC ((a, b) :: m) j = getC m j := fun m => by simp [getC, haj]
        rw [e1, e1, ih]
/-- the counts are the same -/
structure SimC (nd : Nat) (c : Cn) (r : Rn) : Prop where
  a : r.a = c.asl
  len : r.n.length = nd
  at_ : ∀ d : Nat, d < nd → rAt r.n d = getC c.l d ∧ 0 ≤ rAt r.n d ∧ rAt r.n d ≤ 7
theorem rAt_set {l : List Int} {d j : Nat} {v : Int} (hd : d < l.length) : rAt (l.set d v) j = if j = d then v else rAt l j := by
  unfold rAt
  rw [Int.toNat_natCast, List.getElem?_set]
  by_cases h : d = j
  · subst h; simp [hd]
  · rw [if_neg h, if_neg (fun e => h e.symm)]
theorem wrap_small {v : Int} (h0 : 0 ≤ v) (h1 : v ≤ 100) : IntKind.i64.wrap v = v := wrap_in (by omega)
section
variable {nd : Nat} {c : Cn} {r : Rn}
theorem SimC.get (h : SimC nd c r) (dev : Int) : (rget r dev).1 = (cget nd c dev).1 ∧ SimC nd (cget nd c dev).2 (rget r dev).2 := by
  unfold rget cget
  rw [h.a, h.len]
  by_cases ha : c.asl = true
  · rw [if_pos ha, if_pos ha]; exact ⟨rfl, h⟩
  · rw [if_neg ha, if_neg ha]
    by_cases hk : dev < 0 ∨ (nd : Int) ≤ dev
    · rw [if_pos hk, if_pos (show ¬ (0 ≤ dev ∧ dev < (nd : Int)) by omega)]; exact ⟨rfl, h⟩
    · rw [if_neg hk, if_neg (show ¬ ¬ (0 ≤ dev ∧ dev < (nd : Int)) by omega)]
      obtain ⟨dk, rfl⟩ : ∃ dk : Nat, dev = (dk : Int) := ⟨dev.toNat, by omega⟩
      obtain ⟨e1, e2, e3⟩ := h.at_ dk (by omega)
      rw [e1]
      by_cases h7 : 7 ≤ getC c.l dk
      · rw [if_pos h7, if_pos h7]; exact ⟨rfl, h⟩
      · rw [if_neg h7, if_neg h7]
        refine ⟨rfl, rfl, by simpa using h.len, fun d hd => ?_⟩
        have hw : IntKind.i64.wrap (getC c.l dk + 1) = getC c.l dk + 1 := wrap_small (by omega) (by omega)
        simp only [Int.toNat_natCast, hw]
        rw [rAt_set (by rw [h.len]; omega), getC_setC]
        by_cases hdd : d = dk
        · subst hdd; rw [if_pos rfl, if_pos rfl]; omega
        · rw [if_neg hdd, if_neg (by omega)]; exact h.at_ d hd
theorem SimC.put (h : SimC nd c r) (dev : Int) : (rput r dev).1 = (cput nd c dev).1 ∧ SimC nd (cput nd c dev).2 (rput r dev).2 := by
  unfold rput cput
  rw [h.a, h.len]
  by_cases ha : c.asl = true
  · rw [if_pos ha, if_pos ha]; exact ⟨rfl, h⟩
  · rw [if_neg ha, if_neg ha]
    by_cases hk : dev < 0 ∨ (nd : Int) ≤ dev
    · rw [if_pos hk, if_pos (show ¬ (0 ≤ dev ∧ dev < (nd : Int)) by omega)]; exact ⟨rfl, h⟩
    · rw [if_neg hk, if_neg (show ¬ ¬ (0 ≤ dev ∧ dev < (nd : Int)) by omega)]
      obtain ⟨dk, rfl⟩ : ∃ dk : Nat, dev = (dk : Int) := ⟨dev.toNat, by omega⟩
      obtain ⟨e1, e2, e3⟩ := h.at_ dk (by omega)
      rw [e1] at e2 e3
      rw [e1]
      by_cases h7 : getC c.l dk = 0
      · rw [if_pos h7, if_pos (by omega)]; exact ⟨rfl, h⟩
      · rw [if_neg h7, if_neg (by omega)]
        refine ⟨rfl, rfl, by simpa using h.len, fun d hd => ?_⟩
        have hw : IntKind.i64.wrap (getC c.l dk - 1) = getC c.l dk - 1 := wrap_small (by omega) (by omega)
        simp only [Int.toNat_natCast, hw]
        rw [rAt_set (by rw [h.len]; omega), getC_setC]
        by_cases hdd : d = dk
        · subst hdd; rw [if_pos rfl, if_pos rfl]; omega
        · rw [if_neg hdd, if_neg (by omega)]; exact h.at_ d hd
theorem SimC.sus (h : SimC nd c r) : (rsus r).1 = (csus c).1 ∧ SimC nd (csus c).2 (rsus r).2 := by
  unfold rsus csus
  rw [h.a]
  by_cases ha : c.asl = true
  · rw [if_pos ha, if_pos ha]; exact ⟨rfl, h⟩
  · rw [if_neg ha, if_neg ha]; exact ⟨rfl, rfl, h.len, h.at_⟩
theorem SimC.res (h : SimC nd c r) : (rres r).1 = (cres c).1 ∧ SimC nd (cres c).2 (rres r).2 := by
  unfold rres cres
  rw [h.a]
  by_cases ha : c.asl = true
  · rw [if_pos ha, if_pos ha]; exact ⟨rfl, rfl, h.len, h.at_⟩
  · rw [if_neg ha, if_neg ha]; exact ⟨rfl, h⟩
end
/-- .. and what is held -/
structure Sim (nd : Nat) (x : Crs) (r : Rn) (hs : List (List Int)) : Prop where
  c : SimC nd x.c r
  len : hs.length = 3
  hl : x.h.length = 18
  row : ∀ (t : Nat) (l : List Int), hs[t]? = some l → l.length = nd ∧ ∀ d : Nat, d < nd → rAt l d = hAt x.h t d
theorem hAt_set {h : List Int} {t d t' d' : Nat} {v : Int} (hl : h.length = 18) (ht : t < 3) (hd : d < 6) (hd' : d' < 6) : hAt (h.set (t * 6 + d) v) t' d' = if t' = t ∧ d' = d then v else hAt h t' d' := by
  unfold hAt
  rw [List.getElem?_set]
  by_cases h1 : t * 6 + d = t' * 6 + d'
  · have h2 : t' = t ∧ d' = d := by omega
    rw [if_pos h1, if_pos h2, if_pos (by omega)]; rfl
  · rw [if_neg h1, if_neg (by omega)]
theorem Sim.turn {nd : Nat} {x : Crs} {r : Rn} {hs : List (List Int)} (h : Sim nd x r hs) (hnd : nd ≤ 6) {t d : Nat} {l : List Int} (ht : hs[t]? = some l) (hd : d < nd) {c' : Cn} {r' : Rn} (hc : SimC nd c' r') (v : Int) :
    Sim nd ⟨c', x.h.set (t * 6 + d) v⟩ r' (hs.set t (l.set d v)) := by
  have ht3 : t < 3 := by rw [← h.len]; exact (List.getElem?_eq_some_iff.1 ht).1
  obtain ⟨hll, hla⟩ := h.row t l ht
  refine ⟨hc, by simpa using h.len, by simpa using h.hl, fun t' l' hl' => ?_⟩
  rw [List.getElem?_set] at hl'
  by_cases htt : t = t'
  · subst htt
    rw [if_pos rfl, if_pos (by rw [h.len]; exact ht3)] at hl'
    cases hl'
    refine ⟨by simpa using hll, fun d' hd' => ?_⟩
    rw [rAt_set (by omega), hAt_set h.hl ht3 (by omega) (by omega)]
    by_cases hdd : d' = d
    · subst hdd; simp
    · rw [if_neg hdd, if_neg (fun e => hdd e.2)]; exact hla d' hd'
  · rw [if_neg htt] at hl'
    obtain ⟨h1, h2⟩ := h.row t' l' hl'
    refine ⟨h1, fun d' hd' => ?_⟩
    rw [hAt_set h.hl ht3 (by omega) (by omega), if_neg (fun e => htt e.1.symm)]
    exact h2 d' hd'
theorem set_same {α : Type} {l : List α} {i : Nat} {x : α} (h : l[i]? = some x) : l.set i x = l := by
  obtain ⟨h1, h2⟩ := List.getElem?_eq_some_iff.1 h
  rw [← h2]; exact List.set_getElem_self h1
theorem Sim.cnt {nd : Nat} {x : Crs} {r : Rn} {hs : List (List Int)} (h : Sim nd x r hs) {c' : Cn} {r' : Rn} (hc : SimC nd c' r') : Sim nd ⟨c', x.h⟩ r' hs := ⟨hc, h.len, h.hl, h.row⟩
theorem Sim.eff {devs : List Dev} {x : Crs} {r : Rn} {hs : List (List Int)} (h : Sim devs.length x r hs) (hnd : devs.length ≤ 6) {t : Nat} {l : List Int} (ht : hs[t]? = some l) (ck dev reg : Int) :
    (rEff devs r l ck dev reg).1 = (effF devs x t ck dev reg).1 ∧ Sim devs.length (effF devs x t ck dev reg).2 (rEff devs r l ck dev reg).2.1 (hs.set t (rEff devs r l ck dev reg).2.2) := by
  obtain ⟨hll, hla⟩ := h.row t l ht
  unfold rEff effF
  by_cases h103 : ck = 103
  · rw [if_pos h103, if_pos h103]
    obtain ⟨g1, g2⟩ := h.c.get dev
    refine ⟨g1, ?_⟩
    dsimp only
    rw [g1]
    by_cases h0 : (cget devs.length x.c dev).1 = 0
    · rw [if_pos h0, if_pos h0]
      have hk := cget_known h0
      obtain ⟨dk, rfl⟩ : ∃ dk : Nat, dev = (dk : Int) := ⟨dev.toNat, by omega⟩
      rw [Int.toNat_natCast, hla dk (by omega)]
      exact h.turn hnd ht (by omega) g2 _
    · rw [if_neg h0, if_neg h0, set_same ht]; exact h.cnt g2
  rw [if_neg h103, if_neg h103]
  by_cases h112 : ck = 112
  · rw [if_neg (show ¬ ck = 115 by omega), if_neg (show ¬ ck = 109 by omega), if_pos h112, if_pos h112]
    by_cases hk : 0 ≤ dev ∧ dev < (devs.length : Int)
    · have hk' : ¬ ¬ (0 ≤ dev ∧ dev < (devs.length : Int)) := fun h => h hk
      rw [if_neg hk', if_neg hk']
      obtain ⟨dk, rfl⟩ : ∃ dk : Nat, dev = (dk : Int) := ⟨dev.toNat, by omega⟩
      rw [Int.toNat_natCast, hla dk (by omega)]
      by_cases hz : hAt x.h t dk = 0
      · rw [if_pos hz, if_pos hz, set_same ht]; exact ⟨rfl, h⟩
      · rw [if_neg hz, if_neg hz]
        obtain ⟨g1, g2⟩ := h.c.put dk
        refine ⟨g1, ?_⟩
        dsimp only
        rw [g1]
        by_cases h0 : (cput devs.length x.c dk).1 = 0
        · rw [if_pos h0, if_pos h0]; exact h.turn hnd ht (by omega) g2 _
        · rw [if_neg h0, if_neg h0, set_same ht]; exact h.cnt g2
    · rw [if_pos hk, if_pos hk, set_same ht]; exact ⟨rfl, h⟩
  rw [if_neg h112, if_neg h112]
  by_cases h115 : ck = 115
  · rw [if_pos h115, if_pos h115]
    obtain ⟨g1, g2⟩ := h.c.sus
    dsimp only
    rw [set_same ht]
    exact ⟨g1, h.cnt g2⟩
  rw [if_neg h115, if_neg h115]
  by_cases h109 : ck = 109
  · rw [if_pos h109, if_pos h109]
    obtain ⟨g1, g2⟩ := h.c.res
    dsimp only
    rw [set_same ht]
    exact ⟨g1, h.cnt g2⟩
  rw [if_neg h109, if_neg h109]
  by_cases hrw : ck = 114 ∨ ck = 119
  · rw [if_pos hrw, if_pos hrw]
    by_cases hk : ¬ (0 ≤ dev ∧ dev < (devs.length : Int)) ∨ reg < 0 ∨ (regsN devs dev.toNat : Int) ≤ reg
    · rw [if_pos hk, if_pos hk, set_same ht]; exact ⟨rfl, h⟩
    · rw [if_neg hk, if_neg hk]
      obtain ⟨dk, rfl⟩ : ∃ dk : Nat, dev = (dk : Int) := ⟨dev.toNat, by omega⟩
      rw [Int.toNat_natCast, hla dk (by omega), h.c.a]
      by_cases hz : hAt x.h t dk = 0 ∨ x.c.asl = true
      · rw [if_pos hz, if_pos hz, set_same ht]; exact ⟨rfl, h⟩
      · rw [if_neg hz, if_neg hz, set_same ht]; exact ⟨rfl, h⟩
  · rw [if_neg hrw, if_neg hrw, set_same ht]; exact ⟨rfl, h⟩
theorem Sim.start (nd : Nat) : Sim nd ost0.x ⟨List.replicate nd 0, false⟩ [List.replicate nd 0, List.replicate nd 0, List.replicate nd 0] := by
  have hz : ∀ d : Nat, rAt (List.replicate nd 0) d = 0 := fun d => by
    unfold rAt
    rw [List.getElem?_replicate]
    split <;> rfl
  have hh : ∀ t d : Nat, hAt (List.replicate 18 0) t d = 0 := fun t d => by
    unfold hAt
    rw [List.getElem?_replicate]
    split <;> rfl
  refine ⟨⟨rfl, by simp, fun d hd => ?_⟩, rfl, rfl, fun t l hl => ?_⟩
  · rw [hz]; exact ⟨rfl, by decide, by decide⟩
  · have hlr : l = List.replicate nd 0 := by
      rcases t with _ | _ | _ | t
      · simpa using hl.symm
      · simpa using hl.symm
      · simpa using hl.symm
      · simp at hl
    subst hlr
    refine ⟨by simp, fun d hd => ?_⟩
    rw [hz]
    exact (hh t d).symm
/-- how many of the first k events count -/
def sc (evs : List Ev) (k : Nat) : Nat := ((List.range k).filter (selI evs)).length
theorem sc_next (evs : List Ev) (k : Nat) : sc evs (k + 1) = sc evs k + if selI evs k = true then 1 else 0 := by
  unfold sc
  rw [List.range_succ, List.filter_append, List.length_append]
  congr 1
  by_cases h : selI evs k = true <;> simp [h]
theorem selIds_at {evs : List Ev} {i : Nat} (hi : i < evs.length) (hs : selI evs i = true) : (selIds evs)[sc evs i]? = some i := by
  obtain ⟨m, hm⟩ : ∃ m, evs.length = i + (m + 1) := ⟨evs.length - i - 1, by omega⟩
  unfold selIds sc
  rw [hm, List.range_add, List.filter_append, List.getElem?_append_right (Nat.le_refl _), Nat.sub_self, List.range_succ_eq_map, List.map_cons, Nat.add_zero, List.filter_cons_of_pos hs]
  rfl
theorem sc_all (evs : List Ev) : sc evs evs.length = (selIds evs).length := rfl
theorem selI_at {evs : List Ev} {i : Nat} {x : Ev} (hx : evs[i]? = some x) : selI evs i = sel x := by unfold selI; rw [hx]; rfl
theorem selE_sc {evs : List Ev} {i : Nat} {x : Ev} (hx : evs[i]? = some x) (hs : sel x = true) : (selE evs)[sc evs i]? = some x := by
  have hsi : selI evs i = true := by rw [selI_at hx]; exact hs
  obtain ⟨y, h1, h2, _⟩ := selE_get (selIds_at (List.getElem?_eq_some_iff.1 hx).1 hsi)
  rw [h2, ← h1, hx]
end Go.Proofs.YtbgibbbggajgaaaGreat
/- Replies, walked: messages and answers, one behind the other. -/
namespace Go.Proofs.YtbgibbbggajgaaaGreat
set_option linter.all false
open Go.RowKit Go.Shelf
attribute [local go_sem] Oper.semAt_some
/-- messages and answers: is one on its way, and its first word; none: what comes is wrong -/
def repStep (st : Bool × Int) (e : Ev) : Option (Bool × Int) :=
  if e.kind = 115 then (if st.1 then none else some (true, e.ws.headD 0))
  else if e.kind = 114 then (if st.1 = true ∧ e.ws.length ≠ 0 ∧ e.ws.headD 0 = st.2 then some (false, st.2) else none)
  else some st
def repG (st : Bool × Int) : List Ev → Nat → Int
  | [], _ => -1
  | e :: r, k => match repStep st e with
    | none => k
    | some st' => repG st' r (k + 1)
def repliesF (evs : List Ev) : Int := repG (false, 0) evs 0
def repRun (st : Bool × Int) : List Ev → Option (Bool × Int)
  | [] => some st
  | e :: r => match repStep st e with
    | none => none
    | some st' => repRun st' r
theorem repRun_snoc (st : Bool × Int) (l : List Ev) (e : Ev) : repRun st (l ++ [e]) = (repRun st l).bind (repStep · e) := by
  induction l generalizing st with
  | nil => simp only [List.nil_append, repRun]; cases h : repStep st e <;> simp [repRun, h]
  | cons x l ih =>
    simp only [List.cons_append, repRun]
    cases h : repStep st x with
    | none => simp
    | some st' => simpa using ih st'
theorem repG_all {st st' : Bool × Int} {l : List Ev} {k : Nat} (h : repRun st l = some st') : repG st l k = -1 := by
  induction l generalizing st k with
  | nil => rfl
  | cons x l ih =>
    simp only [repRun] at h
    simp only [repG]
    cases hs : repStep st x with
    | none => rw [hs] at h; cases h
    | some st2 => rw [hs] at h; exact ih h
theorem repG_at {st st' : Bool × Int} {l r : List Ev} {e : Ev} {k : Nat} (h : repRun st l = some st') (he : repStep st' e = none) : repG st (l ++ e :: r) k = ((k + l.length : Nat) : Int) := by
  induction l generalizing st k with
  | nil =>
    simp only [repRun, Option.some.injEq] at h
    subst h
    simp only [List.nil_append, repG, he]
    simp
  | cons x l ih =>
    simp only [repRun] at h
    simp only [List.cons_append, repG]
    cases hs : repStep st x with
    | none => rw [hs] at h; cases h
    | some st2 =>
      rw [hs] at h
      simp only
      rw [ih h, List.length_cons]
      congr 1
      omega

theorem evsAt_ixs (evs : List Ev) (k : Nat) : evsAt evs (ixs evs.length k) = evs.take k := by
  have h := evsAt_all evs
  unfold evsAt at h
  unfold evsAt ixs
  rw [List.map_take, h]

set_option maxRecDepth 100000 in
set_option maxHeartbeats 4000000 in
theorem replies_any (A : Option Addr) (n c : Nat) (evs : List Ev) (w : World) (h : Evs w w.heap.size A evs) (hn : n = evs.length) (hb : n ≤ 9223372036854775807) :
    Calls Tryz.prog 17 #[.slice A n c] w fun x w' => x = .returned (.int .i64 (repliesF evs)) ∧ Below w.heap.size w w' := by
  subst hn
  obtain ⟨b, off, hA, hbB, hcells⟩ := h.places
  have hws := h.2
  refine (callsIn_wide (n := 9)).1 ?_
  refine callsIn_of_wp_marks Tryz.func17 rfl trivial ?_ rfl
  simp only [Tryz.ntmps17, List.size_toArray, List.length_cons, List.length_nil, Nat.reduceAdd, Nat.reduceSub, Array.replicate_succ, Array.replicate_zero, List.push_toArray, List.append_toArray, List.nil_append, List.cons_append]
  gi_wp2_with (refine ⟨trivial, ?_⟩; gi_at_call 38; refine (callsIn_wide.2 (each_any _ _ _ _)).mono ?_; rintro e w' ⟨rfl, rfl⟩)
  have bZ := Blk.new w 3 #[.int .i64 0]
  have bT := Blk.new (w.alloc (.cells #[.int .i64 0] 3)) 4 #[.bool false]
  have bF := Blk.new ((w.alloc (.cells #[.int .i64 0] 3)).alloc (.cells #[.bool false] 4)) 32 #[.int .u32 0]
  have bN := Blk.new (((w.alloc (.cells #[.int .i64 0] 3)).alloc (.cells #[.bool false] 4)).alloc (.cells #[.int .u32 0] 32)) 23 #[.slice A evs.length c]
  simp only [World.size_alloc] at bT bF bN
  obtain ⟨W0, hW0⟩ : ∃ W0, (((w.alloc (.cells #[.int .i64 0] 3)).alloc (.cells #[.bool false] 4)).alloc (.cells #[.int .u32 0] 32)).alloc (.cells #[.slice A evs.length c] 23) = W0 := ⟨_, rfl⟩
  have hB0 : Below w.heap.size w W0 := by rw [← hW0]; exact ((((Below.refl _ w).alloc (Nat.le_refl _) _).alloc (by simp) _).alloc (by simp; omega) _).alloc (by simp; omega) _
  have hsz : W0.heap.size = w.heap.size + 1 + 1 + 1 + 1 := by rw [← hW0]; simp
  have cZ : Blk W0 w.heap.size 3 #[.int .i64 0] := by rw [← hW0]; exact ((bZ.alloc _).alloc _).alloc _
  have cT : Blk W0 (w.heap.size + 1) 4 #[.bool false] := by rw [← hW0]; exact (bT.alloc _).alloc _
  have cF : Blk W0 (w.heap.size + 1 + 1) 32 #[.int .u32 0] := by rw [← hW0]; exact bF.alloc _
  have cN : Blk W0 (w.heap.size + 1 + 1 + 1) 23 #[.slice A evs.length c] := by rw [← hW0]; exact bN
  rw [hW0]
  clear bZ bT bF bN hW0
  refine range_law (gf := 64) (lb := #[.pointer (some ⟨w.heap.size + 1 + 1 + 1, 0, none⟩)]) rfl (enters_of Tryz.func64 (by kernel_rfl) rfl)
    (each_stops (w.heap.size + 1 + 1 + 1) w.heap.size (w.heap.size + 1 + 1 + 1) (W0.heap.size + 1 + 1) (W0.heap.size + 1 + 1) b off evs.length c A hA hb W0 (Nat.le_refl _) cN) Keeps.trans (keeps_b (by omega) (by omega)) (Below.refl _ _) (fun _ => rfl)
    (fun pre W => (Blk W w.heap.size 3 #[.int .i64 0] ∧ ∃ st : Bool × Int, repRun (false, 0) (evsAt evs pre) = some st ∧ Blk W (w.heap.size + 1) 4 #[.bool st.1] ∧ Blk W (w.heap.size + 1 + 1) 32 #[.int .u32 st.2]) ∧ Below w.heap.size w W)
    (fun k pre W => (k = .ret ∧ ∃ ini x st, pre = ini ++ [x] ∧ repRun (false, 0) (evsAt evs ini) = some st ∧ repStep st evs[x] = none ∧ Blk W w.heap.size 3 #[.int .i64 (x.1 : Int)]) ∧ Below w.heap.size w W)
    (OwnFrom.and (fun s A B row hs hg hr => by
      obtain ⟨h1, st, h2, h3, h4⟩ := hs
      have hr' := fun r e => (hr r e).2
      exact ⟨(blk_own w.heap.size 3 (fun _ => #[.int .i64 0])) () A B row h1 hg hr', st, h2, (blk_own (w.heap.size + 1) 4 (fun _ => #[.bool st.1])) () A B row h3 hg hr', (blk_own (w.heap.size + 1 + 1) 32 (fun _ => #[.int .u32 st.2])) () A B row h4 hg hr'⟩) (ownFrom_below (Nat.le_refl _) (by omega)))
    (fun k => OwnFrom.and (fun s A B row hs hg hr => by
      obtain ⟨h1, ini, x, st, h2, h3, h4, h5⟩ := hs
      exact ⟨h1, ini, x, st, h2, h3, h4, (blk_own w.heap.size 3 (fun _ => #[.int .i64 (x.1 : Int)])) () A B row h5 hg (fun r e => (hr r e).2)⟩) (ownFrom_below (Nat.le_refl _) (by omega)))
    ⟨⟨cZ, (false, 0), rfl, cT, cF⟩, hB0⟩
    (fun x => { tmps := #[.slice A evs.length c, undef, .pointer (some ⟨w.heap.size, 0, none⟩), .pointer (some ⟨w.heap.size + 1, 0, none⟩), .pointer (some ⟨w.heap.size + 1 + 1, 0, none⟩), .int .i64 (x.1 : Int), .pointer (some ⟨b, off + x.1 * 14, none⟩), .slice A evs.length c, .func (.func 64) #[] #[.pointer (some ⟨w.heap.size + 1 + 1 + 1, 0, none⟩)], .int .i64 (x.1 : Int), .pointer (some ⟨b, off + x.1 * 14, none⟩), undef, undef, undef, undef, undef, undef, undef, undef, undef, undef, undef, undef, undef, undef, undef, undef, undef, undef, undef, undef, undef, undef, undef, undef, undef, undef, undef, undef, undef, undef, undef, undef, undef, undef, undef, undef, undef, undef, undef, undef, undef, undef, undef], defers := [] }) ?assign ?body ?done ?stop
  case assign =>
    intro l x W K hK
    unfold evEnc
    gi_wp2
    exact hK
  case body =>
    rintro l pre x W ⟨⟨hZ, ⟨wt, fs⟩, hst, hT, hFs⟩, hB⟩ hlen
    dsimp only at hT hFs
    have hev := hcells x
    have hw := hws evs[x] (List.getElem_mem _)
    have hbx : b < w.heap.size := hbB (by have := x.2; omega)
    obtain ⟨e, he⟩ : ∃ e, evs[x] = e := ⟨_, rfl⟩
    have hst2 : ∀ st', repStep (wt, fs) e = some st' → repRun (false, 0) (evsAt evs (pre ++ [x])) = some st' := fun st' h => by
      rw [evsAt_snoc, repRun_snoc, hst, he]
      exact h
    have hno : repStep (wt, fs) e = none → repStep (wt, fs) evs[x] = none := fun h => by rw [he]; exact h
    rw [he] at hev hw
    have hc : ∀ f u, e.cells[f]? = some u → W.cell? ⟨b, off + x.1 * 14 + f, none⟩ = some u := fun f u hu => (hB.cell (p := ⟨b, off + x.1 * 14 + f, none⟩) hbx).trans (hev f u hu)
    have h0 := hc 0 _ rfl
    have h13 := hc 13 _ rfl
    simp only [Nat.add_zero] at h0
    have z0 := hZ.cell 0
    have t0 := hT.cell 0
    have f0 := hFs.cell 0
    simp at z0 t0 f0
    have hf0 := fun i => hZ.frozen i
    have hf1 := fun i => hT.frozen i
    have hf2 := fun i => hFs.frozen i
    have ST := Lib.hid hst
    clear hst he
    by_cases k115 : e.kind = 115
    · have q : (e.kind == 115) = true := by simpa using k115
      have HK := Lib.hid k115
      clear k115
      cases wt with
      | true =>
        gi_wp2
        exact ⟨(KeepsOthers.setCell _ _ _).from _, ⟨rfl, pre, x, _, rfl, ST.out, hno (by simp [repStep, HK.out]), by simpa using hZ.set_ 0 (.int .i64 (x.1 : Int))⟩, hB.setCell (p := ⟨w.heap.size, 0, none⟩) (Nat.le_refl _) _⟩
      | false =>
        have h13' : ∀ u v, ((W.setCell ⟨w.heap.size + 1, 0, none⟩ u).setCell ⟨w.heap.size + 1 + 1, 0, none⟩ v).cell? ⟨b, off + x.1 * 14 + 13, none⟩ = some (.slice e.wA e.ws.length e.wc) := fun u v =>
          (World.cell?_setCell_other _ _ _ _ (fun h => by injection h with h; omega)).trans ((World.cell?_setCell_other _ _ _ _ (fun h => by injection h with h; omega)).trans h13)
        have f0' : ∀ u, (W.setCell ⟨w.heap.size + 1, 0, none⟩ u).cell? ⟨w.heap.size + 1 + 1, 0, none⟩ = some (.int .u32 fs) := fun u => (World.cell?_setCell_other _ _ _ _ (fun h => by injection h with h; omega)).trans f0
        have f0'' : ∀ u v, ((W.setCell ⟨w.heap.size + 1, 0, none⟩ u).setCell ⟨w.heap.size + 1 + 1, 0, none⟩ v).cell? ⟨w.heap.size + 1 + 1, 0, none⟩ = some v := fun u v => World.cell?_setCell_same _ _ _ (f0' u)
        have hT1 := hT.set_ 0 (.bool true)
        have hT2 : ∀ u, Blk ((W.setCell ⟨w.heap.size + 1, 0, none⟩ (.bool true)).setCell ⟨w.heap.size + 1 + 1, 0, none⟩ u) (w.heap.size + 1) 4 #[.bool true] := fun u => by simpa using hT1.far (p := ⟨w.heap.size + 1 + 1, 0, none⟩) (by simp) u
        have hF2 : ∀ u, Blk ((W.setCell ⟨w.heap.size + 1, 0, none⟩ (.bool true)).setCell ⟨w.heap.size + 1 + 1, 0, none⟩ u) (w.heap.size + 1 + 1) 32 #[u] := fun u => by simpa using (hFs.far (p := ⟨w.heap.size + 1, 0, none⟩) (by simp) (.bool true)).set_ 0 u
        have hZ2 : ∀ u, Blk ((W.setCell ⟨w.heap.size + 1, 0, none⟩ (.bool true)).setCell ⟨w.heap.size + 1 + 1, 0, none⟩ u) w.heap.size 3 #[.int .i64 0] := fun u => (hZ.far (p := ⟨w.heap.size + 1, 0, none⟩) (by simp) (.bool true)).far (by show w.heap.size ≠ w.heap.size + 1 + 1; omega) u
        have hO2 : ∀ u, KeepsFrom W0.heap.size W ((W.setCell ⟨w.heap.size + 1, 0, none⟩ (.bool true)).setCell ⟨w.heap.size + 1 + 1, 0, none⟩ u) := fun u => ((KeepsOthers.setCell _ _ _).trans (KeepsOthers.setCell _ _ _)).from _
        have hP2 : ∀ u, Keeps w.heap.size (w.heap.size + 1 + 1 + 1) (W0.heap.size + 1 + 1) W ((W.setCell ⟨w.heap.size + 1, 0, none⟩ (.bool true)).setCell ⟨w.heap.size + 1 + 1, 0, none⟩ u) := fun u => ((Keeps.refl _ _ _ W).setCell (by simp) (by show w.heap.size + 1 < w.heap.size + 1 + 1 + 1; omega) _).setCell (by show w.heap.size ≤ w.heap.size + 1 + 1; omega) (by simp) u
        have hB2 : ∀ u, Below w.heap.size w ((W.setCell ⟨w.heap.size + 1, 0, none⟩ (.bool true)).setCell ⟨w.heap.size + 1 + 1, 0, none⟩ u) := fun u => (hB.setCell (p := ⟨w.heap.size + 1, 0, none⟩) (by simp) _).setCell (p := ⟨w.heap.size + 1 + 1, 0, none⟩) (by simp; omega) u
        obtain ⟨ws, hwse⟩ : ∃ ws, e.ws = ws := ⟨_, rfl⟩
        have HW := Lib.hid hwse
        unfold EvWs at hw
        rw [hwse] at h13' hw
        clear hwse
        cases ws with
        | nil =>
          have h13'' := h13' (.bool true) (.int .u32 0)
          rw [List.length_nil] at h13''
          clear h13' h13
          gi_wp2
          exact ⟨hO2 _, hP2 _, ⟨hZ2 _, _, hst2 (true, 0) (by simp [repStep, HK.out, HW.out]), hT2 _, hF2 _⟩, hB2 _⟩
        | cons a r =>
          obtain ⟨bw, ow, hwA, hwB, hwc⟩ := hw.2 (by simp)
          have hwc0 := hwc 0 _ rfl
          rw [Nat.add_zero] at hwc0
          have hwcW := (hB.cell (p := ⟨bw, ow, none⟩) hwB).trans hwc0
          have hwc' : ((W.setCell ⟨w.heap.size + 1, 0, none⟩ (.bool true)).setCell ⟨w.heap.size + 1 + 1, 0, none⟩ (.int .u32 0)).cell? ⟨bw, ow, none⟩ = some (.int .u32 a) :=
            (World.cell?_setCell_other _ _ _ _ (fun h => by injection h with h; omega)).trans ((World.cell?_setCell_other _ _ _ _ (fun h => by injection h with h; omega)).trans hwcW)
          have h13'' := h13' (.bool true) (.int .u32 0)
          rw [hwA] at h13''
          clear h13' h13 hwc hwc0 hwcW hwA
          have hlen : ((0 : Int) < ((r.length + 1 : Nat) : Int)) := by omega
          rw [List.length_cons] at h13''
          gi_wp2
          exact ⟨(hO2 _).trans ((KeepsOthers.setCell _ _ _).from _), (hP2 _).setCell (by show w.heap.size ≤ w.heap.size + 1 + 1; omega) (by simp) _,
            ⟨(hZ2 _).far (by show w.heap.size ≠ w.heap.size + 1 + 1; omega) _, (true, a), hst2 (true, a) (by simp [repStep, HK.out, HW.out]), (hT2 _).far (by simp) _, by simpa using (hF2 (.int .u32 0)).set_ 0 (.int .u32 a)⟩, (hB2 _).setCell (p := ⟨w.heap.size + 1 + 1, 0, none⟩) (by simp; omega) _⟩
    have q115 : (e.kind == 115) = false := by simpa using k115
    have K115 := Lib.hid k115
    clear k115
    by_cases k114 : e.kind = 114
    · have q : (e.kind == 114) = true := by simpa using k114
      have HK := Lib.hid k114
      clear k114
      have hmx : Tryz.prog.follows .mixedOrders = true := by kernel_rfl
      have hZx : Blk (W.setCell ⟨w.heap.size, 0, none⟩ (.int .i64 (x.1 : Int))) w.heap.size 3 #[.int .i64 (x.1 : Int)] := by simpa using hZ.set_ 0 (.int .i64 (x.1 : Int))
      obtain ⟨ws, hwse⟩ : ∃ ws, e.ws = ws := ⟨_, rfl⟩
      have HW := Lib.hid hwse
      unfold EvWs at hw
      rw [hwse] at h13 hw
      clear hwse
      cases wt with
      | false =>
        gi_wp2
        gi_region_with_o (fail)
        all_goals gi_wp2
        all_goals exact ⟨((KeepsOthers.setCell _ _ _).trans (KeepsOthers.drew _)).from _, ⟨rfl, pre, x, _, rfl, ST.out, hno (by simp [repStep, HK.out]), hZx.drew⟩, (hB.setCell (p := ⟨w.heap.size, 0, none⟩) (Nat.le_refl _) _).drew⟩
      | true =>
        cases ws with
        | nil =>
          rw [List.length_nil] at h13
          gi_wp2
          gi_region_with_o (fail)
          all_goals gi_wp2
          all_goals exact ⟨((KeepsOthers.setCell _ _ _).trans (KeepsOthers.drew _)).from _, ⟨rfl, pre, x, _, rfl, ST.out, hno (by simp [repStep, HK.out, HW.out]), hZx.drew⟩, (hB.setCell (p := ⟨w.heap.size, 0, none⟩) (Nat.le_refl _) _).drew⟩
        | cons a r =>
          obtain ⟨bw, ow, hwA, hwB, hwc⟩ := hw.2 (by simp)
          have hwc0 := hwc 0 _ rfl
          rw [Nat.add_zero] at hwc0
          have hwcW := (hB.cell (p := ⟨bw, ow, none⟩) hwB).trans hwc0
          rw [hwA, List.length_cons] at h13
          have hlen0 : (((r.length + 1 : Nat) : Int) == 0) = false := by simp; omega
          have hlenp : ((0 : Int) < ((r.length + 1 : Nat) : Int)) := by omega
          clear hwc hwc0 hwA
          by_cases haf : a = fs
          · subst haf
            gi_wp2
            gi_region_with_o (fail)
            all_goals gi_wp2
            all_goals exact ⟨((KeepsOthers.setCell _ _ _).trans (KeepsOthers.drew _)).from _, ((Keeps.refl _ _ _ W).setCell (p := ⟨w.heap.size + 1, 0, none⟩) (by simp) (by show w.heap.size + 1 < w.heap.size + 1 + 1 + 1; omega) (.bool false)).drew,
              ⟨(hZ.far (by simp) _).drew, (false, a), hst2 (false, a) (by simp [repStep, HK.out, HW.out]), Blk.drew (by simpa using hT.set_ 0 (.bool false)), (hFs.far (by simp) _).drew⟩, (hB.setCell (p := ⟨w.heap.size + 1, 0, none⟩) (by simp) _).drew⟩
          · have haf' : (a != fs) = true := by simpa using haf
            have HA := Lib.hid haf
            clear haf
            gi_wp2
            gi_region_with_o (fail)
            all_goals gi_wp2
            all_goals exact ⟨((KeepsOthers.setCell _ _ _).trans (KeepsOthers.drew _)).from _, ⟨rfl, pre, x, _, rfl, ST.out, hno (by simp [repStep, HK.out, HW.out, HA.out]), hZx.drew⟩, (hB.setCell (p := ⟨w.heap.size, 0, none⟩) (Nat.le_refl _) _).drew⟩
    · have q114 : (e.kind == 114) = false := by simpa using k114
      have K114 := Lib.hid k114
      clear k114
      gi_wp2
      exact ⟨KeepsFrom.refl _ _, Keeps.refl _ _ _ _, ⟨hZ, (wt, fs), hst2 _ (by simp [repStep, K115.out, K114.out]), hT, hFs⟩, hB⟩
  case done =>
    rintro D ys W hD rfl ⟨⟨hZ, st, hst, _, _⟩, hB⟩ hK
    rw [evsAt_all] at hst
    have hz := hZ.cell 0
    simp at hz
    have hf := fun i => hZ.frozen i
    have hs : repliesF evs = -1 := repG_all hst
    have HS := Lib.hid hs
    clear hs hst
    gi_wp2
    have hD7 := (KeepsOthers.setCell W ⟨w.heap.size, 0, none⟩ (.int .i64 (-1))).same D _ hK rfl
    refine ⟨by simp, .inl ⟨_, _, rfl, run_takeDeferred hD7, ?_⟩⟩
    have hZ8 := (hZ.set_ 0 (.int .i64 (-1))).putObj (by omega : w.heap.size ≠ D) (.deferred none)
    have y0 := hZ8.cell 0
    simp at y0
    refine ⟨.int .i64 (-1), ?_, by rw [HS.out], (hB.setCell (p := ⟨w.heap.size, 0, none⟩) (Nat.le_refl _) _).trans (belowK_b (w := W0) (by omega) _ D _ (.deferred none) hD hD7 rfl rfl)⟩
    simp [results, Tryz.f17, go_sem, y0]
  case stop =>
    rintro D k pre W hD ⟨j', hj, rfl⟩ ⟨⟨rfl, ini, x, st, hi, hst, hno, hZ⟩, hB⟩ hK
    rw [ixs_succ (by omega)] at hi
    obtain ⟨rfl, e5⟩ := List.append_inj' hi rfl
    obtain rfl : (⟨j', by omega⟩ : Fin evs.length) = x := by simpa using e5
    have hs : repliesF evs = (j' : Int) := by
      rw [evsAt_ixs] at hst
      have := repG_at (k := 0) (r := evs.drop (j' + 1)) hst hno
      rw [List.length_take, Nat.zero_add, Nat.min_eq_left (by omega)] at this
      rw [← this]
      unfold repliesF
      congr 1
      conv => lhs; rw [← List.take_append_drop j' evs, List.drop_eq_getElem_cons (by omega : j' < evs.length)]
      rfl
    have HS := Lib.hid hs
    clear hs hst hno hi e5
    gi_wp2
    refine ⟨by simp, .inl ⟨_, _, rfl, run_takeDeferred hK, ?_⟩⟩
    have hZ8 := hZ.putObj (by omega : w.heap.size ≠ D) (.deferred none)
    have y0 := hZ8.cell 0
    simp at y0
    refine ⟨.int .i64 (j' : Int), ?_, by rw [HS.out], hB.trans (belowK_b (w := W0) (by omega) W D _ (.deferred none) hD hK rfl rfl)⟩
    simp [results, Tryz.f17, go_sem, y0]
end Go.Proofs.YtbgibbbggajgaaaGreat
/- AuditAdds: the plain law, and the walk. -/
namespace Go.Proofs.YtbgibbbggajgaaaGreat
set_option linter.all false
open Go.RowKit

/-! ### the plain law -/
def Rp.add (x y : Rp) : Rp := ⟨x.begun + y.begun, x.ended + y.ended, x.errs + y.errs, x.deliv + y.deliv, x.dead + y.dead, x.sent + y.sent, x.repl + y.repl⟩
/-! ### the example at the head -/
def ev0 (k : Int) : Ev := ⟨k, 0, 0, 0, 0, 0, 0, 0, 0, 0, false, 0, false, none, 0, []⟩
theorem evs_one {w : World} {g : Nat} {t : TypeId} {e : Ev} (h : Blk w g t e.cells.toArray) (he : EvWs w w.heap.size e) : Evs w w.heap.size (some ⟨g, 0, none⟩) [e] :=
  ⟨by simpa using Sl.of_blk (n := 1) (sz := 14) h rfl, fun x hx => by simp at hx; subst hx; exact he⟩
set_option maxHeartbeats 400000 in
theorem shown20_any (w : World) : Calls Tryz.prog 5 #[] w fun x w' => x = .returned (.bool true) ∧ Below w.heap.size w w' := by
  go_enter Tryz.func5, Tryz.ntmps5
  go_wp2_with fail
  refine (safe_any none 0 0 [] w ⟨Sl.nil, by simp⟩ rfl (by omega)).mono ?_
  rintro x w1 ⟨rfl, hb1⟩
  rw [show safeF [] = -1 from rfl]
  go_wp2_with fail
  have hB := Blk.new w1 42 (ev0 114).cells.toArray
  have he := evs_one hB Sl.nil
  refine (replies_any _ 1 1 [ev0 114] _ he rfl (by omega)).mono ?_
  rintro x w2 ⟨rfl, hb2⟩
  rw [show repliesF [ev0 114] = 0 from by decide]
  go_wp2_with fail
  go_ret
  refine ⟨rfl, below_thn hb1 (below_thn ((Below.refl _ _).alloc (Nat.le_refl _) _) hb2)⟩

end Go.Proofs.YtbgibbbggajgaaaGreat
/- Open, walked: which tasks began oftener than they ended. -/
namespace Go.Proofs.YtbgibbbggajgaaaGreat
set_option linter.all false
open Go.RowKit Go.Shelf
attribute [local go_sem] Oper.semAt_some
/-- how much oftener task t began than it ended -/
def tal (l : List Ev) (t : Int) : Int := l.foldl (fun n e => if e.task = t then (if e.kind = 98 then n + 1 else n - 1) else n) 0
theorem tal_snoc (l : List Ev) (e : Ev) (t : Int) : tal (l ++ [e]) t = if e.task = t then (if e.kind = 98 then tal l t + 1 else tal l t - 1) else tal l t := by simp [tal]
theorem tal_bd (l : List Ev) (t : Int) : -(l.length : Int) ≤ tal l t ∧ tal l t ≤ l.length := by
  have : ∀ (l : List Ev) (n : Int), n - l.length ≤ l.foldl (fun n e => if e.task = t then (if e.kind = 98 then n + 1 else n - 1) else n) n ∧ l.foldl (fun n e => if e.task = t then (if e.kind = 98 then n + 1 else n - 1) else n) n ≤ n + l.length := by
    intro l
    induction l with
    | nil => intro n; simp
    | cons e l ih =>
      intro n
      rw [List.foldl_cons, List.length_cons]
      have := ih (if e.task = t then (if e.kind = 98 then n + 1 else n - 1) else n)
      have hs : n - 1 ≤ (if e.task = t then (if e.kind = 98 then n + 1 else n - 1) else n) ∧ (if e.task = t then (if e.kind = 98 then n + 1 else n - 1) else n) ≤ n + 1 := by
        split
        · split <;> omega
        · omega
      generalize (if e.task = t then (if e.kind = 98 then n + 1 else n - 1) else n) = m at *
      omega
  have h := this l 0
  unfold tal
  omega
/-- the tasks that are open -/
def openF (l : List Ev) : List Int := ([0, 1, 2] : List Int).filter fun t => decide (0 < tal (l.filter sel) t)
/-- those below k that p lets by -/
def upTo (p : Int → Bool) (k : Int) : List Int := (([0, 1, 2] : List Int).take k.toNat).filter p
theorem upTo_succ (p : Int → Bool) (k : Int) (h : k = 0 ∨ k = 1 ∨ k = 2) : upTo p (k + 1) = upTo p k ++ if p k then [k] else [] := by
  rcases h with rfl | rfl | rfl <;> cases h0 : p 0 <;> cases h1 : p 1 <;> cases h2 : p 2 <;> simp [upTo, List.filter_cons, h0, h1, h2]
theorem upTo_len (p : Int → Bool) (k : Int) : (upTo p k).length ≤ 3 := by
  unfold upTo
  refine Nat.le_trans (List.length_filter_le _ _) ?_
  simp
  omega
theorem int_info : (Tryz.prog.info? 3).map (fun i => (i.zero.map (fun z => z.cells.size), i.size, i.bytes)) = some (some 1, 1, 8) := by kernel_rfl
def talCells (l : List Ev) : Array Value := #[.int .i64 (tal l 0), .int .i64 (tal l 1), .int .i64 (tal l 2)]

end Go.Proofs.YtbgibbbggajgaaaGreat
/- What is found in the beginning of a row of events; events of kinds that there are not. No walk in sight. -/
namespace Go.Proofs.YtbgibbbggajgaaaGreat
set_option linter.all false
open Go.RowKit
/-! an event of no kind -/
/-! events, cut -/
theorem Evs.S {w : World} {A : Option Addr} {evs : List Ev} (h : Evs w w.heap.size A evs) : EvS (all w) A evs := ⟨h.1.1, fun hn => by
  obtain ⟨b, off, hA, hb, hc⟩ := h.1.2 hn
  exact ⟨b, off, hA, hb, hc⟩⟩
end Go.Proofs.YtbgibbbggajgaaaGreat
/- The reference's Look and Safe. -/
namespace Go.Proofs.YtbgibbbggajgaaaGreat
set_option linter.all false
open Go.RowKit
theorem EvS.at2 {p : Piece} {A : Option Addr} {evs : List Ev} (h : EvS p A evs) {k : Nat} {x : Ev} (hk : evs[k]? = some x) : ∃ b off, A = some ⟨b, off, none⟩ ∧ p.Z b ∧ ∀ f u, x.cells[f]? = some u → p.w.cell? ⟨b, off + k * 14 + f, none⟩ = some u := by
  obtain ⟨b, off, hA, _⟩ := SlS.at_ h (List.getElem?_eq_some_iff.1 hk).1
  subst hA
  exact ⟨b, off, rfl, h.ev hk⟩
def rpL (r : Rp) : List Value := [.int .i64 r.begun, .int .i64 r.ended, .int .i64 r.errs, .int .i64 r.deliv, .int .i64 r.dead, .int .i64 r.sent, .int .i64 r.repl]
theorem take_snoc {α : Type} {l : List α} {k : Nat} {x : α} (h : l[k]? = some x) : l.take (k + 1) = l.take k ++ [x] := by rw [List.take_add_one, h]; rfl
theorem isDead_iff (x : Ev) : isDead x = true ↔ x.kind = 100 ∧ (x.adead = true ∨ x.alive = false) := by
  unfold isDead
  cases x.adead <;> cases x.alive <;> simp

theorem refDead_any (x : Ev) (w : World) : Calls Tryz.prog 40 #[.agg x.cells.toArray] w (Rt (.bool (isDead x)) w) := by
  refine XK.enter (vs := [.agg x.cells.toArray]) Tryz.func40 rfl Tryz.ntmps40 (by simp) ?_
  refine XK.seq ?_

  refine XK.region ?_
  refine xk_box rfl (by decide) fun g1 => ?_
  refine xk_assign rfl (by decide) ?_
  refine XK.nilN ?_
  refine XK.seq ?_

  refine XK.region ?_
  refine xk_field (off := 0) (by kernel_rfl) rfl (by decide) ?_
  refine xk_ld rfl ?_
  refine xk_eql rfl rfl (by decide) ?_
  refine xk_move rfl (by decide) ?_
  refine xk_split (t := 6) rfl (fun hg6 => ?_) (fun hg6 => ?_)
  ·
    refine xk_guardT rfl rfl ?_; refine xk_field (off := 8) (by kernel_rfl) rfl (by decide) ?_
    refine xk_guardT rfl rfl ?_; refine xk_field (off := 2) (by kernel_rfl) rfl (by decide) ?_
    refine xk_guardT rfl rfl ?_; refine xk_ld rfl ?_
    refine xk_guardT rfl rfl ?_; refine xk_move rfl (by decide) ?_
    refine xk_splitB (t := 10) rfl (fun hg10 => ?_) (fun hg10 => ?_)
    ·
      refine xk_guardF rfl rfl rfl (by decide) ?_
      refine xk_guardF rfl rfl rfl (by decide) ?_
      refine xk_guardF rfl rfl rfl (by decide) ?_
      refine xk_guardT rfl rfl ?_; (first | refine xk_pickT rfl rfl (by decide) ?_ | refine xk_pickF rfl rfl (by decide) ?_)
      (first | refine xk_pickT rfl rfl (by decide) ?_ | refine xk_pickF rfl rfl (by decide) ?_)
      refine xk_assign rfl (by decide) ?_
      refine XK.nilN ?_
      refine XK.ret ?_
      refine XK.norm ?_
      rw [show isDead x = (true) from (isDead_iff x).2 ⟨hg6, .inl hg10⟩]
      exact XK.ret1 rfl rfl fun w1 st => ⟨rfl, st.below (by simp)⟩
    ·
      refine xk_guardT rfl rfl ?_; refine xk_field (off := 12) (by kernel_rfl) rfl (by decide) ?_
      refine xk_guardT rfl rfl ?_; refine xk_ld rfl ?_
      refine xk_guardT rfl rfl ?_; refine xk_not rfl (by decide) ?_
      refine xk_guardT rfl rfl ?_; (first | refine xk_pickT rfl rfl (by decide) ?_ | refine xk_pickF rfl rfl (by decide) ?_)
      (first | refine xk_pickT rfl rfl (by decide) ?_ | refine xk_pickF rfl rfl (by decide) ?_)
      refine xk_assign rfl (by decide) ?_
      refine XK.nilN ?_
      refine XK.ret ?_
      refine XK.norm ?_
      rw [show isDead x = (!x.alive) from by unfold isDead; rw [show (x.kind == 100) = true by simp [hg6], hg10]; rfl]
      exact XK.ret1 rfl rfl fun w1 st => ⟨rfl, st.below (by simp)⟩
  ·
    refine xk_guardF rfl rfl rfl (by decide) ?_
    refine xk_guardF rfl rfl rfl (by decide) ?_
    refine xk_guardF rfl rfl rfl (by decide) ?_
    refine xk_guardF rfl rfl rfl (by decide) ?_
    refine xk_guardU rfl rfl (by decide) ?_
    refine xk_guardU rfl rfl (by decide) ?_
    refine xk_guardU rfl rfl (by decide) ?_
    refine xk_guardF rfl rfl rfl (by decide) ?_
    (first | refine xk_pickT rfl rfl (by decide) ?_ | refine xk_pickF rfl rfl (by decide) ?_)
    refine xk_assign rfl (by decide) ?_
    refine XK.nilN ?_
    refine XK.ret ?_
    refine XK.norm ?_
    rw [show isDead x = (false) from by unfold isDead; rw [show (x.kind == 100) = false by simp [hg6]]; rfl]
    exact XK.ret1 rfl rfl fun w1 st => ⟨rfl, st.below (by simp)⟩

set_option maxHeartbeats 1000000 in
theorem refLook_any (A : Option Addr) (n c : Nat) (evs : List Ev) (w : World) (hE : EvS (all w) A evs) (hn : n = evs.length) (hn2 : n ≤ 1000000) : Calls Tryz.prog 9 #[.slice A n c] w (Rt (.agg (lookF evs).cells) w) := by
  refine XK.enter (vs := [.slice A n c]) Tryz.func9 rfl Tryz.ntmps9 (by simp) ?_
  refine XK.seq ?_

  refine XK.region ?_
  refine xk_alloc (cs := [.int .i64 0, .int .i64 0, .int .i64 0, .int .i64 0, .int .i64 0, .int .i64 0, .int .i64 0]) (zeroB_of (by kernel_rfl)) (by decide) fun g1 => ?_
  refine XK.nilN ?_
  refine XK.seq ?_

  refine XK.region ?_
  refine xk_alloc (cs := [.int .i64 0, .int .i64 0, .int .i64 0, .int .i64 0, .int .i64 0, .int .i64 0, .int .i64 0]) (zeroB_of (by kernel_rfl)) (by decide) fun g2 => ?_
  refine XK.nilN ?_
  refine XK.seq ?_
  refine XK.seq ?_

  refine XK.region ?_
  refine xk_assign rfl (by decide) ?_
  refine XK.nilN ?_
  refine XK.envS [(4, .int .i64 0), (3, .pointer (some ⟨g2, 0, none⟩)), (2, .pointer (some ⟨g1, 0, none⟩)), (0, .slice A n c)] ?_
  refine XK.block ?_
  refine XK.loop (fun m e R H => ∃ (k : Nat), k ≤ n ∧ m = n - k ∧ e = [(4, .int .i64 k), (3, .pointer (some ⟨g2, 0, none⟩)), (2, .pointer (some ⟨g1, 0, none⟩)), (0, .slice A n c)] ∧ R = [all w] ∧ H = [HP.blk g2 48 (rpL (lookF (evs.take k))), HP.blk g1 48 [.int .i64 0, .int .i64 0, .int .i64 0, .int .i64 0, .int .i64 0, .int .i64 0, .int .i64 0]]) n ⟨0, by omega, rfl, rfl, rfl, rfl⟩ fun m e R H hI => ?_
  obtain ⟨k, hk, rfl, rfl, rfl, rfl⟩ := hI
  refine XK.seq ?_
  refine XK.seq ?_

  refine XK.region ?_
  refine xk_move rfl (by decide) ?_
  refine xk_move rfl (by decide) ?_
  refine xk_len (el := 103) (by kernel_rfl) rfl (by decide) ?_
  refine xk_lss rfl rfl (by decide) ?_
  refine XK.nilN ?_
  refine XK.if_ rfl (fun hin => ?_) (fun hin => ?_)
  ·
    refine XK.skip ?_
    refine XK.norm ?_
    refine XK.seq ?_
    refine XK.block ?_
    refine XK.seq ?_
    have hkn : k < n := by have h' : (k : Int) < (n : Int) := hin; omega
    obtain ⟨x, hx⟩ : ∃ x, evs[k]? = some x := ⟨_, List.getElem?_eq_getElem (by omega)⟩
    obtain ⟨bE, oE, rfl, hzE, hcE⟩ := hE.at2 hx
    have hnx : lookF (evs.take (k + 1)) = (lookF (evs.take k)).step x := by rw [take_snoc hx, lookF_snoc]
    have hle := lookF_le (evs.take k)
    rw [List.length_take, show min k evs.length = k by omega] at hle
    generalize lookF (evs.take k) = r at *
    unfold Rp.le at hle
    rw [show rpL r = [.int .i64 r.begun, .int .i64 r.ended, .int .i64 r.errs, .int .i64 r.deliv, .int .i64 r.dead, .int .i64 r.sent, .int .i64 r.repl] from rfl]

    refine XK.region ?_
    refine xk_move rfl (by decide) ?_
    refine xk_move rfl (by decide) ?_
    refine xk_at k (oE + k * 14) (el := 103) (sz := 14) (by kernel_rfl) (by kernel_rfl) rfl rfl (by omega) (by omega) (by omega) (by decide) ?_
    refine xk_field (off := 0) (by kernel_rfl) rfl (by decide) ?_
    refine xk_load (by kernel_rfl) rfl (Rd.ro (p := all w) (by simp) hzE (hcE 0 _ rfl)) (by decide) ?_
    refine XK.nilN ?_
    refine XK.block ?_
    refine XK.seq ?_

    refine XK.region ?_
    refine xk_eql rfl rfl (by decide) ?_
    refine xk_assign rfl (by decide) ?_
    refine XK.nilN ?_
    refine XK.if_ rfl (fun h98 => ?_) (fun h98 => ?_)
    ·

      refine XK.region ?_
      refine xk_field (off := 0) (by kernel_rfl) rfl (by decide) ?_
      refine xk_ld rfl ?_
      refine xk_add rfl rfl (wrap_in (by omega)) (by decide) ?_
      refine xk_field (off := 0) (by kernel_rfl) rfl (by decide) ?_
      refine xk_st rfl rfl ?_; dsimp only [List.set]
      refine XK.nilN ?_

      refine XK.region ?_
      refine xk_move rfl (by decide) ?_
      refine xk_add rfl rfl (wrap_in (by omega)) (by decide) ?_
      refine xk_assign rfl (by decide) ?_
      refine XK.nilN ?_
      have hs : rpL (r.step x) = [.int .i64 (r.begun + 1), .int .i64 (r.ended), .int .i64 (r.errs), .int .i64 (r.deliv), .int .i64 (r.dead), .int .i64 (r.sent), .int .i64 (r.repl)] := by unfold Rp.step; rw [if_pos h98]; rfl
      exact XK.envS [(4, .int .i64 ((k : Int) + 1)), (3, .pointer (some ⟨g2, 0, none⟩)), (2, .pointer (some ⟨g1, 0, none⟩)), (0, .slice (some ⟨bE, oE, none⟩) n c)] (XK.round (n - (k + 1)) (by omega) ⟨k + 1, by omega, rfl, rfl, rfl, by rw [hnx, hs]⟩)
    ·
      refine XK.seq ?_

      refine XK.region ?_
      refine xk_eql rfl rfl (by decide) ?_
      refine xk_assign rfl (by decide) ?_
      refine XK.nilN ?_
      refine XK.if_ rfl (fun h101 => ?_) (fun h101 => ?_)
      ·
        refine XK.seq ?_

        refine XK.region ?_
        refine xk_field (off := 1) (by kernel_rfl) rfl (by decide) ?_
        refine xk_ld rfl ?_
        refine xk_add rfl rfl (wrap_in (by omega)) (by decide) ?_
        refine xk_field (off := 1) (by kernel_rfl) rfl (by decide) ?_
        refine xk_st rfl rfl ?_; dsimp only [List.set]
        refine XK.nilN ?_
        refine XK.seq ?_

        refine XK.region ?_
        refine xk_move rfl (by decide) ?_
        refine xk_move rfl (by decide) ?_
        refine xk_at k (oE + k * 14) (el := 103) (sz := 14) (by kernel_rfl) (by kernel_rfl) rfl rfl (by omega) (by omega) (by omega) (by decide) ?_
        refine xk_field (off := 6) (by kernel_rfl) rfl (by decide) ?_
        refine xk_field (off := 0) (by kernel_rfl) rfl (by decide) ?_
        refine xk_load (by kernel_rfl) rfl (Rd.ro (p := all w) (by simp) hzE (hcE 6 _ rfl)) (by decide) ?_
        refine xk_neq rfl rfl (by decide) ?_
        refine XK.nilN ?_
        refine XK.if_ rfl (fun he => ?_) (fun he => ?_)
        ·

          refine XK.region ?_
          refine xk_field (off := 2) (by kernel_rfl) rfl (by decide) ?_
          refine xk_ld rfl ?_
          refine xk_add rfl rfl (wrap_in (by omega)) (by decide) ?_
          refine xk_field (off := 2) (by kernel_rfl) rfl (by decide) ?_
          refine xk_st rfl rfl ?_; dsimp only [List.set]
          refine XK.nilN ?_

          refine XK.region ?_
          refine xk_move rfl (by decide) ?_
          refine xk_add rfl rfl (wrap_in (by omega)) (by decide) ?_
          refine xk_assign rfl (by decide) ?_
          refine XK.nilN ?_
          have hs : rpL (r.step x) = [.int .i64 (r.begun), .int .i64 (r.ended + 1), .int .i64 (r.errs + 1), .int .i64 (r.deliv), .int .i64 (r.dead), .int .i64 (r.sent), .int .i64 (r.repl)] := by unfold Rp.step; rw [if_neg h98, if_pos h101, if_neg he]; rfl
          exact XK.envS [(4, .int .i64 ((k : Int) + 1)), (3, .pointer (some ⟨g2, 0, none⟩)), (2, .pointer (some ⟨g1, 0, none⟩)), (0, .slice (some ⟨bE, oE, none⟩) n c)] (XK.round (n - (k + 1)) (by omega) ⟨k + 1, by omega, rfl, rfl, rfl, by rw [hnx, hs]⟩)
        ·
          refine XK.skip ?_
          refine XK.norm ?_

          refine XK.region ?_
          refine xk_move rfl (by decide) ?_
          refine xk_add rfl rfl (wrap_in (by omega)) (by decide) ?_
          refine xk_assign rfl (by decide) ?_
          refine XK.nilN ?_
          have hs : rpL (r.step x) = [.int .i64 (r.begun), .int .i64 (r.ended + 1), .int .i64 (r.errs), .int .i64 (r.deliv), .int .i64 (r.dead), .int .i64 (r.sent), .int .i64 (r.repl)] := by unfold Rp.step; rw [if_neg h98, if_pos h101, if_pos (Classical.not_not.1 he)]; rfl
          exact XK.envS [(4, .int .i64 ((k : Int) + 1)), (3, .pointer (some ⟨g2, 0, none⟩)), (2, .pointer (some ⟨g1, 0, none⟩)), (0, .slice (some ⟨bE, oE, none⟩) n c)] (XK.round (n - (k + 1)) (by omega) ⟨k + 1, by omega, rfl, rfl, rfl, by rw [hnx, hs]⟩)
      ·
        refine XK.seq ?_

        refine XK.region ?_
        refine xk_eql rfl rfl (by decide) ?_
        refine xk_assign rfl (by decide) ?_
        refine XK.nilN ?_
        refine XK.if_ rfl (fun h100 => ?_) (fun h100 => ?_)
        ·
          refine XK.seq ?_

          refine XK.region ?_
          refine xk_field (off := 3) (by kernel_rfl) rfl (by decide) ?_
          refine xk_ld rfl ?_
          refine xk_add rfl rfl (wrap_in (by omega)) (by decide) ?_
          refine xk_field (off := 3) (by kernel_rfl) rfl (by decide) ?_
          refine xk_st rfl rfl ?_; dsimp only [List.set]
          refine XK.nilN ?_
          refine XK.seq ?_

          refine XK.region ?_
          refine xk_move rfl (by decide) ?_
          refine xk_move rfl (by decide) ?_
          refine xk_at k (oE + k * 14) (el := 103) (sz := 14) (by kernel_rfl) (by kernel_rfl) rfl rfl (by omega) (by omega) (by omega) (by decide) ?_
          refine xk_loadN 14 (by kernel_rfl) rfl (RdN.of (vs := x.cells) fun j v hj => Rd.ro (p := all w) (by simp) hzE (hcE j v hj)) rfl (by decide) ?_
          refine xk_callR (f := 40) (fi := []) (ca := []) (by kernel_rfl) rfl rfl (by decide) (fun w1 st => refDead_any x w1) ?_
          refine XK.nilN ?_
          refine XK.cond rfl (fun hd => ?_) (fun hd => ?_)
          ·

            refine XK.region ?_
            refine xk_field (off := 4) (by kernel_rfl) rfl (by decide) ?_
            refine xk_ld rfl ?_
            refine xk_add rfl rfl (wrap_in (by omega)) (by decide) ?_
            refine xk_field (off := 4) (by kernel_rfl) rfl (by decide) ?_
            refine xk_st rfl rfl ?_; dsimp only [List.set]
            refine XK.nilN ?_

            refine XK.region ?_
            refine xk_move rfl (by decide) ?_
            refine xk_add rfl rfl (wrap_in (by omega)) (by decide) ?_
            refine xk_assign rfl (by decide) ?_
            refine XK.nilN ?_
            have hs : rpL (r.step x) = [.int .i64 (r.begun), .int .i64 (r.ended), .int .i64 (r.errs), .int .i64 (r.deliv + 1), .int .i64 (r.dead + 1), .int .i64 (r.sent), .int .i64 (r.repl)] := by unfold Rp.step; rw [if_neg h98, if_neg h101, if_pos h100, if_pos hd]; rfl
            exact XK.envS [(4, .int .i64 ((k : Int) + 1)), (3, .pointer (some ⟨g2, 0, none⟩)), (2, .pointer (some ⟨g1, 0, none⟩)), (0, .slice (some ⟨bE, oE, none⟩) n c)] (XK.round (n - (k + 1)) (by omega) ⟨k + 1, by omega, rfl, rfl, rfl, by rw [hnx, hs]⟩)
          ·
            refine XK.skip ?_
            refine XK.norm ?_

            refine XK.region ?_
            refine xk_move rfl (by decide) ?_
            refine xk_add rfl rfl (wrap_in (by omega)) (by decide) ?_
            refine xk_assign rfl (by decide) ?_
            refine XK.nilN ?_
            have hs : rpL (r.step x) = [.int .i64 (r.begun), .int .i64 (r.ended), .int .i64 (r.errs), .int .i64 (r.deliv + 1), .int .i64 (r.dead), .int .i64 (r.sent), .int .i64 (r.repl)] := by unfold Rp.step; rw [if_neg h98, if_neg h101, if_pos h100, if_neg (by rw [hd]; decide)]; rfl
            exact XK.envS [(4, .int .i64 ((k : Int) + 1)), (3, .pointer (some ⟨g2, 0, none⟩)), (2, .pointer (some ⟨g1, 0, none⟩)), (0, .slice (some ⟨bE, oE, none⟩) n c)] (XK.round (n - (k + 1)) (by omega) ⟨k + 1, by omega, rfl, rfl, rfl, by rw [hnx, hs]⟩)
        ·
          refine XK.seq ?_

          refine XK.region ?_
          refine xk_eql rfl rfl (by decide) ?_
          refine xk_assign rfl (by decide) ?_
          refine XK.nilN ?_
          refine XK.if_ rfl (fun h115 => ?_) (fun h115 => ?_)
          ·

            refine XK.region ?_
            refine xk_field (off := 5) (by kernel_rfl) rfl (by decide) ?_
            refine xk_ld rfl ?_
            refine xk_add rfl rfl (wrap_in (by omega)) (by decide) ?_
            refine xk_field (off := 5) (by kernel_rfl) rfl (by decide) ?_
            refine xk_st rfl rfl ?_; dsimp only [List.set]
            refine XK.nilN ?_

            refine XK.region ?_
            refine xk_move rfl (by decide) ?_
            refine xk_add rfl rfl (wrap_in (by omega)) (by decide) ?_
            refine xk_assign rfl (by decide) ?_
            refine XK.nilN ?_
            have hs : rpL (r.step x) = [.int .i64 (r.begun), .int .i64 (r.ended), .int .i64 (r.errs), .int .i64 (r.deliv), .int .i64 (r.dead), .int .i64 (r.sent + 1), .int .i64 (r.repl)] := by unfold Rp.step; rw [if_neg h98, if_neg h101, if_neg h100, if_pos h115]; rfl
            exact XK.envS [(4, .int .i64 ((k : Int) + 1)), (3, .pointer (some ⟨g2, 0, none⟩)), (2, .pointer (some ⟨g1, 0, none⟩)), (0, .slice (some ⟨bE, oE, none⟩) n c)] (XK.round (n - (k + 1)) (by omega) ⟨k + 1, by omega, rfl, rfl, rfl, by rw [hnx, hs]⟩)
          ·
            refine XK.seq ?_

            refine XK.region ?_
            refine xk_eql rfl rfl (by decide) ?_
            refine xk_assign rfl (by decide) ?_
            refine XK.nilN ?_
            refine XK.if_ rfl (fun h114 => ?_) (fun h114 => ?_)
            ·

              refine XK.region ?_
              refine xk_field (off := 6) (by kernel_rfl) rfl (by decide) ?_
              refine xk_ld rfl ?_
              refine xk_add rfl rfl (wrap_in (by omega)) (by decide) ?_
              refine xk_field (off := 6) (by kernel_rfl) rfl (by decide) ?_
              refine xk_st rfl rfl ?_; dsimp only [List.set]
              refine XK.nilN ?_

              refine XK.region ?_
              refine xk_move rfl (by decide) ?_
              refine xk_add rfl rfl (wrap_in (by omega)) (by decide) ?_
              refine xk_assign rfl (by decide) ?_
              refine XK.nilN ?_
              have hs : rpL (r.step x) = [.int .i64 (r.begun), .int .i64 (r.ended), .int .i64 (r.errs), .int .i64 (r.deliv), .int .i64 (r.dead), .int .i64 (r.sent), .int .i64 (r.repl + 1)] := by unfold Rp.step; rw [if_neg h98, if_neg h101, if_neg h100, if_neg h115, if_pos h114]; rfl
              exact XK.envS [(4, .int .i64 ((k : Int) + 1)), (3, .pointer (some ⟨g2, 0, none⟩)), (2, .pointer (some ⟨g1, 0, none⟩)), (0, .slice (some ⟨bE, oE, none⟩) n c)] (XK.round (n - (k + 1)) (by omega) ⟨k + 1, by omega, rfl, rfl, rfl, by rw [hnx, hs]⟩)
            ·
              refine XK.skip ?_
              refine XK.norm ?_

              refine XK.region ?_
              refine xk_move rfl (by decide) ?_
              refine xk_add rfl rfl (wrap_in (by omega)) (by decide) ?_
              refine xk_assign rfl (by decide) ?_
              refine XK.nilN ?_
              have hs : rpL (r.step x) = [.int .i64 (r.begun), .int .i64 (r.ended), .int .i64 (r.errs), .int .i64 (r.deliv), .int .i64 (r.dead), .int .i64 (r.sent), .int .i64 (r.repl)] := by unfold Rp.step; rw [if_neg h98, if_neg h101, if_neg h100, if_neg h115, if_neg h114]; rfl
              exact XK.envS [(4, .int .i64 ((k : Int) + 1)), (3, .pointer (some ⟨g2, 0, none⟩)), (2, .pointer (some ⟨g1, 0, none⟩)), (0, .slice (some ⟨bE, oE, none⟩) n c)] (XK.round (n - (k + 1)) (by omega) ⟨k + 1, by omega, rfl, rfl, rfl, by rw [hnx, hs]⟩)
  ·
    refine XK.exit ?_
    refine XK.norm ?_
    refine XK.seq ?_
    obtain rfl : k = n := by have h' : ¬ (k : Int) < (n : Int) := hin; omega
    rw [List.take_of_length_le (by omega)]
    generalize lookF evs = r
    rw [show rpL r = [.int .i64 r.begun, .int .i64 r.ended, .int .i64 r.errs, .int .i64 r.deliv, .int .i64 r.dead, .int .i64 r.sent, .int .i64 r.repl] from rfl]

    refine XK.region ?_
    refine xk_loadN 7 (by kernel_rfl) rfl (RdN.whole 0 rfl) rfl (by decide) ?_
    (first | (refine xk_storeN 0 rfl rfl rfl (by kernel_rfl) (by simp [Value.cells, Value.oneCell']) (by simp [Value.cells]) ?_) | (refine xk_storeN 1 rfl rfl rfl (by kernel_rfl) (by simp [Value.cells, Value.oneCell']) (by simp [Value.cells]) ?_) | (refine xk_storeN 2 rfl rfl rfl (by kernel_rfl) (by simp [Value.cells, Value.oneCell']) (by simp [Value.cells]) ?_) | (refine xk_storeN 3 rfl rfl rfl (by kernel_rfl) (by simp [Value.cells, Value.oneCell']) (by simp [Value.cells]) ?_) | (refine xk_storeN 4 rfl rfl rfl (by kernel_rfl) (by simp [Value.cells, Value.oneCell']) (by simp [Value.cells]) ?_) | (refine xk_storeN 5 rfl rfl rfl (by kernel_rfl) (by simp [Value.cells, Value.oneCell']) (by simp [Value.cells]) ?_) | (refine xk_storeN 6 rfl rfl rfl (by kernel_rfl) (by simp [Value.cells, Value.oneCell']) (by simp [Value.cells]) ?_) | (refine xk_storeN 7 rfl rfl rfl (by kernel_rfl) (by simp [Value.cells, Value.oneCell']) (by simp [Value.cells]) ?_) | (refine xk_storeN 8 rfl rfl rfl (by kernel_rfl) (by simp [Value.cells, Value.oneCell']) (by simp [Value.cells]) ?_)); simp only [putN, Value.cells, List.set, List.take, List.drop, List.nil_append, List.append_nil, List.length_cons, List.length_nil, List.cons_append, Nat.reduceAdd]
    refine XK.nilN ?_
    refine XK.ret ?_
    refine XK.norm ?_
    exact XK.retC rfl (by kernel_rfl) rfl rfl (RdN.whole 1 rfl) fun w1 st => ⟨rfl, st.below (by simp)⟩

theorem refSafe_any (A : Option Addr) (n c : Nat) (evs : List Ev) (w : World) (hE : EvS (all w) A evs) (hn : n = evs.length) (hn2 : n ≤ 1000000) : Calls Tryz.prog 13 #[.slice A n c] w (Rt (.int .i64 (safeF evs)) w) := by
  refine XK.enter (vs := [.slice A n c]) Tryz.func13 rfl Tryz.ntmps13 (by simp) ?_
  refine XK.seq ?_

  refine XK.region ?_
  refine xk_assign rfl (by decide) ?_
  refine XK.nilN ?_
  refine XK.seq ?_
  refine XK.seq ?_

  refine XK.region ?_
  refine xk_assign rfl (by decide) ?_
  refine XK.nilN ?_
  refine XK.envS [(3, .int .i64 0), (0, .slice A n c)] ?_
  refine XK.block ?_
  refine XK.loop (fun m e R H => ∃ (k : Nat), k ≤ n ∧ (∀ e ∈ evs.take k, isDead e = false) ∧ m = n - k ∧ e = [(3, .int .i64 k), (0, .slice A n c)] ∧ R = [all w] ∧ H = []) n ⟨0, by omega, by simp, rfl, rfl, rfl, rfl⟩ fun m e R H hI => ?_
  obtain ⟨k, hk, hno, rfl, rfl, rfl, rfl⟩ := hI
  refine XK.seq ?_
  refine XK.seq ?_

  refine XK.region ?_
  refine xk_move rfl (by decide) ?_
  refine xk_move rfl (by decide) ?_
  refine xk_len (el := 103) (by kernel_rfl) rfl (by decide) ?_
  refine xk_lss rfl rfl (by decide) ?_
  refine XK.nilN ?_
  refine XK.if_ rfl (fun hin => ?_) (fun hin => ?_)
  ·
    refine XK.skip ?_
    refine XK.norm ?_
    refine XK.seq ?_
    refine XK.block ?_
    refine XK.seq ?_

    refine XK.region ?_
    refine xk_move rfl (by decide) ?_
    refine xk_move rfl (by decide) ?_
    have hkn : k < n := by have h' : (k : Int) < (n : Int) := hin; omega
    obtain ⟨x, hx⟩ : ∃ x, evs[k]? = some x := ⟨_, List.getElem?_eq_getElem (by omega)⟩
    obtain ⟨bE, oE, rfl, hzE, hcE⟩ := hE.at2 hx
    refine xk_at k (oE + k * 14) (el := 103) (sz := 14) (by kernel_rfl) (by kernel_rfl) rfl rfl (by omega) (by omega) (by omega) (by decide) ?_
    refine xk_loadN 14 (by kernel_rfl) rfl (RdN.of (vs := x.cells) fun j v hj => Rd.ro (p := all w) (by simp) hzE (hcE j v hj)) rfl (by decide) ?_
    refine xk_callR (f := 40) (fi := []) (ca := []) (by kernel_rfl) rfl rfl (by decide) (fun w1 st => refDead_any x w1) ?_
    refine XK.nilN ?_
    refine XK.cond rfl (fun hd => ?_) (fun hd => ?_)
    ·
      refine XK.seq ?_

      refine XK.region ?_
      refine xk_move rfl (by decide) ?_
      refine xk_assign rfl (by decide) ?_
      refine XK.nilN ?_
      refine XK.ret ?_
      refine XK.norm ?_
      obtain ⟨hkl, hxe⟩ := List.getElem?_eq_some_iff.1 hx
      rw [show safeF evs = (k : Int) from safeF_some hkl (by rw [hxe]; exact hd) (fun j hj => hno _ (List.mem_of_getElem? (by rw [List.getElem?_take, if_pos hj]; exact List.getElem?_eq_getElem (by omega))))]
      exact XK.ret1 rfl rfl fun w1 st => ⟨rfl, st.below (by simp)⟩
    ·
      refine XK.skip ?_
      refine XK.norm ?_

      refine XK.region ?_
      refine xk_move rfl (by decide) ?_
      refine xk_add rfl rfl (wrap_in (by omega)) (by decide) ?_
      refine xk_assign rfl (by decide) ?_
      refine XK.nilN ?_
      exact XK.envS [(3, .int .i64 ((k : Int) + 1)), (0, .slice (some ⟨bE, oE, none⟩) n c)] (XK.round (n - (k + 1)) (by omega) ⟨k + 1, by omega, (fun e he => by rw [take_snoc hx] at he; rcases List.mem_append.1 he with he | he; exact hno e he; simp at he; subst he; simpa using hd), rfl, rfl, rfl, rfl⟩)
  ·
    refine XK.exit ?_
    refine XK.norm ?_
    refine XK.seq ?_

    refine XK.region ?_
    refine xk_assign rfl (by decide) ?_
    refine XK.nilN ?_
    refine XK.ret ?_
    refine XK.norm ?_
    obtain rfl : k = n := by have h' : ¬ (k : Int) < (n : Int) := hin; omega
    rw [List.take_of_length_le (by omega)] at hno
    rw [safeF_none hno]
    exact XK.ret1 rfl rfl fun w1 st => ⟨rfl, st.below (by simp)⟩

end Go.Proofs.YtbgibbbggajgaaaGreat
/- The reference's Order. -/
namespace Go.Proofs.YtbgibbbggajgaaaGreat
set_option linter.all false
open Go.RowKit
theorem XK.draw1 {P : Program} {N : Nat} {w0 : World} {e : Env} {R : List Piece} {H : List HP} {Q : Exit → Act → World → Prop} (R0 : List Piece) (H0 : List HP) (m : Nat) {id : Nat} {l : List Oper} (hm : P.follows .mixedOrders = true) (hc : (Region.noSelect l.toArray && tlB l.toArray m) = true) (h : XA P N w0 l.toArray Q R0 H0 m l.length (Array.replicate l.length false) e R H) : XK N w0 ((Code.region id l.toArray true).wp P Q) e R H := fun a w hr st => by
  simp only [Bool.and_eq_true] at hc
  have := h ⟨Down.start _ _, hc.1, hc.2⟩ a w.drew hr st.drew
  refine wp_region_any hm (wpAny_of_x (S := St w0 R0 H0) (m := m) _ _ _ _ ?_)
  simpa using this
theorem ord_skip {evs : List Ev} {k : Nat} {x : Ev} (hx : evs[k]? = some x) (hs : sel x = false) : sc evs (k + 1) = sc evs k := by
  rw [sc_next, selI_at hx, hs]; rfl
theorem ord_in {evs : List Ev} {k : Nat} {x : Ev} (hx : evs[k]? = some x) (hs : sel x = true) : sc evs (k + 1) = sc evs k + 1 := by
  rw [sc_next, selI_at hx, hs]; rfl
theorem ord_bad {devs : List Dev} {evs : List Ev} {k : Nat} {x : Ev} (hx : evs[k]? = some x) (hs : sel x = true) (hno : ∀ j, j < sc evs k → badAt devs (selE evs) j = false) (hb : oBad (oSt devs (selE evs) (sc evs k)) x) : ordF devs evs = (k : Int) := by
  refine ordF_some (selIds_at (List.getElem?_eq_some_iff.1 hx).1 (by rw [selI_at hx]; exact hs)) hno ?_
  unfold badAt
  rw [selE_sc hx hs]
  exact decide_eq_true hb
theorem sel_iff (x : Ev) : sel x = true ↔ (x.kind = 98 ∨ x.kind = 101) ∧ 0 ≤ x.task ∧ x.task < 3 := by
  unfold sel
  simp only [Bool.and_eq_true, Bool.or_eq_true, beq_iff_eq, decide_eq_true_eq]
theorem ord_step {devs : List Dev} {evs : List Ev} {k : Nat} {x : Ev} (hx : evs[k]? = some x) (ht : 0 ≤ x.task ∧ x.task < 3) (hno : ∀ j, j < sc evs k → badAt devs (selE evs) j = false) (hb : ¬ (x.kind = 101 ∧ oBad (oSt devs (selE evs) (sc evs k)) x)) :
    oSt devs (selE evs) (sc evs (k + 1)) = oStep devs (oSt devs (selE evs) (sc evs k)) x ∧ ∀ j, j < sc evs (k + 1) → badAt devs (selE evs) j = false := by
  by_cases hs : sel x = true
  · rw [ord_in hx hs]
    refine ⟨oSt_next (selE_sc hx hs), fun j hj => ?_⟩
    rcases Nat.lt_or_ge j (sc evs k) with h1 | h1
    · exact hno j h1
    · obtain rfl : j = sc evs k := by omega
      unfold badAt
      rw [selE_sc hx hs]
      refine decide_eq_false fun h => ?_
      rcases ((sel_iff x).1 hs).1 with h98 | h101
      · exact h.1 h98
      · exact hb ⟨h101, h⟩
  · have hs' : sel x = false := by simpa using hs
    rw [ord_skip hx hs']
    refine ⟨?_, hno⟩
    rw [oStep, if_neg (fun h => hs ((sel_iff x).2 ⟨.inl h, ht⟩))]
theorem oStep_len {devs : List Dev} {σ : Ost} {x : Ev} (h : σ.last.length = 3) : (oStep devs σ x).last.length = 3 := by
  unfold oStep
  split
  · simpa using h
  · exact h
def slR (nd g : Nat) : Value := .slice (some ⟨g, 0, none⟩) nd nd
def heldC (nd : Nat) : List Nat → List Value
  | [] => [.slice none 0 0, .slice none 0 0, .slice none 0 0]
  | [a] => [slR nd a, .slice none 0 0, .slice none 0 0]
  | [a, b] => [slR nd a, slR nd b, .slice none 0 0]
  | a :: b :: c :: _ => [slR nd a, slR nd b, slR nd c]
theorem len3 {l : List Nat} (h : l.length = 3) : ∃ a b c, l = [a, b, c] := by
  match l, h with
  | [a, b, c], _ => exact ⟨a, b, c, rfl⟩
theorem ev_call2 {x : Ev} {f : Nat} {v : Value} (hv : [Value.int .u8 x.ck, .int .i64 x.dev, .int .i64 x.reg, .int .u32 x.cv][f]? = some v) : ([.int .u8 x.kind, .int .i64 x.task, .int .u8 x.ck, .int .i64 x.dev, .int .i64 x.reg, .int .u32 x.cv, .int .i64 x.err, .int .u32 x.rv, .int .i64 x.aid, .int .i64 x.adev, .bool x.adead, .int .u32 x.av, .bool x.alive, .slice x.wA x.ws.length x.wc] : List Value)[2 + f]? = some v := by
  match f, hv with
  | 0, hv => exact hv
  | 1, hv => exact hv
  | 2, hv => exact hv
  | 3, hv => exact hv
  | f + 4, hv => simp at hv

set_option maxHeartbeats 4000000 in
set_option maxRecDepth 10000 in
theorem refOrdA_any (s : Soc) (A1 A2 A3 A4 : Option Addr) (n1 k1 n2 k2 n3 k3 n4 k4 : Nat) (A : Option Addr) (n c : Nat) (evs : List Ev) (w : World) (hW : SocW w s A1 n1 A2 n2 A3 n3 A4 n4) (hm : s.made) (hE : EvS (all w) A evs) (hn : n = evs.length) (hn2 : n ≤ 1000000) :
    Calls Tryz.prog 11 #[.agg #[.slice A1 n1 k1, .slice A2 n2 k2, .slice A3 n3 k3, .slice A4 n4 k4], .slice A n c] w (Rt (.tuple #[.int .i64 (ordF s.devs evs), .int .i64 0]) w) := by
  obtain rfl := hW.len4
  have hnv := hm.nv
  refine XK.enter (vs := [.agg #[.slice A1 n1 k1, .slice A2 n2 k2, .slice A3 n3 k3, .slice A4 s.devs.length k4], .slice A n c]) Tryz.func11 rfl Tryz.ntmps11 (by simp) ?_
  refine XK.seq ?_

  refine XK.region ?_
  refine xk_box rfl (by decide) fun g1 => ?_
  refine xk_assign rfl (by decide) ?_
  refine xk_assign rfl (by decide) ?_
  refine XK.nilN ?_
  refine XK.seq ?_

  refine XK.region ?_
  refine xk_ldN 4 rfl ?_
  refine xk_callN (f := 44) (fi := []) (ca := []) (by kernel_rfl) rfl rfl (by decide) (NewR s) (fun w1 st => rnew_ok s A1 A2 A3 A4 n1 k1 n2 k2 n3 k3 s.devs.length k4 w1 (hW.le (st.started (by simp))) hm) ?_
  rintro _ _ qn ⟨gc, gn, V, rfl, rfl⟩ _
  dsimp only [List.cons_append, List.nil_append]
  refine xk_move rfl (by decide) ?_
  refine xk_extract rfl rfl (by decide) ?_
  refine xk_extract rfl rfl (by decide) ?_
  refine xk_assign rfl (by decide) ?_
  refine xk_assign rfl (by decide) ?_
  refine XK.nilN ?_
  refine XK.seq ?_
  refine XK.seq ?_

  refine XK.region ?_
  refine xk_move rfl (by decide) ?_
  refine xk_neq rfl rfl (by decide) ?_
  refine XK.nilN ?_
  refine XK.if_ rfl (fun h => absurd rfl h) (fun h => ?_)

  ·
    refine XK.skip ?_
    refine XK.norm ?_
    refine XK.seq ?_

    refine XK.region ?_
    refine xk_alloc (cs := [.slice none 0 0, .slice none 0 0, .slice none 0 0]) (zeroB_of (by kernel_rfl)) (by decide) fun g2 => ?_
    refine XK.nilN ?_
    refine XK.seq ?_
    refine XK.seq ?_

    refine XK.region ?_
    refine xk_assign rfl (by decide) ?_
    refine XK.nilN ?_
    refine XK.envS [(9, .int .i64 0), (8, .pointer (some ⟨g2, 0, none⟩)), (6, .pointer (some ⟨gc, 0, none⟩)), (2, .pointer (some ⟨g1, 0, none⟩)), (1, .slice A n c)] ?_
    refine XK.block ?_
    refine XK.loop (fun m e R H => ∃ (j : Nat) (gs : List Nat), gs.length = j ∧ j ≤ 3 ∧ m = 3 - j ∧ e = [(9, .int .i64 (j : Int)), (8, .pointer (some ⟨g2, 0, none⟩)), (6, .pointer (some ⟨gc, 0, none⟩)), (2, .pointer (some ⟨g1, 0, none⟩)), (1, .slice A n c)] ∧ R = [qn, all w] ∧ H = HP.blk g2 122 (heldC s.devs.length gs) :: (gs.map (fun g => HP.blk g 3 (intCells (List.replicate s.devs.length 0))) ++ [RnH gc gn V s.devs.length ⟨List.replicate s.devs.length 0, false⟩, HP.blk g1 30 [.slice A1 n1 k1, .slice A2 n2 k2, .slice A3 n3 k3, .slice A4 s.devs.length k4]])) 3 ⟨0, [], rfl, by omega, rfl, rfl, rfl, rfl⟩ fun m e R H hI => ?_
    obtain ⟨j, gs, hgl, hj3, rfl, rfl, rfl, rfl⟩ := hI
    refine XK.seq ?_
    refine XK.seq ?_

    refine XK.region ?_
    refine xk_move rfl (by decide) ?_
    refine xk_lss rfl rfl (by decide) ?_
    refine XK.nilN ?_
    refine XK.if_ rfl (fun hjl => ?_) (fun hjl => ?_)
    ·
      have hj' : j < 3 := by have h' : (j : Int) < 3 := hjl; omega
      rcases gs with _ | ⟨a, _ | ⟨b, _ | ⟨c3, r3⟩⟩⟩
      · obtain rfl : j = 0 := by simpa using hgl.symm
        dsimp only [List.map, List.cons_append, List.nil_append]
        rw [show heldC s.devs.length [] = [.slice none 0 0, .slice none 0 0, .slice none 0 0] from rfl]
        refine XK.skip ?_
        refine XK.norm ?_
        refine XK.seq ?_
        refine XK.block ?_
        refine XK.region ?_
        refine xk_move rfl (by decide) ?_
        refine xk_field (off := 3) (by kernel_rfl) rfl (by decide) ?_
        refine xk_ld rfl ?_
        refine xk_len (el := 94) (by kernel_rfl) rfl (by decide) ?_
        refine xk_makeT 8 (n := s.devs.length) (el := 3) (z := .int .i64 0) (by kernel_rfl) (by kernel_rfl) rfl rfl rfl (by omega) (by omega) (by decide) fun g3 => ?_
        rw [show List.replicate s.devs.length (Value.int .i64 0) = intCells (List.replicate s.devs.length 0) by simp [intCells]]
        refine xk_atA 0 0 (el := 22) (sz := 1) (by kernel_rfl) (by kernel_rfl) rfl rfl (by omega) (by omega) (by omega) (by decide) ?_
        refine xk_st rfl rfl ?_; dsimp only [List.set]
        refine XK.nilN ?_
        refine XK.region ?_
        refine xk_move rfl (by decide) ?_
        refine xk_add rfl rfl (wrap_in (by omega)) (by decide) ?_
        refine xk_assign rfl (by decide) ?_
        refine XK.nilN ?_
        exact XK.weak [1, 0, 2, 3] rfl (by decide) (fun _ h => h) (XK.envS [(9, .int .i64 (((0 : Nat) : Int) + 1)), (8, .pointer (some ⟨g2, 0, none⟩)), (6, .pointer (some ⟨gc, 0, none⟩)), (2, .pointer (some ⟨g1, 0, none⟩)), (1, .slice A n c)] (XK.round (3 - (0 + 1)) (by omega) ⟨0 + 1, [] ++ [g3], rfl, by omega, rfl, rfl, rfl, rfl⟩))
      · obtain rfl : j = 1 := by simpa using hgl.symm
        dsimp only [List.map, List.cons_append, List.nil_append]
        rw [show heldC s.devs.length [a] = [slR s.devs.length a, .slice none 0 0, .slice none 0 0] from rfl]
        refine XK.skip ?_
        refine XK.norm ?_
        refine XK.seq ?_
        refine XK.block ?_
        refine XK.region ?_
        refine xk_move rfl (by decide) ?_
        refine xk_field (off := 3) (by kernel_rfl) rfl (by decide) ?_
        refine xk_ld rfl ?_
        refine xk_len (el := 94) (by kernel_rfl) rfl (by decide) ?_
        refine xk_makeT 8 (n := s.devs.length) (el := 3) (z := .int .i64 0) (by kernel_rfl) (by kernel_rfl) rfl rfl rfl (by omega) (by omega) (by decide) fun g3 => ?_
        rw [show List.replicate s.devs.length (Value.int .i64 0) = intCells (List.replicate s.devs.length 0) by simp [intCells]]
        refine xk_atA 1 1 (el := 22) (sz := 1) (by kernel_rfl) (by kernel_rfl) rfl rfl (by omega) (by omega) (by omega) (by decide) ?_
        refine xk_st rfl rfl ?_; dsimp only [List.set]
        refine XK.nilN ?_
        refine XK.region ?_
        refine xk_move rfl (by decide) ?_
        refine xk_add rfl rfl (wrap_in (by omega)) (by decide) ?_
        refine xk_assign rfl (by decide) ?_
        refine XK.nilN ?_
        exact XK.weak [1, 2, 0, 3, 4] rfl (by decide) (fun _ h => h) (XK.envS [(9, .int .i64 (((1 : Nat) : Int) + 1)), (8, .pointer (some ⟨g2, 0, none⟩)), (6, .pointer (some ⟨gc, 0, none⟩)), (2, .pointer (some ⟨g1, 0, none⟩)), (1, .slice A n c)] (XK.round (3 - (1 + 1)) (by omega) ⟨1 + 1, [a] ++ [g3], rfl, by omega, rfl, rfl, rfl, rfl⟩))
      · obtain rfl : j = 2 := by simpa using hgl.symm
        dsimp only [List.map, List.cons_append, List.nil_append]
        rw [show heldC s.devs.length [a, b] = [slR s.devs.length a, slR s.devs.length b, .slice none 0 0] from rfl]
        refine XK.skip ?_
        refine XK.norm ?_
        refine XK.seq ?_
        refine XK.block ?_
        refine XK.region ?_
        refine xk_move rfl (by decide) ?_
        refine xk_field (off := 3) (by kernel_rfl) rfl (by decide) ?_
        refine xk_ld rfl ?_
        refine xk_len (el := 94) (by kernel_rfl) rfl (by decide) ?_
        refine xk_makeT 8 (n := s.devs.length) (el := 3) (z := .int .i64 0) (by kernel_rfl) (by kernel_rfl) rfl rfl rfl (by omega) (by omega) (by decide) fun g3 => ?_
        rw [show List.replicate s.devs.length (Value.int .i64 0) = intCells (List.replicate s.devs.length 0) by simp [intCells]]
        refine xk_atA 2 2 (el := 22) (sz := 1) (by kernel_rfl) (by kernel_rfl) rfl rfl (by omega) (by omega) (by omega) (by decide) ?_
        refine xk_st rfl rfl ?_; dsimp only [List.set]
        refine XK.nilN ?_
        refine XK.region ?_
        refine xk_move rfl (by decide) ?_
        refine xk_add rfl rfl (wrap_in (by omega)) (by decide) ?_
        refine xk_assign rfl (by decide) ?_
        refine XK.nilN ?_
        exact XK.weak [1, 2, 3, 0, 4, 5] rfl (by decide) (fun _ h => h) (XK.envS [(9, .int .i64 (((2 : Nat) : Int) + 1)), (8, .pointer (some ⟨g2, 0, none⟩)), (6, .pointer (some ⟨gc, 0, none⟩)), (2, .pointer (some ⟨g1, 0, none⟩)), (1, .slice A n c)] (XK.round (3 - (2 + 1)) (by omega) ⟨2 + 1, [a, b] ++ [g3], rfl, by omega, rfl, rfl, rfl, rfl⟩))
      · exact absurd hgl (by simp only [List.length_cons]; omega)
    ·
      refine XK.exit ?_
      refine XK.norm ?_
      refine XK.seq ?_
      obtain rfl : j = 3 := by have h' : ¬ (j : Int) < 3 := hjl; omega
      obtain ⟨r0, r1, r2, rfl⟩ := len3 hgl
      dsimp only [List.map, List.cons_append, List.nil_append]
      rw [show heldC s.devs.length [r0, r1, r2] = [slR s.devs.length r0, slR s.devs.length r1, slR s.devs.length r2] from rfl]

      refine XK.region ?_
      refine xk_alloc (cs := [.int .i64 0, .int .i64 0, .int .i64 0]) (zeroB_of (by kernel_rfl)) (by decide) fun g4 => ?_
      refine XK.nilN ?_
      refine XK.seq ?_
      refine XK.seq ?_

      refine XK.region ?_
      refine xk_assign rfl (by decide) ?_
      refine XK.nilN ?_
      refine XK.envS [(11, .int .i64 0), (10, .pointer (some ⟨g4, 0, none⟩)), (8, .pointer (some ⟨g2, 0, none⟩)), (6, .pointer (some ⟨gc, 0, none⟩)), (2, .pointer (some ⟨g1, 0, none⟩)), (1, .slice A n c)] ?_
      refine XK.block ?_
      refine XK.loop (fun m e R H => ∃ (k : Nat) (r : Rn) (h0 h1 h2 la : List Int), k ≤ n ∧ Sim s.devs.length (oSt s.devs (selE evs) (sc evs k)).x r [h0, h1, h2] ∧ la = (oSt s.devs (selE evs) (sc evs k)).last ∧ (∀ j, j < sc evs k → badAt s.devs (selE evs) j = false) ∧ m = n - k ∧ e = [(11, .int .i64 k), (10, .pointer (some ⟨g4, 0, none⟩)), (8, .pointer (some ⟨g2, 0, none⟩)), (6, .pointer (some ⟨gc, 0, none⟩)), (2, .pointer (some ⟨g1, 0, none⟩)), (1, .slice A n c)] ∧ R = [qn, all w] ∧ H = [HP.blk g4 117 (iCells la), HP.blk g2 122 [slR s.devs.length r0, slR s.devs.length r1, slR s.devs.length r2], HP.blk r0 3 (intCells h0), HP.blk r1 3 (intCells h1), HP.blk r2 3 (intCells h2), RnH gc gn V s.devs.length r, HP.blk g1 30 [.slice A1 n1 k1, .slice A2 n2 k2, .slice A3 n3 k3, .slice A4 s.devs.length k4]]) n ⟨0, _, _, _, _, [0, 0, 0], by omega, Sim.start _, rfl, (fun j hj => absurd hj (Nat.not_lt_zero _)), rfl, rfl, rfl, rfl⟩ fun m e R H hI => ?_
      obtain ⟨k, r, h0, h1, h2, la, hk, hsim, hla, hno, rfl, rfl, rfl, rfl⟩ := hI
      refine XK.seq ?_
      refine XK.seq ?_

      refine XK.region ?_
      refine xk_move rfl (by decide) ?_
      refine xk_move rfl (by decide) ?_
      refine xk_len (el := 103) (by kernel_rfl) rfl (by decide) ?_
      refine xk_lss rfl rfl (by decide) ?_
      refine XK.nilN ?_
      refine XK.if_ rfl (fun hin => ?_) (fun hin => ?_)
      ·
        refine XK.skip ?_
        refine XK.norm ?_
        refine XK.seq ?_
        refine XK.block ?_
        refine XK.seq ?_
        have hkn : k < n := by have h' : (k : Int) < (n : Int) := hin; omega
        obtain ⟨x, hx⟩ : ∃ x, evs[k]? = some x := ⟨_, List.getElem?_eq_getElem (by omega)⟩
        obtain ⟨bE, oE, rfl, hzE, hcE⟩ := hE.at2 hx
        have hstep := fun ht hb => ord_step (devs := s.devs) hx ht hno hb
        have hbad := fun hs hb => ord_bad (devs := s.devs) hx hs hno hb
        have hskip := fun hs => ord_skip hx hs
        have hl3 : (oSt s.devs (selE evs) (sc evs k)).last.length = 3 := (oSt_len _ _ _).1
        obtain ⟨σ, hσ⟩ : ∃ σ, σ = (oSt s.devs (selE evs) (sc evs k)) := ⟨_, rfl⟩
        rw [← hσ] at hsim hla hstep hbad hl3

        refine XK.region ?_
        refine xk_move rfl (by decide) ?_
        refine xk_move rfl (by decide) ?_
        refine xk_at k (oE + k * 14) (el := 103) (sz := 14) (by kernel_rfl) (by kernel_rfl) rfl rfl (by omega) (by omega) (by omega) (by decide) ?_
        refine xk_loadN 14 (by kernel_rfl) rfl (RdN.of (vs := [.int .u8 x.kind, .int .i64 x.task, .int .u8 x.ck, .int .i64 x.dev, .int .i64 x.reg, .int .u32 x.cv, .int .i64 x.err, .int .u32 x.rv, .int .i64 x.aid, .int .i64 x.adev, .bool x.adead, .int .u32 x.av, .bool x.alive, .slice x.wA x.ws.length x.wc]) fun j v hj => Rd.ro (p := all w) (by simp) hzE (hcE j v hj)) rfl (by decide) ?_
        refine xk_alloc (cs := [.int .u8 0, .int .i64 0, .int .u8 0, .int .i64 0, .int .i64 0, .int .u32 0, .int .i64 0, .int .u32 0, .int .i64 0, .int .i64 0, .bool false, .int .u32 0, .bool false, .slice none 0 0]) (zeroB_of (by kernel_rfl)) (by decide) fun g5 => ?_
        (first | (refine xk_storeN 0 rfl rfl rfl (by kernel_rfl) (by simp [Value.cells, Value.oneCell']) (by simp [Value.cells]) ?_) | (refine xk_storeN 1 rfl rfl rfl (by kernel_rfl) (by simp [Value.cells, Value.oneCell']) (by simp [Value.cells]) ?_) | (refine xk_storeN 2 rfl rfl rfl (by kernel_rfl) (by simp [Value.cells, Value.oneCell']) (by simp [Value.cells]) ?_) | (refine xk_storeN 3 rfl rfl rfl (by kernel_rfl) (by simp [Value.cells, Value.oneCell']) (by simp [Value.cells]) ?_) | (refine xk_storeN 4 rfl rfl rfl (by kernel_rfl) (by simp [Value.cells, Value.oneCell']) (by simp [Value.cells]) ?_) | (refine xk_storeN 5 rfl rfl rfl (by kernel_rfl) (by simp [Value.cells, Value.oneCell']) (by simp [Value.cells]) ?_) | (refine xk_storeN 6 rfl rfl rfl (by kernel_rfl) (by simp [Value.cells, Value.oneCell']) (by simp [Value.cells]) ?_) | (refine xk_storeN 7 rfl rfl rfl (by kernel_rfl) (by simp [Value.cells, Value.oneCell']) (by simp [Value.cells]) ?_) | (refine xk_storeN 8 rfl rfl rfl (by kernel_rfl) (by simp [Value.cells, Value.oneCell']) (by simp [Value.cells]) ?_)); simp only [putN, Value.cells, List.set, List.take, List.drop, List.nil_append, List.append_nil, List.length_cons, List.length_nil, List.cons_append, Nat.reduceAdd]
        refine XK.nilN ?_
        refine XK.seq ?_
        refine XK.cutB 49 (x.task < 0 ∨ 2 < x.task) ?_ ?_
        · skip

          refine XK.region ?_
          refine xk_field (off := 1) (by kernel_rfl) rfl (by decide) ?_
          refine xk_ld rfl ?_
          refine xk_lss rfl rfl (by decide) ?_
          refine xk_move rfl (by decide) ?_
          refine xk_split (t := 45) rfl (fun hg45 => ?_) (fun hg45 => ?_)
          ·
            refine xk_guardF rfl rfl rfl (by decide) ?_
            refine xk_guardF rfl rfl rfl (by decide) ?_
            refine xk_guardF rfl rfl rfl (by decide) ?_
            (first | refine xk_pickT rfl rfl (by decide) ?_ | refine xk_pickF rfl rfl (by decide) ?_)
            refine XK.nilN ?_
            exact XK.meetB (by repeat (first | exact trivial | refine ⟨rfl, ?_⟩)) (by first | (refine get_true rfl ?_; omega) | (refine get_iff rfl ?_; omega) | (refine get_false rfl ?_; omega))
          ·
            refine xk_guardT rfl rfl ?_; refine xk_field (off := 1) (by kernel_rfl) rfl (by decide) ?_
            refine xk_guardT rfl rfl ?_; refine xk_ld rfl ?_
            refine xk_guardT rfl rfl ?_; refine xk_gtr rfl rfl (by decide) ?_
            (first | refine xk_pickT rfl rfl (by decide) ?_ | refine xk_pickF rfl rfl (by decide) ?_)
            refine XK.nilN ?_
            exact XK.meetB (by repeat (first | exact trivial | refine ⟨rfl, ?_⟩)) (by first | (refine get_true rfl ?_; omega) | (refine get_iff rfl ?_; omega) | (refine get_false rfl ?_; omega))
        refine XK.if_ rfl (fun htk => ?_) (fun htk => ?_)
        ·
          refine XK.exit ?_
          refine XK.norm ?_

          refine XK.region ?_
          refine xk_move rfl (by decide) ?_
          refine xk_add rfl rfl (wrap_in (by omega)) (by decide) ?_
          refine xk_assign rfl (by decide) ?_
          refine XK.nilN ?_
          have hs0 : sel x = false := by
            cases hs : sel x with
            | false => rfl
            | true => have h2 := ((sel_iff x).1 hs).2; omega
          have hsc := hskip hs0
          exact XK.weak [1, 2, 3, 4, 5, 6, 7] rfl (by decide) (fun _ h => h) (XK.envS [(11, .int .i64 ((k : Int) + 1)), (10, .pointer (some ⟨g4, 0, none⟩)), (8, .pointer (some ⟨g2, 0, none⟩)), (6, .pointer (some ⟨gc, 0, none⟩)), (2, .pointer (some ⟨g1, 0, none⟩)), (1, .slice (some ⟨bE, oE, none⟩) n c)] (XK.round (n - (k + 1)) (by omega) ⟨k + 1, r, h0, h1, h2, la, by omega, by rw [hsc, ← hσ]; exact hsim, by rw [hsc, ← hσ]; exact hla, by rw [hsc]; exact hno, rfl, rfl, rfl, rfl⟩))
        ·
          refine XK.skip ?_
          refine XK.norm ?_
          have ht3 : 0 ≤ x.task ∧ x.task < 3 := by omega
          refine XK.envS [(12, .pointer (some ⟨g5, 0, none⟩)), (11, .int .i64 k), (10, .pointer (some ⟨g4, 0, none⟩)), (8, .pointer (some ⟨g2, 0, none⟩)), (6, .pointer (some ⟨gc, 0, none⟩)), (2, .pointer (some ⟨g1, 0, none⟩)), (1, .slice (some ⟨bE, oE, none⟩) n c)] ?_
          refine XK.cut (fun e R H => ∃ (r' : Rn) (h0' h1' h2' la' : List Int), Sim s.devs.length (oStep s.devs σ x).x r' [h0', h1', h2'] ∧ la' = (oStep s.devs σ x).last ∧ e = [(12, .pointer (some ⟨g5, 0, none⟩)), (11, .int .i64 k), (10, .pointer (some ⟨g4, 0, none⟩)), (8, .pointer (some ⟨g2, 0, none⟩)), (6, .pointer (some ⟨gc, 0, none⟩)), (2, .pointer (some ⟨g1, 0, none⟩)), (1, .slice (some ⟨bE, oE, none⟩) n c)] ∧ R = [qn, all w] ∧ H = [HP.blk g5 103 [.int .u8 x.kind, .int .i64 x.task, .int .u8 x.ck, .int .i64 x.dev, .int .i64 x.reg, .int .u32 x.cv, .int .i64 x.err, .int .u32 x.rv, .int .i64 x.aid, .int .i64 x.adev, .bool x.adead, .int .u32 x.av, .bool x.alive, .slice x.wA x.ws.length x.wc], HP.blk g4 117 (iCells la'), HP.blk g2 122 [slR s.devs.length r0, slR s.devs.length r1, slR s.devs.length r2], HP.blk r0 3 (intCells h0'), HP.blk r1 3 (intCells h1'), HP.blk r2 3 (intCells h2'), RnH gc gn V s.devs.length r', HP.blk g1 30 [.slice A1 n1 k1, .slice A2 n2 k2, .slice A3 n3 k3, .slice A4 s.devs.length k4]]) ?_ ?_
          ·
            refine XK.seq ?_

            refine XK.region ?_
            refine xk_field (off := 0) (by kernel_rfl) rfl (by decide) ?_
            refine xk_ld rfl ?_
            refine xk_eql rfl rfl (by decide) ?_
            refine XK.nilN ?_
            refine XK.if_ rfl (fun h98 => ?_) (fun h98 => ?_)
            ·
              have hos : oStep s.devs σ x = ⟨(effF s.devs σ.x x.task.toNat x.ck x.dev x.reg).2, σ.last.set x.task.toNat (effF s.devs σ.x x.task.toNat x.ck x.dev x.reg).1⟩ := if_pos h98
              rcases (by omega : x.task = 0 ∨ x.task = 1 ∨ x.task = 2) with ht | ht | ht
              · have htn : x.task.toNat = 0 := by omega
                obtain ⟨hf1, hf2⟩ := hsim.eff (by omega) (t := 0) (l := h0) rfl x.ck x.dev x.reg
                have hrow := hsim.row 0 h0 rfl
                refine XK.weak [3, 6, 1, 4, 5, 0, 2, 7] rfl (by decide) (fun _ h => h) ?_
                refine XK.pair ?_
                refine XK.draw1 [qn, all w] [HP.blk g5 103 [.int .u8 x.kind, .int .i64 x.task, .int .u8 x.ck, .int .i64 x.dev, .int .i64 x.reg, .int .u32 x.cv, .int .i64 x.err, .int .u32 x.rv, .int .i64 x.aid, .int .i64 x.adev, .bool x.adead, .int .u32 x.av, .bool x.alive, .slice x.wA x.ws.length x.wc], HP.blk g2 122 [slR s.devs.length r0, slR s.devs.length r1, slR s.devs.length r2], HP.blk g1 30 [.slice A1 n1 k1, .slice A2 n2 k2, .slice A3 n3 k3, .slice A4 s.devs.length k4]] 11 (by kernel_rfl) (by kernel_rfl) ?_
                refine XA.do_ 0 rfl rfl rfl (by decide) (does_field (off := 1) (by kernel_rfl) rfl) (by kernel_rfl) (fun _ _ _ h => h) (fun _ h => h.tail.tail.tail.tail) ?_
                refine XA.do_ 1 rfl rfl rfl (by decide) (does_ld rfl) (by kernel_rfl) (fun _ _ _ h => h) (fun _ h => h.tail.tail.tail.tail) ?_
                refine XA.do_ 2 rfl rfl rfl (by decide) (does_ldN 4 rfl) (by kernel_rfl) (fun _ _ _ h => h) (fun _ h => h.tail.tail.tail.tail) ?_
                refine XA.do_ 3 rfl rfl rfl (by decide) (does_move rfl) (by kernel_rfl) (fun _ _ _ h => h) (fun _ h => h.tail.tail.tail.tail) ?_
                refine XA.do_ 4 rfl rfl rfl (by decide) (does_field (off := 1) (by kernel_rfl) rfl) (by kernel_rfl) (fun _ _ _ h => h) (fun _ h => h.tail.tail.tail.tail) ?_
                refine XA.do_ 5 rfl rfl rfl (by decide) (does_ld rfl) (by kernel_rfl) (fun _ _ _ h => h) (fun _ h => h.tail.tail.tail.tail) ?_
                refine XA.do_ 6 rfl rfl rfl (by decide) (does_atA 0 0 (n := 3) (el := 22) (sz := 1) (by kernel_rfl) (by kernel_rfl) rfl rfl (by omega) (by omega) (by omega)) (by kernel_rfl) (fun _ _ _ h => h) (fun _ h => h.tail.tail.tail.tail) ?_
                refine XA.do_ 7 rfl rfl rfl (by decide) (does_ld rfl) (by kernel_rfl) (fun _ _ _ h => h) (fun _ h => h.tail.tail.tail.tail) ?_
                refine XA.do_ 8 rfl rfl rfl (by decide) (does_field (off := 2) (by kernel_rfl) rfl) (by kernel_rfl) (fun _ _ _ h => h) (fun _ h => h.tail.tail.tail.tail) ?_
                refine XA.do_ 9 rfl rfl rfl (by decide) (does_loadN 4 (by kernel_rfl) rfl (RdN.of (vs := [.int .u8 x.ck, .int .i64 x.dev, .int .i64 x.reg, .int .u32 x.cv]) fun f v hf => Rd.blk 0 rfl (ev_call2 hf)) rfl) (by kernel_rfl) (fun _ _ _ h => h) (fun _ h => h.tail.tail.tail.tail) ?_
                refine XA.next 10 rfl (by kernel_rfl) ?_
                refine xk_callE (f := 45) (fi := []) (ca := []) 0 (RefH gc gn r0 V s.devs.length (rEff s.devs r h0 x.ck x.dev x.reg).2.1 (rEff s.devs r h0 x.ck x.dev x.reg).2.2) (by kernel_rfl) rfl rfl rfl ⟨by decide, rfl⟩ (fun w1 F1 st hp1 hF1 hle => reff_m gc gn r0 n1 k1 n2 k2 n3 k3 s.devs.length k4 A1 A2 A3 A4 V s.devs r h0 x.ck x.dev x.reg x.cv w1 F1 hp1 hF1 (hW.dev.mono (slq_le (hle (all w) (by simp))) (fun _ _ h => h.mono (slq_le (hle (all w) (by simp))))) rfl hsim.c.len.symm hrow.1.symm (by omega)) ?_
                dsimp only [List.set]
                refine XK.nil ?_; refine XK.thenN ?_; refine XA.back (fun _ h => h.tail.tail.tail.tail) ?_
                refine XA.next 11 rfl (by kernel_rfl) ?_
                refine xk_atA 0 0 (n := 3) (el := 35) (sz := 1) (by kernel_rfl) (by kernel_rfl) rfl rfl (by omega) (by omega) (by omega) (by decide) ?_
                refine XA.bt ?_
                refine XA.next 12 rfl (by kernel_rfl) ?_
                refine xk_store 1 rfl (by kernel_rfl) rfl rfl rfl (by rw [iCells, List.length_map, hla, hl3]; decide) ?_; dsimp only [List.set]; rw [iCells_set]
                refine XA.bt ?_
                refine XA.done (by kernel_rfl) ?_
                refine XK.norm ?_
                unfold RefH
                refine XK.take 0 0 rfl rfl ?_
                dsimp only [List.set]
                refine XK.take 1 1 rfl rfl ?_
                dsimp only [List.set]
                refine XK.weak [6, 3, 7, 1, 4, 5, 0, 8] rfl (by decide) (fun _ h => h) ?_
                exact XK.envS [(12, .pointer (some ⟨g5, 0, none⟩)), (11, .int .i64 k), (10, .pointer (some ⟨g4, 0, none⟩)), (8, .pointer (some ⟨g2, 0, none⟩)), (6, .pointer (some ⟨gc, 0, none⟩)), (2, .pointer (some ⟨g1, 0, none⟩)), (1, .slice (some ⟨bE, oE, none⟩) n c)] (XK.meet ⟨_, _, _, _, _, by rw [hos, htn]; exact hf2, by rw [hos, htn]; show _ = σ.last.set 0 _; rw [← hf1, hla], rfl, rfl, rfl⟩)
              · have htn : x.task.toNat = 1 := by omega
                obtain ⟨hf1, hf2⟩ := hsim.eff (by omega) (t := 1) (l := h1) rfl x.ck x.dev x.reg
                have hrow := hsim.row 1 h1 rfl
                refine XK.weak [4, 6, 1, 3, 5, 0, 2, 7] rfl (by decide) (fun _ h => h) ?_
                refine XK.pair ?_
                refine XK.draw1 [qn, all w] [HP.blk g5 103 [.int .u8 x.kind, .int .i64 x.task, .int .u8 x.ck, .int .i64 x.dev, .int .i64 x.reg, .int .u32 x.cv, .int .i64 x.err, .int .u32 x.rv, .int .i64 x.aid, .int .i64 x.adev, .bool x.adead, .int .u32 x.av, .bool x.alive, .slice x.wA x.ws.length x.wc], HP.blk g2 122 [slR s.devs.length r0, slR s.devs.length r1, slR s.devs.length r2], HP.blk g1 30 [.slice A1 n1 k1, .slice A2 n2 k2, .slice A3 n3 k3, .slice A4 s.devs.length k4]] 11 (by kernel_rfl) (by kernel_rfl) ?_
                refine XA.do_ 0 rfl rfl rfl (by decide) (does_field (off := 1) (by kernel_rfl) rfl) (by kernel_rfl) (fun _ _ _ h => h) (fun _ h => h.tail.tail.tail.tail) ?_
                refine XA.do_ 1 rfl rfl rfl (by decide) (does_ld rfl) (by kernel_rfl) (fun _ _ _ h => h) (fun _ h => h.tail.tail.tail.tail) ?_
                refine XA.do_ 2 rfl rfl rfl (by decide) (does_ldN 4 rfl) (by kernel_rfl) (fun _ _ _ h => h) (fun _ h => h.tail.tail.tail.tail) ?_
                refine XA.do_ 3 rfl rfl rfl (by decide) (does_move rfl) (by kernel_rfl) (fun _ _ _ h => h) (fun _ h => h.tail.tail.tail.tail) ?_
                refine XA.do_ 4 rfl rfl rfl (by decide) (does_field (off := 1) (by kernel_rfl) rfl) (by kernel_rfl) (fun _ _ _ h => h) (fun _ h => h.tail.tail.tail.tail) ?_
                refine XA.do_ 5 rfl rfl rfl (by decide) (does_ld rfl) (by kernel_rfl) (fun _ _ _ h => h) (fun _ h => h.tail.tail.tail.tail) ?_
                refine XA.do_ 6 rfl rfl rfl (by decide) (does_atA 1 1 (n := 3) (el := 22) (sz := 1) (by kernel_rfl) (by kernel_rfl) rfl rfl (by omega) (by omega) (by omega)) (by kernel_rfl) (fun _ _ _ h => h) (fun _ h => h.tail.tail.tail.tail) ?_
                refine XA.do_ 7 rfl rfl rfl (by decide) (does_ld rfl) (by kernel_rfl) (fun _ _ _ h => h) (fun _ h => h.tail.tail.tail.tail) ?_
                refine XA.do_ 8 rfl rfl rfl (by decide) (does_field (off := 2) (by kernel_rfl) rfl) (by kernel_rfl) (fun _ _ _ h => h) (fun _ h => h.tail.tail.tail.tail) ?_
                refine XA.do_ 9 rfl rfl rfl (by decide) (does_loadN 4 (by kernel_rfl) rfl (RdN.of (vs := [.int .u8 x.ck, .int .i64 x.dev, .int .i64 x.reg, .int .u32 x.cv]) fun f v hf => Rd.blk 0 rfl (ev_call2 hf)) rfl) (by kernel_rfl) (fun _ _ _ h => h) (fun _ h => h.tail.tail.tail.tail) ?_
                refine XA.next 10 rfl (by kernel_rfl) ?_
                refine xk_callE (f := 45) (fi := []) (ca := []) 0 (RefH gc gn r1 V s.devs.length (rEff s.devs r h1 x.ck x.dev x.reg).2.1 (rEff s.devs r h1 x.ck x.dev x.reg).2.2) (by kernel_rfl) rfl rfl rfl ⟨by decide, rfl⟩ (fun w1 F1 st hp1 hF1 hle => reff_m gc gn r1 n1 k1 n2 k2 n3 k3 s.devs.length k4 A1 A2 A3 A4 V s.devs r h1 x.ck x.dev x.reg x.cv w1 F1 hp1 hF1 (hW.dev.mono (slq_le (hle (all w) (by simp))) (fun _ _ h => h.mono (slq_le (hle (all w) (by simp))))) rfl hsim.c.len.symm hrow.1.symm (by omega)) ?_
                dsimp only [List.set]
                refine XK.nil ?_; refine XK.thenN ?_; refine XA.back (fun _ h => h.tail.tail.tail.tail) ?_
                refine XA.next 11 rfl (by kernel_rfl) ?_
                refine xk_atA 1 1 (n := 3) (el := 35) (sz := 1) (by kernel_rfl) (by kernel_rfl) rfl rfl (by omega) (by omega) (by omega) (by decide) ?_
                refine XA.bt ?_
                refine XA.next 12 rfl (by kernel_rfl) ?_
                refine xk_store 1 rfl (by kernel_rfl) rfl rfl rfl (by rw [iCells, List.length_map, hla, hl3]; decide) ?_; dsimp only [List.set]; rw [iCells_set]
                refine XA.bt ?_
                refine XA.done (by kernel_rfl) ?_
                refine XK.norm ?_
                unfold RefH
                refine XK.take 0 0 rfl rfl ?_
                dsimp only [List.set]
                refine XK.take 1 1 rfl rfl ?_
                dsimp only [List.set]
                refine XK.weak [6, 3, 7, 4, 1, 5, 0, 8] rfl (by decide) (fun _ h => h) ?_
                exact XK.envS [(12, .pointer (some ⟨g5, 0, none⟩)), (11, .int .i64 k), (10, .pointer (some ⟨g4, 0, none⟩)), (8, .pointer (some ⟨g2, 0, none⟩)), (6, .pointer (some ⟨gc, 0, none⟩)), (2, .pointer (some ⟨g1, 0, none⟩)), (1, .slice (some ⟨bE, oE, none⟩) n c)] (XK.meet ⟨_, _, _, _, _, by rw [hos, htn]; exact hf2, by rw [hos, htn]; show _ = σ.last.set 1 _; rw [← hf1, hla], rfl, rfl, rfl⟩)
              · have htn : x.task.toNat = 2 := by omega
                obtain ⟨hf1, hf2⟩ := hsim.eff (by omega) (t := 2) (l := h2) rfl x.ck x.dev x.reg
                have hrow := hsim.row 2 h2 rfl
                refine XK.weak [5, 6, 1, 3, 4, 0, 2, 7] rfl (by decide) (fun _ h => h) ?_
                refine XK.pair ?_
                refine XK.draw1 [qn, all w] [HP.blk g5 103 [.int .u8 x.kind, .int .i64 x.task, .int .u8 x.ck, .int .i64 x.dev, .int .i64 x.reg, .int .u32 x.cv, .int .i64 x.err, .int .u32 x.rv, .int .i64 x.aid, .int .i64 x.adev, .bool x.adead, .int .u32 x.av, .bool x.alive, .slice x.wA x.ws.length x.wc], HP.blk g2 122 [slR s.devs.length r0, slR s.devs.length r1, slR s.devs.length r2], HP.blk g1 30 [.slice A1 n1 k1, .slice A2 n2 k2, .slice A3 n3 k3, .slice A4 s.devs.length k4]] 11 (by kernel_rfl) (by kernel_rfl) ?_
                refine XA.do_ 0 rfl rfl rfl (by decide) (does_field (off := 1) (by kernel_rfl) rfl) (by kernel_rfl) (fun _ _ _ h => h) (fun _ h => h.tail.tail.tail.tail) ?_
                refine XA.do_ 1 rfl rfl rfl (by decide) (does_ld rfl) (by kernel_rfl) (fun _ _ _ h => h) (fun _ h => h.tail.tail.tail.tail) ?_
                refine XA.do_ 2 rfl rfl rfl (by decide) (does_ldN 4 rfl) (by kernel_rfl) (fun _ _ _ h => h) (fun _ h => h.tail.tail.tail.tail) ?_
                refine XA.do_ 3 rfl rfl rfl (by decide) (does_move rfl) (by kernel_rfl) (fun _ _ _ h => h) (fun _ h => h.tail.tail.tail.tail) ?_
                refine XA.do_ 4 rfl rfl rfl (by decide) (does_field (off := 1) (by kernel_rfl) rfl) (by kernel_rfl) (fun _ _ _ h => h) (fun _ h => h.tail.tail.tail.tail) ?_
                refine XA.do_ 5 rfl rfl rfl (by decide) (does_ld rfl) (by kernel_rfl) (fun _ _ _ h => h) (fun _ h => h.tail.tail.tail.tail) ?_
                refine XA.do_ 6 rfl rfl rfl (by decide) (does_atA 2 2 (n := 3) (el := 22) (sz := 1) (by kernel_rfl) (by kernel_rfl) rfl rfl (by omega) (by omega) (by omega)) (by kernel_rfl) (fun _ _ _ h => h) (fun _ h => h.tail.tail.tail.tail) ?_
                refine XA.do_ 7 rfl rfl rfl (by decide) (does_ld rfl) (by kernel_rfl) (fun _ _ _ h => h) (fun _ h => h.tail.tail.tail.tail) ?_
                refine XA.do_ 8 rfl rfl rfl (by decide) (does_field (off := 2) (by kernel_rfl) rfl) (by kernel_rfl) (fun _ _ _ h => h) (fun _ h => h.tail.tail.tail.tail) ?_
                refine XA.do_ 9 rfl rfl rfl (by decide) (does_loadN 4 (by kernel_rfl) rfl (RdN.of (vs := [.int .u8 x.ck, .int .i64 x.dev, .int .i64 x.reg, .int .u32 x.cv]) fun f v hf => Rd.blk 0 rfl (ev_call2 hf)) rfl) (by kernel_rfl) (fun _ _ _ h => h) (fun _ h => h.tail.tail.tail.tail) ?_
                refine XA.next 10 rfl (by kernel_rfl) ?_
                refine xk_callE (f := 45) (fi := []) (ca := []) 0 (RefH gc gn r2 V s.devs.length (rEff s.devs r h2 x.ck x.dev x.reg).2.1 (rEff s.devs r h2 x.ck x.dev x.reg).2.2) (by kernel_rfl) rfl rfl rfl ⟨by decide, rfl⟩ (fun w1 F1 st hp1 hF1 hle => reff_m gc gn r2 n1 k1 n2 k2 n3 k3 s.devs.length k4 A1 A2 A3 A4 V s.devs r h2 x.ck x.dev x.reg x.cv w1 F1 hp1 hF1 (hW.dev.mono (slq_le (hle (all w) (by simp))) (fun _ _ h => h.mono (slq_le (hle (all w) (by simp))))) rfl hsim.c.len.symm hrow.1.symm (by omega)) ?_
                dsimp only [List.set]
                refine XK.nil ?_; refine XK.thenN ?_; refine XA.back (fun _ h => h.tail.tail.tail.tail) ?_
                refine XA.next 11 rfl (by kernel_rfl) ?_
                refine xk_atA 2 2 (n := 3) (el := 35) (sz := 1) (by kernel_rfl) (by kernel_rfl) rfl rfl (by omega) (by omega) (by omega) (by decide) ?_
                refine XA.bt ?_
                refine XA.next 12 rfl (by kernel_rfl) ?_
                refine xk_store 1 rfl (by kernel_rfl) rfl rfl rfl (by rw [iCells, List.length_map, hla, hl3]; decide) ?_; dsimp only [List.set]; rw [iCells_set]
                refine XA.bt ?_
                refine XA.done (by kernel_rfl) ?_
                refine XK.norm ?_
                unfold RefH
                refine XK.take 0 0 rfl rfl ?_
                dsimp only [List.set]
                refine XK.take 1 1 rfl rfl ?_
                dsimp only [List.set]
                refine XK.weak [6, 3, 7, 4, 5, 1, 0, 8] rfl (by decide) (fun _ h => h) ?_
                exact XK.envS [(12, .pointer (some ⟨g5, 0, none⟩)), (11, .int .i64 k), (10, .pointer (some ⟨g4, 0, none⟩)), (8, .pointer (some ⟨g2, 0, none⟩)), (6, .pointer (some ⟨gc, 0, none⟩)), (2, .pointer (some ⟨g1, 0, none⟩)), (1, .slice (some ⟨bE, oE, none⟩) n c)] (XK.meet ⟨_, _, _, _, _, by rw [hos, htn]; exact hf2, by rw [hos, htn]; show _ = σ.last.set 2 _; rw [← hf1, hla], rfl, rfl, rfl⟩)
            ·
              refine XK.skip ?_
              refine XK.norm ?_
              have hos : oStep s.devs σ x = σ := if_neg h98
              exact XK.envS [(12, .pointer (some ⟨g5, 0, none⟩)), (11, .int .i64 k), (10, .pointer (some ⟨g4, 0, none⟩)), (8, .pointer (some ⟨g2, 0, none⟩)), (6, .pointer (some ⟨gc, 0, none⟩)), (2, .pointer (some ⟨g1, 0, none⟩)), (1, .slice (some ⟨bE, oE, none⟩) n c)] (XK.meet ⟨r, h0, h1, h2, la, by rw [hos]; exact hsim, by rw [hos]; exact hla, rfl, rfl, rfl⟩)
          rintro _ _ _ ⟨r', h0', h1', h2', la', hsim', hla', rfl, rfl, rfl⟩
          have hl3' : la'.length = 3 := by rw [hla']; exact oStep_len hl3
          obtain ⟨lv, hlv⟩ : ∃ lv, la'[x.task.toNat]? = some lv := ⟨_, List.getElem?_eq_getElem (by omega)⟩
          refine XK.cutB 13 (x.ck = 114 ∨ x.ck = 119) ?_ ?_
          · skip

            refine XK.region ?_
            refine xk_field (off := 2) (by kernel_rfl) rfl (by decide) ?_
            refine xk_field (off := 0) (by kernel_rfl) rfl (by decide) ?_
            refine xk_ld rfl ?_
            refine xk_eql rfl rfl (by decide) ?_
            refine xk_move rfl (by decide) ?_
            refine xk_split (t := 69) rfl (fun hg69 => ?_) (fun hg69 => ?_)
            ·
              refine xk_guardF rfl rfl rfl (by decide) ?_
              refine xk_guardF rfl rfl rfl (by decide) ?_
              refine xk_guardF rfl rfl rfl (by decide) ?_
              refine xk_guardF rfl rfl rfl (by decide) ?_
              (first | refine xk_pickT rfl rfl (by decide) ?_ | refine xk_pickF rfl rfl (by decide) ?_)
              refine xk_assign rfl (by decide) ?_
              refine XK.nilN ?_
              exact XK.meetB (by repeat (first | exact trivial | refine ⟨rfl, ?_⟩)) (by first | (refine get_true rfl ?_; omega) | (refine get_iff rfl ?_; omega) | (refine get_false rfl ?_; omega))
            ·
              refine xk_guardT rfl rfl ?_; refine xk_field (off := 2) (by kernel_rfl) rfl (by decide) ?_
              refine xk_guardT rfl rfl ?_; refine xk_field (off := 0) (by kernel_rfl) rfl (by decide) ?_
              refine xk_guardT rfl rfl ?_; refine xk_ld rfl ?_
              refine xk_guardT rfl rfl ?_; refine xk_eql rfl rfl (by decide) ?_
              (first | refine xk_pickT rfl rfl (by decide) ?_ | refine xk_pickF rfl rfl (by decide) ?_)
              refine xk_assign rfl (by decide) ?_
              refine XK.nilN ?_
              exact XK.meetB (by repeat (first | exact trivial | refine ⟨rfl, ?_⟩)) (by first | (refine get_true rfl ?_; omega) | (refine get_iff rfl ?_; omega) | (refine get_false rfl ?_; omega))
          refine XK.cutB 104 ((x.kind = 101 ∧ (x.err ≠ lv ∨ (x.rv ≠ 0 ∧ (lv ≠ 0 ∨ ¬ (x.ck = 114 ∨ x.ck = 119)))))) ?_ ?_
          · skip

            refine XK.draw 11 (by kernel_rfl) (by kernel_rfl) ?_
            refine XA.dA 0 rfl rfl rfl (does_field (off := 0) (by kernel_rfl) rfl) ?_
            refine XA.dA 1 rfl rfl rfl (does_ld rfl) ?_
            refine XA.dA 2 rfl rfl rfl (does_eql rfl rfl) ?_
            refine XA.dA 3 rfl rfl rfl (does_move rfl) ?_
            refine XA.split (t := 78) rfl (fun hg78 => ?_) (fun hg78 => ?_)
            ·
              refine XA.dT 4 rfl rfl rfl (does_field (off := 6) (by kernel_rfl) rfl) ?_
              refine XA.dT 5 rfl rfl rfl (does_field (off := 0) (by kernel_rfl) rfl) ?_
              refine XA.dT 6 rfl rfl rfl (does_ld rfl) ?_
              refine XA.dT 7 rfl rfl rfl (does_field (off := 1) (by kernel_rfl) rfl) ?_
              refine XA.dT 8 rfl rfl rfl (does_ld rfl) ?_
              refine XA.dT 9 rfl rfl rfl (does_atA x.task.toNat x.task.toNat (n := 3) (el := 35) (sz := 1) (by kernel_rfl) (by kernel_rfl) rfl rfl (by omega) (by omega) (by omega)) ?_
              refine XA.dT 10 rfl rfl rfl (does_load (by kernel_rfl) rfl (Rd.blk 1 rfl (iCells_at hlv))) ?_
              refine XA.next 11 rfl (by kernel_rfl) ?_
              refine xk_guardT rfl rfl ?_; refine xk_neq rfl rfl (by decide) ?_
              refine XA.bt ?_
              refine XA.next 12 rfl (by kernel_rfl) ?_
              refine xk_guardT rfl rfl ?_; refine xk_move rfl (by decide) ?_
              refine XA.bt ?_
              refine XA.split (t := 87) rfl (fun hg87 => ?_) (fun hg87 => ?_)
              ·
                refine XA.next 13 rfl (by kernel_rfl) ?_
                refine xk_guardF rfl rfl rfl (by decide) ?_
                refine XA.bt ?_
                refine XA.next 14 rfl (by kernel_rfl) ?_
                refine xk_guardF rfl rfl rfl (by decide) ?_
                refine XA.bt ?_
                refine XA.next 15 rfl (by kernel_rfl) ?_
                refine xk_guardF rfl rfl rfl (by decide) ?_
                refine XA.bt ?_
                refine XA.next 16 rfl (by kernel_rfl) ?_
                refine xk_guardF rfl rfl rfl (by decide) ?_
                refine XA.bt ?_
                refine XA.next 17 rfl (by kernel_rfl) ?_
                refine xk_guardF rfl rfl rfl (by decide) ?_
                refine XA.bt ?_
                refine XA.next 18 rfl (by kernel_rfl) ?_
                refine xk_guardU rfl rfl (by decide) ?_
                refine XA.bt ?_
                refine XA.next 19 rfl (by kernel_rfl) ?_
                refine xk_guardU rfl rfl (by decide) ?_
                refine XA.bt ?_
                refine XA.next 20 rfl (by kernel_rfl) ?_
                refine xk_guardU rfl rfl (by decide) ?_
                refine XA.bt ?_
                refine XA.next 21 rfl (by kernel_rfl) ?_
                refine xk_guardU rfl rfl (by decide) ?_
                refine XA.bt ?_
                refine XA.next 22 rfl (by kernel_rfl) ?_
                refine xk_guardU rfl rfl (by decide) ?_
                refine XA.bt ?_
                refine XA.next 23 rfl (by kernel_rfl) ?_
                refine xk_guardU rfl rfl (by decide) ?_
                refine XA.bt ?_
                refine XA.next 24 rfl (by kernel_rfl) ?_
                refine xk_guardU rfl rfl (by decide) ?_
                refine XA.bt ?_
                refine XA.next 25 rfl (by kernel_rfl) ?_
                refine xk_guardU rfl rfl (by decide) ?_
                refine XA.bt ?_
                refine XA.next 26 rfl (by kernel_rfl) ?_
                refine xk_guardU rfl rfl (by decide) ?_
                refine XA.bt ?_
                refine XA.next 27 rfl (by kernel_rfl) ?_
                refine xk_guardF rfl rfl rfl (by decide) ?_
                refine XA.bt ?_
                refine XA.next 28 rfl (by kernel_rfl) ?_
                refine xk_guardT rfl rfl ?_; (first | refine xk_pickT rfl rfl (by decide) ?_ | refine xk_pickF rfl rfl (by decide) ?_)
                refine XA.bt ?_
                refine XA.next 29 rfl (by kernel_rfl) ?_
                (first | refine xk_pickT rfl rfl (by decide) ?_ | refine xk_pickF rfl rfl (by decide) ?_)
                refine XA.bt ?_
                refine XA.done (by kernel_rfl) ?_
                refine XK.norm ?_
                exact XK.meetB (by repeat (first | exact trivial | refine ⟨rfl, ?_⟩)) (by first | (refine get_true rfl ?_; omega) | (refine get_iff rfl ?_; omega) | (refine get_false rfl ?_; omega))
              ·
                refine XA.next 13 rfl (by kernel_rfl) ?_
                refine xk_guardT rfl rfl ?_; refine xk_field (off := 6) (by kernel_rfl) rfl (by decide) ?_
                refine XA.bt ?_
                refine XA.next 14 rfl (by kernel_rfl) ?_
                refine xk_guardT rfl rfl ?_; refine xk_field (off := 1) (by kernel_rfl) rfl (by decide) ?_
                refine XA.bt ?_
                refine XA.next 15 rfl (by kernel_rfl) ?_
                refine xk_guardT rfl rfl ?_; refine xk_ld rfl ?_
                refine XA.bt ?_
                refine XA.next 16 rfl (by kernel_rfl) ?_
                refine xk_guardT rfl rfl ?_; refine xk_neq rfl rfl (by decide) ?_
                refine XA.bt ?_
                refine XA.next 17 rfl (by kernel_rfl) ?_
                refine xk_guardT rfl rfl ?_; refine xk_move rfl (by decide) ?_
                refine XA.bt ?_
                refine XA.split (t := 92) rfl (fun hg92 => ?_) (fun hg92 => ?_)
                ·
                  refine XA.next 18 rfl (by kernel_rfl) ?_
                  refine xk_guardT rfl rfl ?_; refine xk_field (off := 1) (by kernel_rfl) rfl (by decide) ?_
                  refine XA.bt ?_
                  refine XA.next 19 rfl (by kernel_rfl) ?_
                  refine xk_guardT rfl rfl ?_; refine xk_ld rfl ?_
                  refine XA.bt ?_
                  refine XA.next 20 rfl (by kernel_rfl) ?_
                  refine xk_guardT rfl rfl ?_; refine xk_atA x.task.toNat x.task.toNat (n := 3) (el := 35) (sz := 1) (by kernel_rfl) (by kernel_rfl) rfl rfl (by omega) (by omega) (by omega) (by decide) ?_
                  refine XA.bt ?_
                  refine XA.next 21 rfl (by kernel_rfl) ?_
                  refine xk_guardT rfl rfl ?_; refine xk_load (by kernel_rfl) rfl (Rd.blk 1 rfl (iCells_at hlv)) (by decide) ?_
                  refine XA.bt ?_
                  refine XA.next 22 rfl (by kernel_rfl) ?_
                  refine xk_guardT rfl rfl ?_; refine xk_neq rfl rfl (by decide) ?_
                  refine XA.bt ?_
                  refine XA.next 23 rfl (by kernel_rfl) ?_
                  refine xk_guardT rfl rfl ?_; refine xk_move rfl (by decide) ?_
                  refine XA.bt ?_
                  refine XA.split (t := 98) rfl (fun hg98 => ?_) (fun hg98 => ?_)
                  ·
                    refine XA.next 24 rfl (by kernel_rfl) ?_
                    refine xk_guardF rfl rfl rfl (by decide) ?_
                    refine XA.bt ?_
                    refine XA.next 25 rfl (by kernel_rfl) ?_
                    refine xk_guardF rfl rfl rfl (by decide) ?_
                    refine XA.bt ?_
                    refine XA.next 26 rfl (by kernel_rfl) ?_
                    refine xk_guardT rfl rfl ?_; (first | refine xk_pickT rfl rfl (by decide) ?_ | refine xk_pickF rfl rfl (by decide) ?_)
                    refine XA.bt ?_
                    refine XA.next 27 rfl (by kernel_rfl) ?_
                    refine xk_guardT rfl rfl ?_; (first | refine xk_pickT rfl rfl (by decide) ?_ | refine xk_pickF rfl rfl (by decide) ?_)
                    refine XA.bt ?_
                    refine XA.next 28 rfl (by kernel_rfl) ?_
                    refine xk_guardT rfl rfl ?_; (first | refine xk_pickT rfl rfl (by decide) ?_ | refine xk_pickF rfl rfl (by decide) ?_)
                    refine XA.bt ?_
                    refine XA.next 29 rfl (by kernel_rfl) ?_
                    (first | refine xk_pickT rfl rfl (by decide) ?_ | refine xk_pickF rfl rfl (by decide) ?_)
                    refine XA.bt ?_
                    refine XA.done (by kernel_rfl) ?_
                    refine XK.norm ?_
                    exact XK.meetB (by repeat (first | exact trivial | refine ⟨rfl, ?_⟩)) (by first | (refine get_true rfl ?_; omega) | (refine get_iff rfl ?_; omega) | (refine get_false rfl ?_; omega))
                  ·
                    refine XA.next 24 rfl (by kernel_rfl) ?_
                    refine xk_guardT rfl rfl ?_; refine xk_move rfl (by decide) ?_
                    refine XA.bt ?_
                    refine XA.next 25 rfl (by kernel_rfl) ?_
                    refine xk_guardT rfl rfl ?_; refine xk_notD rfl (by decide) ?_
                    refine XA.bt ?_
                    refine XA.next 26 rfl (by kernel_rfl) ?_
                    refine xk_guardT rfl rfl ?_; (first | refine xk_pickT rfl rfl (by decide) ?_ | refine xk_pickF rfl rfl (by decide) ?_)
                    refine XA.bt ?_
                    refine XA.next 27 rfl (by kernel_rfl) ?_
                    refine xk_guardT rfl rfl ?_; (first | refine xk_pickT rfl rfl (by decide) ?_ | refine xk_pickF rfl rfl (by decide) ?_)
                    refine XA.bt ?_
                    refine XA.next 28 rfl (by kernel_rfl) ?_
                    refine xk_guardT rfl rfl ?_; (first | refine xk_pickT rfl rfl (by decide) ?_ | refine xk_pickF rfl rfl (by decide) ?_)
                    refine XA.bt ?_
                    refine XA.next 29 rfl (by kernel_rfl) ?_
                    (first | refine xk_pickT rfl rfl (by decide) ?_ | refine xk_pickF rfl rfl (by decide) ?_)
                    refine XA.bt ?_
                    refine XA.done (by kernel_rfl) ?_
                    refine XK.norm ?_
                    exact XK.meetB (by repeat (first | exact trivial | refine ⟨rfl, ?_⟩)) (by first | (refine get_true rfl ?_; omega) | (refine get_iff rfl ?_; omega) | (refine get_false rfl ?_; omega))
                ·
                  refine XA.next 18 rfl (by kernel_rfl) ?_
                  refine xk_guardF rfl rfl rfl (by decide) ?_
                  refine XA.bt ?_
                  refine XA.next 19 rfl (by kernel_rfl) ?_
                  refine xk_guardF rfl rfl rfl (by decide) ?_
                  refine XA.bt ?_
                  refine XA.next 20 rfl (by kernel_rfl) ?_
                  refine xk_guardF rfl rfl rfl (by decide) ?_
                  refine XA.bt ?_
                  refine XA.next 21 rfl (by kernel_rfl) ?_
                  refine xk_guardF rfl rfl rfl (by decide) ?_
                  refine XA.bt ?_
                  refine XA.next 22 rfl (by kernel_rfl) ?_
                  refine xk_guardF rfl rfl rfl (by decide) ?_
                  refine XA.bt ?_
                  refine XA.next 23 rfl (by kernel_rfl) ?_
                  refine xk_guardF rfl rfl rfl (by decide) ?_
                  refine XA.bt ?_
                  refine XA.next 24 rfl (by kernel_rfl) ?_
                  refine xk_guardU rfl rfl (by decide) ?_
                  refine XA.bt ?_
                  refine XA.next 25 rfl (by kernel_rfl) ?_
                  refine xk_guardU rfl rfl (by decide) ?_
                  refine XA.bt ?_
                  refine XA.next 26 rfl (by kernel_rfl) ?_
                  refine xk_guardF rfl rfl rfl (by decide) ?_
                  refine XA.bt ?_
                  refine XA.next 27 rfl (by kernel_rfl) ?_
                  refine xk_guardT rfl rfl ?_; (first | refine xk_pickT rfl rfl (by decide) ?_ | refine xk_pickF rfl rfl (by decide) ?_)
                  refine XA.bt ?_
                  refine XA.next 28 rfl (by kernel_rfl) ?_
                  refine xk_guardT rfl rfl ?_; (first | refine xk_pickT rfl rfl (by decide) ?_ | refine xk_pickF rfl rfl (by decide) ?_)
                  refine XA.bt ?_
                  refine XA.next 29 rfl (by kernel_rfl) ?_
                  (first | refine xk_pickT rfl rfl (by decide) ?_ | refine xk_pickF rfl rfl (by decide) ?_)
                  refine XA.bt ?_
                  refine XA.done (by kernel_rfl) ?_
                  refine XK.norm ?_
                  exact XK.meetB (by repeat (first | exact trivial | refine ⟨rfl, ?_⟩)) (by first | (refine get_true rfl ?_; omega) | (refine get_iff rfl ?_; omega) | (refine get_false rfl ?_; omega))
            ·
              refine XA.dF 4 rfl rfl rfl rfl ?_
              refine XA.dF 5 rfl rfl rfl rfl ?_
              refine XA.dF 6 rfl rfl rfl rfl ?_
              refine XA.dF 7 rfl rfl rfl rfl ?_
              refine XA.dF 8 rfl rfl rfl rfl ?_
              refine XA.dF 9 rfl rfl rfl rfl ?_
              refine XA.dF 10 rfl rfl rfl rfl ?_
              refine XA.next 11 rfl (by kernel_rfl) ?_
              refine xk_guardF rfl rfl rfl (by decide) ?_
              refine XA.bt ?_
              refine XA.next 12 rfl (by kernel_rfl) ?_
              refine xk_guardF rfl rfl rfl (by decide) ?_
              refine XA.bt ?_
              refine XA.next 13 rfl (by kernel_rfl) ?_
              refine xk_guardU rfl rfl (by decide) ?_
              refine XA.bt ?_
              refine XA.next 14 rfl (by kernel_rfl) ?_
              refine xk_guardU rfl rfl (by decide) ?_
              refine XA.bt ?_
              refine XA.next 15 rfl (by kernel_rfl) ?_
              refine xk_guardU rfl rfl (by decide) ?_
              refine XA.bt ?_
              refine XA.next 16 rfl (by kernel_rfl) ?_
              refine xk_guardU rfl rfl (by decide) ?_
              refine XA.bt ?_
              refine XA.next 17 rfl (by kernel_rfl) ?_
              refine xk_guardU rfl rfl (by decide) ?_
              refine XA.bt ?_
              refine XA.next 18 rfl (by kernel_rfl) ?_
              refine xk_guardU rfl rfl (by decide) ?_
              refine XA.bt ?_
              refine XA.next 19 rfl (by kernel_rfl) ?_
              refine xk_guardU rfl rfl (by decide) ?_
              refine XA.bt ?_
              refine XA.next 20 rfl (by kernel_rfl) ?_
              refine xk_guardU rfl rfl (by decide) ?_
              refine XA.bt ?_
              refine XA.next 21 rfl (by kernel_rfl) ?_
              refine xk_guardU rfl rfl (by decide) ?_
              refine XA.bt ?_
              refine XA.next 22 rfl (by kernel_rfl) ?_
              refine xk_guardU rfl rfl (by decide) ?_
              refine XA.bt ?_
              refine XA.next 23 rfl (by kernel_rfl) ?_
              refine xk_guardU rfl rfl (by decide) ?_
              refine XA.bt ?_
              refine XA.next 24 rfl (by kernel_rfl) ?_
              refine xk_guardU rfl rfl (by decide) ?_
              refine XA.bt ?_
              refine XA.next 25 rfl (by kernel_rfl) ?_
              refine xk_guardU rfl rfl (by decide) ?_
              refine XA.bt ?_
              refine XA.next 26 rfl (by kernel_rfl) ?_
              refine xk_guardU rfl rfl (by decide) ?_
              refine XA.bt ?_
              refine XA.next 27 rfl (by kernel_rfl) ?_
              refine xk_guardU rfl rfl (by decide) ?_
              refine XA.bt ?_
              refine XA.next 28 rfl (by kernel_rfl) ?_
              refine xk_guardF rfl rfl rfl (by decide) ?_
              refine XA.bt ?_
              refine XA.next 29 rfl (by kernel_rfl) ?_
              (first | refine xk_pickT rfl rfl (by decide) ?_ | refine xk_pickF rfl rfl (by decide) ?_)
              refine XA.bt ?_
              refine XA.done (by kernel_rfl) ?_
              refine XK.norm ?_
              exact XK.meetB (by repeat (first | exact trivial | refine ⟨rfl, ?_⟩)) (by first | (refine get_true rfl ?_; omega) | (refine get_iff rfl ?_; omega) | (refine get_false rfl ?_; omega))
          refine XK.if_ rfl (fun hb => ?_) (fun hb => ?_)
          ·
            refine XK.seq ?_

            refine XK.region ?_
            refine xk_move rfl (by decide) ?_
            refine xk_assign rfl (by decide) ?_
            refine xk_assign rfl (by decide) ?_
            refine XK.nilN ?_
            refine XK.ret ?_
            refine XK.norm ?_
            have hos9 : x.kind = 101 → oStep s.devs σ x = σ := fun h => if_neg (by omega)
            have hbe : x.kind = 101 → (oBad σ x ↔ (x.err ≠ lv ∨ (x.rv ≠ 0 ∧ (lv ≠ 0 ∨ ¬ (x.ck = 114 ∨ x.ck = 119))))) := fun h => by
              have hlx : lastAt σ x = lv := by unfold lastAt; rw [← hos9 h, ← hla', hlv]; rfl
              unfold oBad
              rw [hlx]
              exact ⟨fun h2 => h2.2, fun h2 => ⟨by omega, h2⟩⟩
            rw [show ordF s.devs evs = (k : Int) from hbad ((sel_iff x).2 ⟨.inr hb.1, ht3⟩) ((hbe hb.1).2 hb.2)]
            exact XK.ret2 rfl rfl rfl fun w1 st => ⟨rfl, st.below (by simp)⟩
          ·
            refine XK.skip ?_
            refine XK.norm ?_

            refine XK.region ?_
            refine xk_move rfl (by decide) ?_
            refine xk_add rfl rfl (wrap_in (by omega)) (by decide) ?_
            refine xk_assign rfl (by decide) ?_
            refine XK.nilN ?_
            have hos9 : x.kind = 101 → oStep s.devs σ x = σ := fun h => if_neg (by omega)
            have hbe : x.kind = 101 → (oBad σ x ↔ (x.err ≠ lv ∨ (x.rv ≠ 0 ∧ (lv ≠ 0 ∨ ¬ (x.ck = 114 ∨ x.ck = 119))))) := fun h => by
              have hlx : lastAt σ x = lv := by unfold lastAt; rw [← hos9 h, ← hla', hlv]; rfl
              unfold oBad
              rw [hlx]
              exact ⟨fun h2 => h2.2, fun h2 => ⟨by omega, h2⟩⟩
            obtain ⟨hn1, hn2⟩ := hstep ht3 (fun h => hb ⟨h.1, (hbe h.1).1 h.2⟩)
            exact XK.weak [1, 2, 3, 4, 5, 6, 7] rfl (by decide) (fun _ h => h) (XK.envS [(11, .int .i64 ((k : Int) + 1)), (10, .pointer (some ⟨g4, 0, none⟩)), (8, .pointer (some ⟨g2, 0, none⟩)), (6, .pointer (some ⟨gc, 0, none⟩)), (2, .pointer (some ⟨g1, 0, none⟩)), (1, .slice (some ⟨bE, oE, none⟩) n c)] (XK.round (n - (k + 1)) (by omega) ⟨k + 1, r', h0', h1', h2', la', by omega, by rw [hn1]; exact hsim', by rw [hn1]; exact hla', hn2, rfl, rfl, rfl, rfl⟩))
      ·
        refine XK.exit ?_
        refine XK.norm ?_
        refine XK.seq ?_

        refine XK.region ?_
        refine xk_assign rfl (by decide) ?_
        refine xk_assign rfl (by decide) ?_
        refine XK.nilN ?_
        refine XK.ret ?_
        refine XK.norm ?_
        obtain rfl : n = k := by have h' : ¬ (k : Int) < (n : Int) := hin; omega
        rw [hn, sc_all] at hno
        rw [ordF_none hno]
        exact XK.ret2 rfl rfl rfl fun w1 st => ⟨rfl, st.below (by simp)⟩

end Go.Proofs.YtbgibbbggajgaaaGreat
/- audit.Open: its result lies in new memory. -/
namespace Go.Proofs.YtbgibbbggajgaaaGreat
set_option linter.all false
open Go.RowKit Go.Shelf
attribute [local go_sem] Oper.semAt_some
theorem SlS.of_ownB {w w' : World} {e : TypeId} {sz n c : Nat} {A : Option Addr} {xs : List Value} (h : w'.ownsRow w.heap.size e sz (.slice A n c) n xs) : SlS (fresh w w') sz A n xs := by
  refine ⟨h.1, fun hn => ?_⟩
  obtain ⟨g, cap, hv, hb, hlt⟩ := h.form hn
  have hA : A = some ⟨g, 0, none⟩ := by injection hv
  subst hA
  refine ⟨g, 0, rfl, ⟨hb, hlt⟩, fun j u hu => ?_⟩
  have := h.cells (g := g) rfl j u hu
  rw [Nat.zero_add]
  show w'.cell? _ = _
  unfold Addr.add at this
  split at this
  · rename_i hj; subst hj; exact this
  · simpa using this
set_option maxRecDepth 100000 in
set_option maxHeartbeats 2000000 in
theorem open2_any (A : Option Addr) (n c : Nat) (evs : List Ev) (w : World) (h : Evs w w.heap.size A evs) (hn : n = evs.length) (hb : n ≤ 9223372036854775807) :
    Calls Tryz.prog 15 #[.slice A n c] w fun x w' => (∃ A' c', x = .returned (.slice A' (openF evs).length c') ∧ SlS (fresh w w') 1 A' (openF evs).length (intCells (openF evs))) ∧ Below w.heap.size w w' := by
  subst hn
  obtain ⟨b, off, hA, hbB, hcells⟩ := h.places
  refine (callsIn_wide (n := 9)).1 ?_
  refine callsIn_of_wp_marks Tryz.func15 rfl trivial ?_ rfl
  simp only [Tryz.ntmps15, List.size_toArray, List.length_cons, List.length_nil, Nat.reduceAdd, Nat.reduceSub, Array.replicate_succ, Array.replicate_zero, List.push_toArray, List.append_toArray, List.nil_append, List.cons_append]
  gi_wp2_with (refine ⟨trivial, ?_⟩; gi_at_call 42; refine (callsIn_wide.2 (calls_any _ _ _ _)).mono ?_; rintro e w' ⟨rfl, rfl⟩)
  have bM := Blk.new w 124 #[.int .i64 0, .int .i64 0, .int .i64 0]
  have bN := Blk.new (w.alloc (.cells #[.int .i64 0, .int .i64 0, .int .i64 0] 124)) 23 #[.slice A evs.length c]
  rw [World.size_alloc] at bN
  obtain ⟨W0, hW0⟩ : ∃ W0, (w.alloc (.cells #[.int .i64 0, .int .i64 0, .int .i64 0] 124)).alloc (.cells #[.slice A evs.length c] 23) = W0 := ⟨_, rfl⟩
  have hB0 : Below w.heap.size w W0 := by rw [← hW0]; exact ((Below.refl _ w).alloc (Nat.le_refl _) _).alloc (by simp) _
  have hsz : W0.heap.size = w.heap.size + 1 + 1 := by rw [← hW0]; simp
  have cM : Blk W0 w.heap.size 124 #[.int .i64 0, .int .i64 0, .int .i64 0] := by rw [← hW0]; exact bM.alloc _
  have cN : Blk W0 (w.heap.size + 1) 23 #[.slice A evs.length c] := by rw [← hW0]; exact bN
  rw [hW0]
  clear bM bN hW0
  refine range_law (gf := 66) (lb := #[.pointer (some ⟨w.heap.size + 1, 0, none⟩)]) rfl (enters_of Tryz.func66 (by kernel_rfl) rfl)
    (calls_stops (w.heap.size + 1) w.heap.size (w.heap.size + 1) (W0.heap.size + 1 + 1) b off c A evs hA hb W0 hbB (fun x f u hu => (hB0.cell (p := ⟨b, off + x.1 * 14 + f, none⟩) (hbB (by have := x.2; omega))).trans (hcells x f u hu)) hB0.size (Nat.le_refl _) cN) Keeps.trans (keeps_b (by omega) (by omega)) (Below.refl _ _) (fun _ => rfl)
    (fun pre W => Blk W w.heap.size 124 (talCells (evsAt evs (pre.map (·.1)))) ∧ Below w.heap.size w W)
    (fun _ _ _ => False)
    (OwnFrom.and ((blk_own _ _ _).from _) (ownFrom_below (Nat.le_refl _) (by omega)))
    (fun _ _ _ _ _ hs _ _ => hs)
    ⟨cM, hB0⟩
    (fun x => { tmps := #[.slice A evs.length c, undef, .slice none 0 0, .pointer (some ⟨w.heap.size, 0, none⟩), undef, .pointer (some ⟨b, off + x.1.1 * 14, none⟩), undef, undef, undef, .slice A evs.length c, .func (.func 66) #[] #[.pointer (some ⟨w.heap.size + 1, 0, none⟩)], .int .i64 (x.1.1 : Int), .pointer (some ⟨b, off + x.1.1 * 14, none⟩), undef, undef, undef, undef, undef, undef, undef, undef, undef, undef, undef, undef, undef, undef, undef, undef, undef, undef, undef, undef, undef, undef, undef, undef, undef, undef, undef, undef, undef, undef, undef, undef, undef, undef], defers := [] }) ?assign ?body ?done ?stop
  case assign =>
    intro l x W K hK
    unfold evEnc
    gi_wp2
    exact hK
  case body =>
    rintro l pre x W ⟨hM, hB⟩ hlen
    have hev := hcells x.1
    have hsel := x.2
    have hbx : b < w.heap.size := hbB (by have := x.1.2; omega)
    have hbd := tal_bd (evsAt evs (pre.map (·.1)))
    have hll : (evsAt evs (pre.map (·.1))).length = pre.length := by simp [evsAt]
    rw [hll] at hbd
    obtain ⟨e, he⟩ : ∃ e, evs[x.1] = e := ⟨_, rfl⟩
    unfold selAt at hsel
    rw [he] at hev hsel
    have hc : ∀ f u, e.cells[f]? = some u → W.cell? ⟨b, off + x.1.1 * 14 + f, none⟩ = some u := fun f u hu => (hB.cell (p := ⟨b, off + x.1.1 * 14 + f, none⟩) hbx).trans (hev f u hu)
    have h0 := hc 0 _ rfl
    have h1 := hc 1 _ rfl
    simp only [Nat.add_zero] at h0
    have hst : talCells (evsAt evs ((pre ++ [x]).map (·.1))) = #[.int .i64 (tal (evsAt evs (pre.map (·.1)) ++ [e]) 0), .int .i64 (tal (evsAt evs (pre.map (·.1)) ++ [e]) 1), .int .i64 (tal (evsAt evs (pre.map (·.1)) ++ [e]) 2)] := by
      rw [List.map_append, List.map_cons, List.map_nil, evsAt_snoc, he]
      rfl
    simp only [tal_snoc] at hst
    have b0 := hbd 0
    have b1 := hbd 1
    have b2 := hbd 2
    unfold talCells at hM
    generalize tal (evsAt evs (pre.map (·.1))) 0 = m0 at *
    generalize tal (evsAt evs (pre.map (·.1))) 1 = m1 at *
    generalize tal (evsAt evs (pre.map (·.1))) 2 = m2 at *
    clear hbd hll hc hev
    have c0 := hM.cell 0
    have c1 := hM.cell 1
    have c2 := hM.cell 2
    simp at c0 c1 c2
    have hf := fun i => hM.frozen i
    simp only [sel, Bool.and_eq_true, Bool.or_eq_true, beq_iff_eq, decide_eq_true_eq] at hsel
    obtain ⟨hk, ht0, ht3⟩ := hsel
    have ht : e.task = 0 ∨ e.task = 1 ∨ e.task = 2 := by omega
    have hp63 : (pre.length : Int) < 9223372036854775807 := by omega
    have hend : ∀ i u, KeepsFrom W0.heap.size W (W.setCell ⟨w.heap.size, i, none⟩ u) ∧ Keeps w.heap.size (w.heap.size + 1) (W0.heap.size + 1 + 1) W (W.setCell ⟨w.heap.size, i, none⟩ u) ∧ Below w.heap.size w (W.setCell ⟨w.heap.size, i, none⟩ u) := fun i u =>
      ⟨(KeepsOthers.setCell _ _ _).from _, (Keeps.refl _ _ _ W).setCell (p := ⟨w.heap.size, i, none⟩) (Nat.le_refl _) (Nat.lt_succ_self _) u, hB.setCell (p := ⟨w.heap.size, i, none⟩) (Nat.le_refl _) u⟩
    clear ht0 ht3 he hlen
    have HST := Lib.hid hst
    clear hst
    rcases ht with ht | ht | ht
    all_goals
      rw [ht] at h1
      have HT := Lib.hid ht
      clear ht
      rcases hk with hk | hk
      · have q : (e.kind == 98) = true := by simp [hk]
        have HK := Lib.hid hk
        clear hk
        gi_wp2
        refine ⟨(hend _ _).1, (hend _ _).2.1, ?_, (hend _ _).2.2⟩
        rw [HST.out]
        refine (hM.set_ _ _).conv ?_
        simp [HT.out, HK.out]
      · have q : (e.kind == 98) = false := by simp [hk]
        have HK := Lib.hid hk
        clear hk
        gi_wp2
        refine ⟨(hend _ _).1, (hend _ _).2.1, ?_, (hend _ _).2.2⟩
        rw [HST.out]
        refine (hM.set_ _ _).conv ?_
        simp [HT.out, HK.out]
  case done =>
    rintro D ys W hD hys ⟨hM, hB⟩ hK
    have hev : evsAt evs (ys.map (·.1)) = evs.filter sel := by
      rw [hys]
      have h1 : ∀ l : List (Fin evs.length), evsAt evs (l.filter (selAt evs)) = (evsAt evs l).filter sel := fun l => by
        unfold evsAt
        rw [List.filter_map]
        rfl
      rw [h1, evsAt_all]
    rw [hev] at hM
    clear hev hys
    obtain ⟨i0, z0, hi, hz, hs, hby, hzs⟩ := info_cells int_info
    have hop : openF evs = ([0, 1, 2] : List Int).filter fun t => decide (0 < tal (evs.filter sel) t) := rfl
    have hbd := tal_bd (evs.filter sel)
    have hle : (evs.filter sel).length ≤ evs.length := List.length_filter_le _ _
    unfold talCells at hM
    obtain ⟨p, hp⟩ : ∃ p : Int → Bool, (fun t => decide (0 < tal (evs.filter sel) t)) = p := ⟨_, rfl⟩
    have p0 : decide (0 < tal (evs.filter sel) 0) = p 0 := by rw [← hp]
    have p1 : decide (0 < tal (evs.filter sel) 1) = p 1 := by rw [← hp]
    have p2 : decide (0 < tal (evs.filter sel) 2) = p 2 := by rw [← hp]
    rw [hp] at hop
    have b0 := hbd 0
    have b1 := hbd 1
    have b2 := hbd 2
    generalize tal (evs.filter sel) 0 = m0 at *
    generalize tal (evs.filter sel) 1 = m1 at *
    generalize tal (evs.filter sel) 2 = m2 at *
    have HOP := Lib.hid hop
    have HP0 := Lib.hid p0
    have HP1 := Lib.hid p1
    have HP2 := Lib.hid p2
    have HI := Lib.hid hi
    have HZ := Lib.hid hz
    have HS := Lib.hid hs
    have HBY := Lib.hid hby
    have HZS := Lib.hid hzs
    clear hop p0 p1 p2 hp hbd hle hi hz hs hby hzs
    have c0 := hM.cell 0
    have c1 := hM.cell 1
    have c2 := hM.cell 2
    simp at c0 c1 c2
    gi_wp2
    clear c0 c1 c2
    have ix0 : ∀ w x0 x1 x2, (Instr.index 124 (.agg #[x0, x1, x2]) (.int .i64 0)).run Tryz.prog w = .ok x0 w := fun _ _ _ _ => by kernel_rfl
    have ix1 : ∀ w x0 x1 x2, (Instr.index 124 (.agg #[x0, x1, x2]) (.int .i64 1)).run Tryz.prog w = .ok x1 w := fun _ _ _ _ => by kernel_rfl
    have ix2 : ∀ w x0 x1 x2, (Instr.index 124 (.agg #[x0, x1, x2]) (.int .i64 2)).run Tryz.prog w = .ok x2 w := fun _ _ _ _ => by kernel_rfl
    gi_loopw [35, 6] (fun i v wr => ∃ k : Int, 0 ≤ k ∧ k ≤ 3 ∧ i = .int .i64 k ∧ wr.ownsRow w.heap.size 3 1 v (upTo p k).length (intCells (upTo p k)) ∧ Below w.heap.size w wr ∧ wr.heap[D]? = some (.deferred (some [])) ∧ v.ownBlock ≠ some D) (fun i _ _ => 3 - (intOf i).toNat)
    case atStart => exact ⟨0, by omega, by omega, rfl, World.ownsRow_nil _ _ _ _, hB, hK, by simp [Value.ownBlock]⟩
    case round =>
      obtain ⟨k, hk0, hk, rfl, hown, hBr, hKr, hne⟩ := hrel
      have hDr := (Array.getElem?_eq_some_iff.1 hKr).1
      have hk4 : k = 0 ∨ k = 1 ∨ k = 2 ∨ k = 3 := by omega
      rcases hk4 with rfl | rfl | rfl | rfl
      · by_cases hm : 0 < m0
        · have hq : decide (0 < m0) = true := by simpa using hm
          have hpk : p 0 = true := by rw [← HP0.out]; exact hq
          have hL : upTo p (0 + 1) = upTo p 0 ++ [0] := by rw [upTo_succ p 0 (by omega), hpk]; rfl
          have hlen : (upTo p 0).length ≤ 3 := upTo_len p 0
          have HL := Lib.hid hL
          clear hpk hq hL
          gi_wp2_with (gi_at_builtin; refine wpListIn_append_sl rfl rfl Tryz.underlying22 HI.out HZ.out HS.out HBY.out HZS.out (by omega) rfl (hown.alloc _) rfl (Sl.of_blk (n := 1) (sz := 1) (Blk.new wr 3 #[.int .i64 0]) rfl) (by simp [Value.oneCell']) (by simp only [maxLen]; omega) (by omega) (by have := hBr.size; simp; omega) ?_; intro v' w1 hown1 hg1 hat1; obtain ⟨g', cap', rfl⟩ := ownsRow_succ hown1)
          have hB1 : Below w.heap.size w w1 := below_app (hBr.alloc hBr.size _) (hown.alloc _) (Nat.le_refl _) (by have := hBr.size; simp; omega) hg1
          have hK1 : w1.heap[D]? = some (.deferred (some [])) := (hg1.block D (by simp; omega) (fun e => hne e.symm)).trans ((Below.heap_alloc wr _ D hDr).trans hKr)
          have hne1 : Value.ownBlock (.slice (some ⟨g', 0, none⟩) ((upTo p 0).length + 1) cap') ≠ some D := by
            rcases hat1 with h | h
            · rw [h]; exact hne
            · rw [h]; simp; omega
          gi_wp2
          go_roundw
          case rel => exact ⟨1, by omega, by omega, rfl, by rw [show (1 : Int) = 0 + 1 from rfl, HL.out]; simpa [intCells] using hown1, hB1, hK1, hne1⟩
          case measure => simp [intOf]
        · have hq : decide (0 < m0) = false := by simpa using hm
          have hpk : p 0 = false := by rw [← HP0.out]; exact hq
          have hL : upTo p (0 + 1) = upTo p 0 := by rw [upTo_succ p 0 (by omega), hpk]; simp
          have HL := Lib.hid hL
          clear hpk hq hL
          gi_wp2
          go_roundw
          case rel => exact ⟨1, by omega, by omega, rfl, by rw [show (1 : Int) = 0 + 1 from rfl, HL.out]; exact hown, hBr, hKr, hne⟩
          case measure => simp [intOf]
      · by_cases hm : 0 < m1
        · have hq : decide (0 < m1) = true := by simpa using hm
          have hpk : p 1 = true := by rw [← HP1.out]; exact hq
          have hL : upTo p (1 + 1) = upTo p 1 ++ [1] := by rw [upTo_succ p 1 (by omega), hpk]; rfl
          have hlen : (upTo p 1).length ≤ 3 := upTo_len p 1
          have HL := Lib.hid hL
          clear hpk hq hL
          gi_wp2_with (gi_at_builtin; refine wpListIn_append_sl rfl rfl Tryz.underlying22 HI.out HZ.out HS.out HBY.out HZS.out (by omega) rfl (hown.alloc _) rfl (Sl.of_blk (n := 1) (sz := 1) (Blk.new wr 3 #[.int .i64 1]) rfl) (by simp [Value.oneCell']) (by simp only [maxLen]; omega) (by omega) (by have := hBr.size; simp; omega) ?_; intro v' w1 hown1 hg1 hat1; obtain ⟨g', cap', rfl⟩ := ownsRow_succ hown1)
          have hB1 : Below w.heap.size w w1 := below_app (hBr.alloc hBr.size _) (hown.alloc _) (Nat.le_refl _) (by have := hBr.size; simp; omega) hg1
          have hK1 : w1.heap[D]? = some (.deferred (some [])) := (hg1.block D (by simp; omega) (fun e => hne e.symm)).trans ((Below.heap_alloc wr _ D hDr).trans hKr)
          have hne1 : Value.ownBlock (.slice (some ⟨g', 0, none⟩) ((upTo p 1).length + 1) cap') ≠ some D := by
            rcases hat1 with h | h
            · rw [h]; exact hne
            · rw [h]; simp; omega
          gi_wp2
          go_roundw
          case rel => exact ⟨2, by omega, by omega, rfl, by rw [show (2 : Int) = 1 + 1 from rfl, HL.out]; simpa [intCells] using hown1, hB1, hK1, hne1⟩
          case measure => simp [intOf]
        · have hq : decide (0 < m1) = false := by simpa using hm
          have hpk : p 1 = false := by rw [← HP1.out]; exact hq
          have hL : upTo p (1 + 1) = upTo p 1 := by rw [upTo_succ p 1 (by omega), hpk]; simp
          have HL := Lib.hid hL
          clear hpk hq hL
          gi_wp2
          go_roundw
          case rel => exact ⟨2, by omega, by omega, rfl, by rw [show (2 : Int) = 1 + 1 from rfl, HL.out]; exact hown, hBr, hKr, hne⟩
          case measure => simp [intOf]
      · by_cases hm : 0 < m2
        · have hq : decide (0 < m2) = true := by simpa using hm
          have hpk : p 2 = true := by rw [← HP2.out]; exact hq
          have hL : upTo p (2 + 1) = upTo p 2 ++ [2] := by rw [upTo_succ p 2 (by omega), hpk]; rfl
          have hlen : (upTo p 2).length ≤ 3 := upTo_len p 2
          have HL := Lib.hid hL
          clear hpk hq hL
          gi_wp2_with (gi_at_builtin; refine wpListIn_append_sl rfl rfl Tryz.underlying22 HI.out HZ.out HS.out HBY.out HZS.out (by omega) rfl (hown.alloc _) rfl (Sl.of_blk (n := 1) (sz := 1) (Blk.new wr 3 #[.int .i64 2]) rfl) (by simp [Value.oneCell']) (by simp only [maxLen]; omega) (by omega) (by have := hBr.size; simp; omega) ?_; intro v' w1 hown1 hg1 hat1; obtain ⟨g', cap', rfl⟩ := ownsRow_succ hown1)
          have hB1 : Below w.heap.size w w1 := below_app (hBr.alloc hBr.size _) (hown.alloc _) (Nat.le_refl _) (by have := hBr.size; simp; omega) hg1
          have hK1 : w1.heap[D]? = some (.deferred (some [])) := (hg1.block D (by simp; omega) (fun e => hne e.symm)).trans ((Below.heap_alloc wr _ D hDr).trans hKr)
          have hne1 : Value.ownBlock (.slice (some ⟨g', 0, none⟩) ((upTo p 2).length + 1) cap') ≠ some D := by
            rcases hat1 with h | h
            · rw [h]; exact hne
            · rw [h]; simp; omega
          gi_wp2
          go_roundw
          case rel => exact ⟨3, by omega, by omega, rfl, by rw [show (3 : Int) = 2 + 1 from rfl, HL.out]; simpa [intCells] using hown1, hB1, hK1, hne1⟩
          case measure => simp [intOf]
        · have hq : decide (0 < m2) = false := by simpa using hm
          have hpk : p 2 = false := by rw [← HP2.out]; exact hq
          have hL : upTo p (2 + 1) = upTo p 2 := by rw [upTo_succ p 2 (by omega), hpk]; simp
          have HL := Lib.hid hL
          clear hpk hq hL
          gi_wp2
          go_roundw
          case rel => exact ⟨3, by omega, by omega, rfl, by rw [show (3 : Int) = 2 + 1 from rfl, HL.out]; exact hown, hBr, hKr, hne⟩
          case measure => simp [intOf]
      · rw [show upTo p 3 = openF evs from HOP.out.symm] at hown
        obtain ⟨A', c', rfl, hsl⟩ := own_slice hown
        gi_wp2
        refine ⟨by simp, .inl ⟨_, _, rfl, run_takeDeferred hKr, ?_⟩⟩
        have hown2 := ownsRow_putObj hown (.deferred none) hKr rfl
        exact ⟨_, results_tmp rfl _ _ _, ⟨A', c', rfl, SlS.of_ownB hown2⟩, hBr.trans (belowK_b (w := W0) (by omega) _ D _ (.deferred none) hD hKr rfl rfl)⟩
  case stop =>
    rintro D c pre W _ _ h _
    exact h.elim
end Go.Proofs.YtbgibbbggajgaaaGreat
/- The reference's Open and Replies. -/
namespace Go.Proofs.YtbgibbbggajgaaaGreat
set_option linter.all false
open Go.RowKit
def OpenQ (l : List Int) (v : Value) (w w' : World) : Prop := ∃ A c, v = .slice A l.length c ∧ SlS (fresh w w') 1 A l.length (intCells l)
/-- how much oftener task t began than it ended, of those that count -/
def tl (l : List Ev) (t : Int) : Int := tal (l.filter sel) t
theorem tl_snoc (l : List Ev) (x : Ev) (t : Int) (ht : 0 ≤ t ∧ t < 3) : tl (l ++ [x]) t = if x.task = t ∧ x.kind = 98 then tl l t + 1 else if x.task = t ∧ x.kind = 101 then tl l t - 1 else tl l t := by
  unfold tl
  rw [List.filter_append]
  by_cases h1 : x.task = t
  · have h3 : (0 ≤ x.task ∧ x.task < 3) := by omega
    by_cases h98 : x.kind = 98
    · rw [if_pos ⟨h1, h98⟩, show [x].filter sel = [x] by simp [sel, h98, h3], tal_snoc, if_pos h1, if_pos h98]
    · rw [if_neg (fun h => h98 h.2)]
      by_cases h101 : x.kind = 101
      · rw [if_pos ⟨h1, h101⟩, show [x].filter sel = [x] by simp [sel, h101, h3], tal_snoc, if_pos h1, if_neg h98]
      · rw [if_neg (fun h => h101 h.2), show [x].filter sel = [] by simp [sel, h98, h101], List.append_nil]
  · rw [if_neg (fun h => h1 h.1), if_neg (fun h => h1 h.1)]
    by_cases hs : sel x = true
    · rw [show [x].filter sel = [x] by simp [hs], tal_snoc, if_neg h1]
    · rw [show [x].filter sel = [] by simp [hs], List.append_nil]
theorem tl_bd (l : List Ev) (t : Int) : -(l.length : Int) ≤ tl l t ∧ tl l t ≤ l.length := by
  have h := tal_bd (l.filter sel) t
  have h2 := List.length_filter_le sel l
  unfold tl
  omega
def opP (evs : List Ev) (t : Int) : Bool := decide (0 < tl evs t)
set_option maxHeartbeats 1000000 in
theorem refOpen_any (A : Option Addr) (n c : Nat) (evs : List Ev) (w : World) (hE : EvS (all w) A evs) (hn : n = evs.length) (hn2 : n ≤ 1000000) : Calls Tryz.prog 16 #[.slice A n c] w (fun y w' => (∃ v, y = .returned v ∧ OpenQ (openF evs) v w w') ∧ Below w.heap.size w w') := by
  refine XK.enter (vs := [.slice A n c]) Tryz.func16 rfl Tryz.ntmps16 (by simp) ?_
  refine XK.seq ?_

  refine XK.region ?_
  refine xk_assign rfl (by decide) ?_
  refine XK.nilN ?_
  refine XK.seq ?_

  refine XK.region ?_
  refine xk_assign rfl (by decide) ?_
  refine XK.nilN ?_
  refine XK.seq ?_
  refine XK.seq ?_

  refine XK.region ?_
  refine xk_assign rfl (by decide) ?_
  refine XK.nilN ?_
  refine XK.nilrow 3 1 ?_
  refine XK.envS [(4, .int .i64 0), (3, .slice none 0 0), (0, .slice A n c)] ?_
  refine XK.block ?_
  refine XK.loop (fun m e R H => ∃ (t : Nat) (Ao : Option Addr) (co : Nat), t ≤ 3 ∧ m = 3 - t ∧ e = [(4, .int .i64 t), (3, .slice Ao (upTo (opP evs) (t : Int)).length co), (0, .slice A n c)] ∧ R = [all w] ∧ H = [HP.own 3 1 (.slice Ao (upTo (opP evs) (t : Int)).length co) (upTo (opP evs) (t : Int)).length (intCells (upTo (opP evs) (t : Int)))]) 3 ⟨0, none, 0, by omega, rfl, rfl, rfl, rfl⟩ fun m e R H hI => ?_
  obtain ⟨t, Ao, co, ht3, rfl, rfl, rfl, rfl⟩ := hI
  refine XK.seq ?_
  refine XK.seq ?_

  refine XK.region ?_
  refine xk_move rfl (by decide) ?_
  refine xk_lss rfl rfl (by decide) ?_
  refine XK.nilN ?_
  refine XK.if_ rfl (fun htl => ?_) (fun htl => ?_)
  ·
    refine XK.skip ?_
    refine XK.norm ?_
    refine XK.seq ?_
    refine XK.block ?_
    refine XK.seq ?_
    have ht : t < 3 := by have h' : (t : Int) < 3 := htl; omega
    have hup := upTo_succ (opP evs) (t : Int) (by omega)
    have hul := upTo_len (opP evs) (t : Int)
    generalize upTo (opP evs) (t : Int) = l at *

    refine XK.region ?_
    refine xk_assign rfl (by decide) ?_
    refine XK.nilN ?_
    refine XK.seq ?_
    refine XK.seq ?_

    refine XK.region ?_
    refine xk_assign rfl (by decide) ?_
    refine XK.nilN ?_
    refine XK.envS [(6, .int .i64 0), (5, .int .i64 0), (4, .int .i64 t), (3, .slice Ao l.length co), (0, .slice A n c)] ?_
    refine XK.block ?_
    refine XK.loop (fun m e R H => ∃ (k : Nat), k ≤ n ∧ m = n - k ∧ e = [(6, .int .i64 k), (5, .int .i64 (tl (evs.take k) (t : Int))), (4, .int .i64 t), (3, .slice Ao l.length co), (0, .slice A n c)] ∧ R = [all w] ∧ H = [HP.own 3 1 (.slice Ao l.length co) l.length (intCells l)]) n ⟨0, by omega, rfl, rfl, rfl, rfl⟩ fun m e R H hI => ?_
    obtain ⟨k, hk, rfl, rfl, rfl, rfl⟩ := hI
    refine XK.seq ?_
    refine XK.seq ?_

    refine XK.region ?_
    refine xk_move rfl (by decide) ?_
    refine xk_move rfl (by decide) ?_
    refine xk_len (el := 103) (by kernel_rfl) rfl (by decide) ?_
    refine xk_lss rfl rfl (by decide) ?_
    refine XK.nilN ?_
    refine XK.if_ rfl (fun hin => ?_) (fun hin => ?_)
    ·
      refine XK.skip ?_
      refine XK.norm ?_
      refine XK.seq ?_
      refine XK.block ?_
      refine XK.seq ?_
      have hkn : k < n := by have h' : (k : Int) < (n : Int) := hin; omega
      obtain ⟨x, hx⟩ : ∃ x, evs[k]? = some x := ⟨_, List.getElem?_eq_getElem (by omega)⟩
      obtain ⟨bE, oE, rfl, hzE, hcE⟩ := hE.at2 hx
      have hnx : tl (evs.take (k + 1)) (t : Int) = if x.task = (t : Int) ∧ x.kind = 98 then tl (evs.take k) t + 1 else if x.task = (t : Int) ∧ x.kind = 101 then tl (evs.take k) t - 1 else tl (evs.take k) t := by rw [take_snoc hx, tl_snoc _ _ _ (by omega)]
      have hbd := tl_bd (evs.take k) (t : Int)
      rw [List.length_take, show min k evs.length = k by omega] at hbd
      generalize tl (evs.take k) (t : Int) = v at *
      refine XK.cutB 31 (x.task = (t : Int) ∧ x.kind = 98) ?_ ?_
      · skip

        refine XK.region ?_
        refine xk_move rfl (by decide) ?_
        refine xk_move rfl (by decide) ?_
        refine xk_at k (oE + k * 14) (el := 103) (sz := 14) (by kernel_rfl) (by kernel_rfl) rfl rfl (by omega) (by omega) (by omega) (by decide) ?_
        refine xk_field (off := 1) (by kernel_rfl) rfl (by decide) ?_
        refine xk_load (by kernel_rfl) rfl (Rd.ro (p := all w) (by simp) hzE (hcE 1 _ rfl)) (by decide) ?_
        refine xk_move rfl (by decide) ?_
        refine xk_eql rfl rfl (by decide) ?_
        refine xk_move rfl (by decide) ?_
        refine xk_split (t := 24) rfl (fun hg24 => ?_) (fun hg24 => ?_)
        ·
          refine xk_guardT rfl rfl ?_; refine xk_move rfl (by decide) ?_
          refine xk_guardT rfl rfl ?_; refine xk_move rfl (by decide) ?_
          refine xk_guardT rfl rfl ?_; refine xk_at k (oE + k * 14) (el := 103) (sz := 14) (by kernel_rfl) (by kernel_rfl) rfl rfl (by omega) (by omega) (by omega) (by decide) ?_
          refine xk_guardT rfl rfl ?_; refine xk_field (off := 0) (by kernel_rfl) rfl (by decide) ?_
          refine xk_guardT rfl rfl ?_; refine xk_load (by kernel_rfl) rfl (Rd.ro (p := all w) (by simp) hzE (hcE 0 _ rfl)) (by decide) ?_
          refine xk_guardT rfl rfl ?_; refine xk_eql rfl rfl (by decide) ?_
          (first | refine xk_pickT rfl rfl (by decide) ?_ | refine xk_pickF rfl rfl (by decide) ?_)
          refine XK.nilN ?_
          exact XK.meetB (by repeat (first | exact trivial | refine ⟨rfl, ?_⟩)) (by first | (refine get_iff rfl ?_; omega) | (refine get_false rfl ?_; omega))
        ·
          refine xk_guardF rfl rfl rfl (by decide) ?_
          refine xk_guardF rfl rfl rfl (by decide) ?_
          refine xk_guardF rfl rfl rfl (by decide) ?_
          refine xk_guardF rfl rfl rfl (by decide) ?_
          refine xk_guardF rfl rfl rfl (by decide) ?_
          refine xk_guardF rfl rfl rfl (by decide) ?_
          (first | refine xk_pickT rfl rfl (by decide) ?_ | refine xk_pickF rfl rfl (by decide) ?_)
          refine XK.nilN ?_
          exact XK.meetB (by repeat (first | exact trivial | refine ⟨rfl, ?_⟩)) (by first | (refine get_iff rfl ?_; omega) | (refine get_false rfl ?_; omega))
      refine XK.if_ rfl (fun h98 => ?_) (fun h98 => ?_)
      ·

        refine XK.region ?_
        refine xk_move rfl (by decide) ?_
        refine xk_add rfl rfl (wrap_in (by omega)) (by decide) ?_
        refine xk_assign rfl (by decide) ?_
        refine XK.nilN ?_
        refine XK.envS [(6, .int .i64 k), (5, .int .i64 (v + 1)), (4, .int .i64 t), (3, .slice Ao l.length co), (0, .slice (some ⟨bE, oE, none⟩) n c)] ?_
        refine XK.cutB 48 (x.task = (t : Int) ∧ x.kind = 101) ?_ ?_
        · skip

          refine XK.region ?_
          refine xk_move rfl (by decide) ?_
          refine xk_move rfl (by decide) ?_
          refine xk_at k (oE + k * 14) (el := 103) (sz := 14) (by kernel_rfl) (by kernel_rfl) rfl rfl (by omega) (by omega) (by omega) (by decide) ?_
          refine xk_field (off := 1) (by kernel_rfl) rfl (by decide) ?_
          refine xk_load (by kernel_rfl) rfl (Rd.ro (p := all w) (by simp) hzE (hcE 1 _ rfl)) (by decide) ?_
          refine xk_move rfl (by decide) ?_
          refine xk_eql rfl rfl (by decide) ?_
          refine xk_move rfl (by decide) ?_
          refine xk_split (t := 41) rfl (fun hg41 => ?_) (fun hg41 => ?_)
          ·
            refine xk_guardT rfl rfl ?_; refine xk_move rfl (by decide) ?_
            refine xk_guardT rfl rfl ?_; refine xk_move rfl (by decide) ?_
            refine xk_guardT rfl rfl ?_; refine xk_at k (oE + k * 14) (el := 103) (sz := 14) (by kernel_rfl) (by kernel_rfl) rfl rfl (by omega) (by omega) (by omega) (by decide) ?_
            refine xk_guardT rfl rfl ?_; refine xk_field (off := 0) (by kernel_rfl) rfl (by decide) ?_
            refine xk_guardT rfl rfl ?_; refine xk_load (by kernel_rfl) rfl (Rd.ro (p := all w) (by simp) hzE (hcE 0 _ rfl)) (by decide) ?_
            refine xk_guardT rfl rfl ?_; refine xk_eql rfl rfl (by decide) ?_
            (first | refine xk_pickT rfl rfl (by decide) ?_ | refine xk_pickF rfl rfl (by decide) ?_)
            refine XK.nilN ?_
            exact XK.meetB (by repeat (first | exact trivial | refine ⟨rfl, ?_⟩)) (by first | (refine get_iff rfl ?_; omega) | (refine get_false rfl ?_; omega))
          ·
            refine xk_guardF rfl rfl rfl (by decide) ?_
            refine xk_guardF rfl rfl rfl (by decide) ?_
            refine xk_guardF rfl rfl rfl (by decide) ?_
            refine xk_guardF rfl rfl rfl (by decide) ?_
            refine xk_guardF rfl rfl rfl (by decide) ?_
            refine xk_guardF rfl rfl rfl (by decide) ?_
            (first | refine xk_pickT rfl rfl (by decide) ?_ | refine xk_pickF rfl rfl (by decide) ?_)
            refine XK.nilN ?_
            exact XK.meetB (by repeat (first | exact trivial | refine ⟨rfl, ?_⟩)) (by first | (refine get_iff rfl ?_; omega) | (refine get_false rfl ?_; omega))
        refine XK.if_ rfl (fun h101 => ?_) (fun h101 => ?_)
        ·

          refine XK.region ?_
          refine xk_move rfl (by decide) ?_
          refine xk_sub rfl rfl (wrap_in (by omega)) (by decide) ?_
          refine xk_assign rfl (by decide) ?_
          refine XK.nilN ?_

          refine XK.region ?_
          refine xk_move rfl (by decide) ?_
          refine xk_add rfl rfl (wrap_in (by omega)) (by decide) ?_
          refine xk_assign rfl (by decide) ?_
          refine XK.nilN ?_
          exact absurd h98.2 (by omega)
        ·
          refine XK.skip ?_
          refine XK.norm ?_

          refine XK.region ?_
          refine xk_move rfl (by decide) ?_
          refine xk_add rfl rfl (wrap_in (by omega)) (by decide) ?_
          refine xk_assign rfl (by decide) ?_
          refine XK.nilN ?_
          exact XK.envS [(6, .int .i64 ((k : Int) + 1)), (5, .int .i64 (v + 1)), (4, .int .i64 t), (3, .slice Ao l.length co), (0, .slice (some ⟨bE, oE, none⟩) n c)] (XK.round (n - (k + 1)) (by omega) ⟨k + 1, by omega, rfl, by rw [hnx, if_pos h98]; rfl, rfl, rfl⟩)
      ·
        refine XK.skip ?_
        refine XK.norm ?_
        refine XK.envS [(6, .int .i64 k), (5, .int .i64 v), (4, .int .i64 t), (3, .slice Ao l.length co), (0, .slice (some ⟨bE, oE, none⟩) n c)] ?_
        refine XK.cutB 48 (x.task = (t : Int) ∧ x.kind = 101) ?_ ?_
        · skip

          refine XK.region ?_
          refine xk_move rfl (by decide) ?_
          refine xk_move rfl (by decide) ?_
          refine xk_at k (oE + k * 14) (el := 103) (sz := 14) (by kernel_rfl) (by kernel_rfl) rfl rfl (by omega) (by omega) (by omega) (by decide) ?_
          refine xk_field (off := 1) (by kernel_rfl) rfl (by decide) ?_
          refine xk_load (by kernel_rfl) rfl (Rd.ro (p := all w) (by simp) hzE (hcE 1 _ rfl)) (by decide) ?_
          refine xk_move rfl (by decide) ?_
          refine xk_eql rfl rfl (by decide) ?_
          refine xk_move rfl (by decide) ?_
          refine xk_split (t := 41) rfl (fun hg41 => ?_) (fun hg41 => ?_)
          ·
            refine xk_guardT rfl rfl ?_; refine xk_move rfl (by decide) ?_
            refine xk_guardT rfl rfl ?_; refine xk_move rfl (by decide) ?_
            refine xk_guardT rfl rfl ?_; refine xk_at k (oE + k * 14) (el := 103) (sz := 14) (by kernel_rfl) (by kernel_rfl) rfl rfl (by omega) (by omega) (by omega) (by decide) ?_
            refine xk_guardT rfl rfl ?_; refine xk_field (off := 0) (by kernel_rfl) rfl (by decide) ?_
            refine xk_guardT rfl rfl ?_; refine xk_load (by kernel_rfl) rfl (Rd.ro (p := all w) (by simp) hzE (hcE 0 _ rfl)) (by decide) ?_
            refine xk_guardT rfl rfl ?_; refine xk_eql rfl rfl (by decide) ?_
            (first | refine xk_pickT rfl rfl (by decide) ?_ | refine xk_pickF rfl rfl (by decide) ?_)
            refine XK.nilN ?_
            exact XK.meetB (by repeat (first | exact trivial | refine ⟨rfl, ?_⟩)) (by first | (refine get_iff rfl ?_; omega) | (refine get_false rfl ?_; omega))
          ·
            refine xk_guardF rfl rfl rfl (by decide) ?_
            refine xk_guardF rfl rfl rfl (by decide) ?_
            refine xk_guardF rfl rfl rfl (by decide) ?_
            refine xk_guardF rfl rfl rfl (by decide) ?_
            refine xk_guardF rfl rfl rfl (by decide) ?_
            refine xk_guardF rfl rfl rfl (by decide) ?_
            (first | refine xk_pickT rfl rfl (by decide) ?_ | refine xk_pickF rfl rfl (by decide) ?_)
            refine XK.nilN ?_
            exact XK.meetB (by repeat (first | exact trivial | refine ⟨rfl, ?_⟩)) (by first | (refine get_iff rfl ?_; omega) | (refine get_false rfl ?_; omega))
        refine XK.if_ rfl (fun h101 => ?_) (fun h101 => ?_)
        ·

          refine XK.region ?_
          refine xk_move rfl (by decide) ?_
          refine xk_sub rfl rfl (wrap_in (by omega)) (by decide) ?_
          refine xk_assign rfl (by decide) ?_
          refine XK.nilN ?_

          refine XK.region ?_
          refine xk_move rfl (by decide) ?_
          refine xk_add rfl rfl (wrap_in (by omega)) (by decide) ?_
          refine xk_assign rfl (by decide) ?_
          refine XK.nilN ?_
          exact XK.envS [(6, .int .i64 ((k : Int) + 1)), (5, .int .i64 (v - 1)), (4, .int .i64 t), (3, .slice Ao l.length co), (0, .slice (some ⟨bE, oE, none⟩) n c)] (XK.round (n - (k + 1)) (by omega) ⟨k + 1, by omega, rfl, by rw [hnx, if_neg h98, if_pos h101]; rfl, rfl, rfl⟩)
        ·
          refine XK.skip ?_
          refine XK.norm ?_

          refine XK.region ?_
          refine xk_move rfl (by decide) ?_
          refine xk_add rfl rfl (wrap_in (by omega)) (by decide) ?_
          refine xk_assign rfl (by decide) ?_
          refine XK.nilN ?_
          exact XK.envS [(6, .int .i64 ((k : Int) + 1)), (5, .int .i64 v), (4, .int .i64 t), (3, .slice Ao l.length co), (0, .slice (some ⟨bE, oE, none⟩) n c)] (XK.round (n - (k + 1)) (by omega) ⟨k + 1, by omega, rfl, by rw [hnx, if_neg h98, if_neg h101]; rfl, rfl, rfl⟩)
    ·
      refine XK.exit ?_
      refine XK.norm ?_
      refine XK.seq ?_
      obtain rfl : n = k := by have h' : ¬ (k : Int) < (n : Int) := hin; omega
      rw [List.take_of_length_le (by omega)]

      refine XK.region ?_
      refine xk_move rfl (by decide) ?_
      refine xk_gtr rfl rfl (by decide) ?_
      refine XK.nilN ?_
      refine XK.if_ rfl (fun hpos => ?_) (fun hpos => ?_)
      ·

        refine XK.region ?_
        refine xk_move rfl (by decide) ?_
        refine xk_move rfl (by decide) ?_
        refine xk_slice (el := 3) (sz := 1) (zs := [.int .i64 0]) (by kernel_rfl) (zeroB_of (by kernel_rfl)) (by kernel_rfl) rfl (by decide) (by decide) rfl (by simp [fillL, setN, Value.cells, List.range_succ, List.set]; rfl) (by decide) fun g1 => ?_
        refine xk_appendT 1 1 8 1 (n' := l.length + 1) (el := 3) (by kernel_rfl) (by kernel_rfl) (by decide) rfl rfl rfl (sl_blk 0 rfl rfl) (by simp [Value.oneCell']) rfl (by omega) (by omega) (by decide) fun A' c' => ?_
        dsimp only [List.set]
        rw [show intCells l ++ [Value.int .i64 (t : Int)] = intCells (l ++ [(t : Int)]) by simp [intCells]]
        refine xk_assign rfl (by decide) ?_
        refine XK.nilN ?_

        refine XK.region ?_
        refine xk_move rfl (by decide) ?_
        refine xk_add rfl rfl (wrap_in (by omega)) (by decide) ?_
        refine xk_assign rfl (by decide) ?_
        refine XK.nilN ?_
        have hl1 : upTo (opP evs) (((t + 1 : Nat)) : Int) = l ++ [(t : Int)] := by
          rw [show ((t + 1 : Nat) : Int) = (t : Int) + 1 by omega, hup, if_pos (show opP evs (t : Int) = true from decide_eq_true hpos)]
        exact XK.weak [1] rfl (by decide) (fun _ h => h) (XK.envS [(4, .int .i64 ((t : Int) + 1)), (3, .slice A' (l.length + 1) c'), (0, .slice A n c)] (XK.round (3 - (t + 1)) (by omega) ⟨t + 1, A', c', by omega, rfl, by rw [hl1]; simp, rfl, by rw [hl1]; simp⟩))
      ·
        refine XK.skip ?_
        refine XK.norm ?_

        refine XK.region ?_
        refine xk_move rfl (by decide) ?_
        refine xk_add rfl rfl (wrap_in (by omega)) (by decide) ?_
        refine xk_assign rfl (by decide) ?_
        refine XK.nilN ?_
        have hl1 : upTo (opP evs) (((t + 1 : Nat)) : Int) = l := by
          rw [show ((t + 1 : Nat) : Int) = (t : Int) + 1 by omega, hup, if_neg (show ¬ opP evs (t : Int) = true from fun h => hpos (of_decide_eq_true h)), List.append_nil]
        exact XK.envS [(4, .int .i64 ((t : Int) + 1)), (3, .slice Ao l.length co), (0, .slice A n c)] (XK.round (3 - (t + 1)) (by omega) ⟨t + 1, Ao, co, by omega, rfl, by rw [hl1]; rfl, rfl, by rw [hl1]⟩)
  ·
    refine XK.exit ?_
    refine XK.norm ?_
    refine XK.seq ?_
    obtain rfl : t = 3 := by have h' : ¬ (t : Int) < 3 := htl; omega
    have hop : upTo (opP evs) ((3 : Nat) : Int) = openF evs := rfl
    rw [hop]

    refine XK.region ?_
    refine xk_move rfl (by decide) ?_
    refine xk_assign rfl (by decide) ?_
    refine XK.nilN ?_
    refine XK.ret ?_
    refine XK.norm ?_
    refine XK.still [] [0] [] (by simp) rfl (by decide) (by decide) fun qf hqf _ hfr => ?_
    obtain ⟨Ff, sf, zf⟩ := hqf 0 _ (by simp) rfl
    obtain ⟨Av, cv, hv, hsv⟩ := SlS.of_own (Y := qf.Z) sf zf
    injection hv with hv1 hv2 hv3
    subst hv1
    exact XK.ret1 rfl rfl fun w1 st => ⟨⟨_, rfl, Ao, co, rfl, SlS.le hsv (st.fresh_le (by simp) (hfr (by simp) (by simp)))⟩, st.below (by simp)⟩

set_option maxHeartbeats 1000000 in
theorem refReplies_any (A : Option Addr) (n c : Nat) (evs : List Ev) (w : World) (hE : EvS (all w) A evs) (hn : n = evs.length) (hn2 : n ≤ 1000000) (hW : ∀ e ∈ evs, SlS (all w) 1 e.wA e.ws.length (u32Cells e.ws)) : Calls Tryz.prog 18 #[.slice A n c] w (Rt (.int .i64 (repliesF evs)) w) := by
  refine XK.enter (vs := [.slice A n c]) Tryz.func18 rfl Tryz.ntmps18 (by simp) ?_
  refine XK.seq ?_

  refine XK.region ?_
  refine xk_assign rfl (by decide) ?_
  refine XK.nilN ?_
  refine XK.seq ?_

  refine XK.region ?_
  refine xk_assign rfl (by decide) ?_
  refine XK.nilN ?_
  refine XK.seq ?_

  refine XK.region ?_
  refine xk_assign rfl (by decide) ?_
  refine XK.nilN ?_
  refine XK.seq ?_
  refine XK.seq ?_

  refine XK.region ?_
  refine xk_assign rfl (by decide) ?_
  refine XK.nilN ?_
  refine XK.envS [(5, .int .i64 0), (4, .int .u32 0), (3, .bool false), (0, .slice A n c)] ?_
  refine XK.block ?_
  refine XK.loop (fun m e R H => ∃ (k : Nat) (b : Bool) (f : Int), k ≤ n ∧ repliesF evs = repG (b, f) (evs.drop k) k ∧ m = n - k ∧ e = [(5, .int .i64 k), (4, .int .u32 f), (3, .bool b), (0, .slice A n c)] ∧ R = [all w] ∧ H = []) n ⟨0, false, 0, by omega, rfl, rfl, rfl, rfl, rfl⟩ fun m e R H hI => ?_
  obtain ⟨k, b, f, hk, hrp, rfl, rfl, rfl, rfl⟩ := hI
  refine XK.seq ?_
  refine XK.seq ?_

  refine XK.region ?_
  refine xk_move rfl (by decide) ?_
  refine xk_move rfl (by decide) ?_
  refine xk_len (el := 103) (by kernel_rfl) rfl (by decide) ?_
  refine xk_lss rfl rfl (by decide) ?_
  refine XK.nilN ?_
  refine XK.if_ rfl (fun hin => ?_) (fun hin => ?_)
  ·
    refine XK.skip ?_
    refine XK.norm ?_
    refine XK.seq ?_
    refine XK.block ?_
    refine XK.seq ?_
    have hkn : k < n := by have h' : (k : Int) < (n : Int) := hin; omega
    obtain ⟨x, hx⟩ : ∃ x, evs[k]? = some x := ⟨_, List.getElem?_eq_getElem (by omega)⟩
    obtain ⟨bE, oE, rfl, hzE, hcE⟩ := hE.at2 hx
    rw [List.drop_eq_getElem_cons (show k < evs.length by omega), show evs[k]'(by omega) = x from (List.getElem?_eq_some_iff.1 hx).2] at hrp
    have hww := hW x (List.mem_of_getElem? hx)
    have hrp' : repliesF evs = (match repStep (b, f) x with | none => (k : Int) | some st' => repG st' (evs.drop (k + 1)) (k + 1)) := hrp
    clear hrp

    refine XK.region ?_
    refine xk_move rfl (by decide) ?_
    refine xk_move rfl (by decide) ?_
    refine xk_at k (oE + k * 14) (el := 103) (sz := 14) (by kernel_rfl) (by kernel_rfl) rfl rfl (by omega) (by omega) (by omega) (by decide) ?_
    refine xk_field (off := 13) (by kernel_rfl) rfl (by decide) ?_
    refine xk_load (by kernel_rfl) rfl (Rd.ro (p := all w) (by simp) hzE (hcE 13 _ rfl)) (by decide) ?_
    refine xk_assign rfl (by decide) ?_
    refine XK.nilN ?_
    refine XK.cut (fun e R H => ∃ (b' : Bool) (f' : Int), ((x.kind = 115 ∧ b = false ∧ b' = true ∧ f' = x.ws.headD 0) ∨ (x.kind ≠ 115 ∧ b' = b ∧ f' = f)) ∧ e = [(6, .slice x.wA x.ws.length x.wc), (5, .int .i64 k), (4, .int .u32 f'), (3, .bool b'), (0, .slice (some ⟨bE, oE, none⟩) n c)] ∧ R = [all w] ∧ H = []) ?_ ?_
    ·
      refine XK.seq ?_

      refine XK.region ?_
      refine xk_move rfl (by decide) ?_
      refine xk_move rfl (by decide) ?_
      refine xk_at k (oE + k * 14) (el := 103) (sz := 14) (by kernel_rfl) (by kernel_rfl) rfl rfl (by omega) (by omega) (by omega) (by decide) ?_
      refine xk_field (off := 0) (by kernel_rfl) rfl (by decide) ?_
      refine xk_load (by kernel_rfl) rfl (Rd.ro (p := all w) (by simp) hzE (hcE 0 _ rfl)) (by decide) ?_
      refine xk_eql rfl rfl (by decide) ?_
      refine XK.nilN ?_
      refine XK.if_ rfl (fun h115 => ?_) (fun h115 => ?_)
      ·
        refine XK.seq ?_
        refine XK.seq ?_

        refine XK.region ?_
        refine xk_move rfl (by decide) ?_
        refine XK.nilN ?_
        refine XK.cond rfl (fun hb => ?_) (fun hb => ?_)
        ·
          refine XK.seq ?_

          refine XK.region ?_
          refine xk_move rfl (by decide) ?_
          refine xk_assign rfl (by decide) ?_
          refine XK.nilN ?_
          refine XK.ret ?_
          refine XK.norm ?_
          rw [show repliesF evs = (k : Int) by rw [hrp']; unfold repStep; rw [if_pos h115]; simp [hb]]
          exact XK.ret1 rfl rfl fun w1 st => ⟨rfl, st.below (by simp)⟩
        ·
          refine XK.skip ?_
          refine XK.norm ?_
          refine XK.seq ?_

          refine XK.region ?_
          refine xk_assign rfl (by decide) ?_
          refine XK.nilN ?_
          refine XK.seq ?_

          refine XK.region ?_
          refine xk_assign rfl (by decide) ?_
          refine XK.nilN ?_
          refine XK.seq ?_

          refine XK.region ?_
          refine xk_move rfl (by decide) ?_
          refine xk_len (el := 32) (by kernel_rfl) rfl (by decide) ?_
          refine xk_gtr rfl rfl (by decide) ?_
          refine XK.nilN ?_
          refine XK.if_ rfl (fun hlen => ?_) (fun hlen => ?_)
          ·
            obtain ⟨y, ys, hws⟩ : ∃ y ys, x.ws = y :: ys := by
              cases hws : x.ws with
              | nil => exfalso; have h' : ((x.ws.length : Nat) : Int) > 0 := hlen; rw [hws] at h'; simp at h'
              | cons y ys => exact ⟨y, ys, rfl⟩
            obtain ⟨bW, oW, hAW, hzW, hcW⟩ := hww.2 (by rw [hws]; simp)
            have hcy : ROc w bW oW (.int .u32 y) := ⟨hzW, by have h9 := hcW 0 (.int .u32 y) (by rw [hws]; rfl); rwa [Nat.add_zero] at h9⟩
            rw [hAW]

            refine XK.region ?_
            refine xk_move rfl (by decide) ?_
            refine xk_at 0 oW (el := 32) (sz := 1) (by kernel_rfl) (by kernel_rfl) rfl rfl rfl (by rw [hws]; simp) (by omega) (by decide) ?_
            refine xk_load (by kernel_rfl) rfl (Rd.roc (by simp) hcy) (by decide) ?_
            refine xk_assign rfl (by decide) ?_
            refine XK.nilN ?_
            rw [← hAW]
            exact XK.envS [(6, .slice x.wA x.ws.length x.wc), (5, .int .i64 k), (4, .int .u32 y), (3, .bool true), (0, .slice (some ⟨bE, oE, none⟩) n c)] (XK.meet ⟨true, y, .inl ⟨h115, by simpa using hb, rfl, by rw [hws]; rfl⟩, rfl, rfl, rfl⟩)
          ·
            refine XK.skip ?_
            refine XK.norm ?_
            exact XK.envS [(6, .slice x.wA x.ws.length x.wc), (5, .int .i64 k), (4, .int .u32 0), (3, .bool true), (0, .slice (some ⟨bE, oE, none⟩) n c)] (XK.meet ⟨true, 0, .inl ⟨h115, by simpa using hb, rfl, by have h' : ¬ ((x.ws.length : Nat) : Int) > 0 := hlen; rw [List.eq_nil_of_length_eq_zero (l := x.ws) (by omega)]; rfl⟩, rfl, rfl, rfl⟩)
      ·
        refine XK.skip ?_
        refine XK.norm ?_
        exact XK.envS [(6, .slice x.wA x.ws.length x.wc), (5, .int .i64 k), (4, .int .u32 f), (3, .bool b), (0, .slice (some ⟨bE, oE, none⟩) n c)] (XK.meet ⟨b, f, .inr ⟨h115, rfl, rfl⟩, rfl, rfl, rfl⟩)
    rintro _ _ _ ⟨b', f', hbf, rfl, rfl, rfl⟩
    refine XK.seq ?_

    refine XK.region ?_
    refine xk_move rfl (by decide) ?_
    refine xk_move rfl (by decide) ?_
    refine xk_at k (oE + k * 14) (el := 103) (sz := 14) (by kernel_rfl) (by kernel_rfl) rfl rfl (by omega) (by omega) (by omega) (by decide) ?_
    refine xk_field (off := 0) (by kernel_rfl) rfl (by decide) ?_
    refine xk_load (by kernel_rfl) rfl (Rd.ro (p := all w) (by simp) hzE (hcE 0 _ rfl)) (by decide) ?_
    refine xk_eql rfl rfl (by decide) ?_
    refine XK.nilN ?_
    refine XK.if_ rfl (fun h114 => ?_) (fun h114 => ?_)
    ·
      refine XK.seq ?_
      obtain ⟨rfl, rfl⟩ : b' = b ∧ f' = f := by
        rcases hbf with h | h
        · exact absurd h.1 (by omega)
        · exact h.2
      have hrs : repStep (b', f') x = if b' = true ∧ x.ws.length ≠ 0 ∧ x.ws.headD 0 = f' then some (false, f') else none := by
        unfold repStep; rw [if_neg (by omega), if_pos h114]
      rw [hrs] at hrp'
      clear hrs hbf
      refine XK.cutB 51 (¬ (b' = true ∧ x.ws.length ≠ 0 ∧ x.ws.headD 0 = f')) ?_ ?_
      · skip

        refine XK.region ?_
        refine xk_move rfl (by decide) ?_
        refine xk_not rfl (by decide) ?_
        refine xk_move rfl (by decide) ?_
        refine xk_splitB (t := 40) rfl (fun hg40 => ?_) (fun hg40 => ?_)
        ·
          refine xk_guardF rfl rfl rfl (by decide) ?_
          refine xk_guardF rfl rfl rfl (by decide) ?_
          refine xk_guardF rfl rfl rfl (by decide) ?_
          (first | refine xk_pickT rfl rfl (by decide) ?_ | refine xk_pickF rfl rfl (by decide) ?_)
          refine xk_move rfl (by decide) ?_
          refine xk_guardF rfl rfl rfl (by decide) ?_
          refine xk_guardF rfl rfl rfl (by decide) ?_
          refine xk_guardF rfl rfl rfl (by decide) ?_
          refine xk_guardF rfl rfl rfl (by decide) ?_
          refine xk_guardF rfl rfl rfl (by decide) ?_
          (first | refine xk_pickT rfl rfl (by decide) ?_ | refine xk_pickF rfl rfl (by decide) ?_)
          refine XK.nilN ?_
          exact XK.meetB (by repeat (first | exact trivial | refine ⟨rfl, ?_⟩)) (get_true rfl (fun h => by rw [h.1] at hg40; cases hg40))
        ·
          refine xk_guardT rfl rfl ?_; refine xk_move rfl (by decide) ?_
          refine xk_guardT rfl rfl ?_; refine xk_len (el := 32) (by kernel_rfl) rfl (by decide) ?_
          refine xk_guardT rfl rfl ?_; refine xk_eql rfl rfl (by decide) ?_
          (first | refine xk_pickT rfl rfl (by decide) ?_ | refine xk_pickF rfl rfl (by decide) ?_)
          refine xk_move rfl (by decide) ?_
          refine xk_split (t := 45) rfl (fun hg45 => ?_) (fun hg45 => ?_)
          ·
            refine xk_guardF rfl rfl rfl (by decide) ?_
            refine xk_guardF rfl rfl rfl (by decide) ?_
            refine xk_guardF rfl rfl rfl (by decide) ?_
            refine xk_guardF rfl rfl rfl (by decide) ?_
            refine xk_guardF rfl rfl rfl (by decide) ?_
            (first | refine xk_pickT rfl rfl (by decide) ?_ | refine xk_pickF rfl rfl (by decide) ?_)
            refine XK.nilN ?_
            exact XK.meetB (by repeat (first | exact trivial | refine ⟨rfl, ?_⟩)) (get_true rfl (fun h => h.2.1 (by have h' : ((x.ws.length : Nat) : Int) = 0 := hg45; omega)))
          ·
            refine xk_guardT rfl rfl ?_; refine xk_move rfl (by decide) ?_
            obtain ⟨y, ys, hws⟩ : ∃ y ys, x.ws = y :: ys := by
              cases hws : x.ws with
              | nil => exfalso; exact hg45 (by show ((x.ws.length : Nat) : Int) = 0; rw [hws]; rfl)
              | cons y ys => exact ⟨y, ys, rfl⟩
            obtain ⟨bW, oW, hAW, hzW, hcW⟩ := hww.2 (by rw [hws]; simp)
            have hcy : ROc w bW oW (.int .u32 y) := ⟨hzW, by have h9 := hcW 0 (.int .u32 y) (by rw [hws]; rfl); rwa [Nat.add_zero] at h9⟩
            rw [hAW]
            refine xk_guardT rfl rfl ?_; refine xk_at 0 oW (el := 32) (sz := 1) (by kernel_rfl) (by kernel_rfl) rfl rfl rfl (by rw [hws]; simp) (by omega) (by decide) ?_
            refine xk_guardT rfl rfl ?_; refine xk_load (by kernel_rfl) rfl (Rd.roc (by simp) hcy) (by decide) ?_
            refine xk_guardT rfl rfl ?_; refine xk_move rfl (by decide) ?_
            refine xk_guardT rfl rfl ?_; refine xk_neq rfl rfl (by decide) ?_
            (first | refine xk_pickT rfl rfl (by decide) ?_ | refine xk_pickF rfl rfl (by decide) ?_)
            refine XK.nilN ?_
            exact XK.meetB (by repeat (first | exact trivial | refine ⟨rfl, ?_⟩)) (get_iff rfl ⟨fun hne h => hne (by have h3 := h.2.2; rw [hws] at h3; exact h3), fun hn hy => hn ⟨by simpa using hg40, by rw [hws]; simp, by rw [hws]; exact hy⟩⟩)
      refine XK.if_ rfl (fun hbad => ?_) (fun hbad => ?_)
      ·
        refine XK.seq ?_

        refine XK.region ?_
        refine xk_move rfl (by decide) ?_
        refine xk_assign rfl (by decide) ?_
        refine XK.nilN ?_
        refine XK.ret ?_
        refine XK.norm ?_
        rw [show repliesF evs = (k : Int) by rw [hrp', if_neg hbad]]
        exact XK.ret1 rfl rfl fun w1 st => ⟨rfl, st.below (by simp)⟩
      ·
        refine XK.skip ?_
        refine XK.norm ?_

        refine XK.region ?_
        refine xk_assign rfl (by decide) ?_
        refine XK.nilN ?_

        refine XK.region ?_
        refine xk_move rfl (by decide) ?_
        refine xk_add rfl rfl (wrap_in (by omega)) (by decide) ?_
        refine xk_assign rfl (by decide) ?_
        refine XK.nilN ?_
        exact XK.envS [(5, .int .i64 ((k : Int) + 1)), (4, .int .u32 f'), (3, .bool false), (0, .slice (some ⟨bE, oE, none⟩) n c)] (XK.round (n - (k + 1)) (by omega) ⟨k + 1, false, f', by omega, by rw [hrp', if_pos (Classical.not_not.1 hbad)], rfl, rfl, rfl, rfl⟩)
    ·
      refine XK.skip ?_
      refine XK.norm ?_

      refine XK.region ?_
      refine xk_move rfl (by decide) ?_
      refine xk_add rfl rfl (wrap_in (by omega)) (by decide) ?_
      refine xk_assign rfl (by decide) ?_
      refine XK.nilN ?_
      have hrs : repStep (b, f) x = some (b', f') := by
        unfold repStep
        rcases hbf with ⟨h1, h2, h3, h4⟩ | ⟨h1, h2, h3⟩
        · rw [if_pos h1, h2, h3, h4]; rfl
        · rw [if_neg h1, if_neg h114, h2, h3]
      rw [hrs] at hrp'
      exact XK.envS [(5, .int .i64 ((k : Int) + 1)), (4, .int .u32 f'), (3, .bool b'), (0, .slice (some ⟨bE, oE, none⟩) n c)] (XK.round (n - (k + 1)) (by omega) ⟨k + 1, b', f', by omega, hrp', rfl, rfl, rfl, rfl⟩)
  ·
    refine XK.exit ?_
    refine XK.norm ?_
    refine XK.seq ?_

    refine XK.region ?_
    refine xk_assign rfl (by decide) ?_
    refine XK.nilN ?_
    refine XK.ret ?_
    refine XK.norm ?_
    obtain rfl : n = k := by have h' : ¬ (k : Int) < (n : Int) := hin; omega
    rw [List.drop_of_length_le (by omega)] at hrp
    rw [show repliesF evs = -1 from hrp]
    exact XK.ret1 rfl rfl fun w1 st => ⟨rfl, st.below (by simp)⟩

end Go.Proofs.YtbgibbbggajgaaaGreat
