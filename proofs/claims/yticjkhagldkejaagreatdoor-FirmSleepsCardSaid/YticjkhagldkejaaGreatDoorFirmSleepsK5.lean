/- package table: what is denied, what waits, what is decided. No walk in sight. -/
import Derived.Tactics2
import Derived.Test.YticjkhagldkejaaGreatDoorFirmSleepsK4
namespace Go.Proofs.YticjkhagldkejaaGreatDoor
set_option linter.all false
open Go.RowKit
section
def Bn (l : List Int) (x : Int) : Int := if x ∈ l then (l.idxOf x : Int) else -1
theorem aFt {l : List Int} {x : Int} {i : Nat} (hno : ∀ j y, j < i → l[j]? = some y → y ≠ x) (h : l[i]? = some x) : Bn l x = i := by
 have hm : x ∈ l := List.mem_of_getElem? h
 rw [Bn, if_pos hm]
 have h2 : l.idxOf x = i := by
  induction l generalizing i with
  | nil => simp at h
  | cons a r ih =>
   cases i with
   | zero => simp at h; subst h; simp
   | succ i =>
    have ha : a ≠ x := hno 0 a (by omega) rfl
    simp at h
    have hmr : x ∈ r := List.mem_of_getElem? h
    have hi := ih (fun j y hj hy => hno (j + 1) y (by omega) (by simpa using hy)) h hmr
    have hb : (a == x) = false := by simpa using ha
    rw [List.idxOf_cons, hb]
    simp [hi]
 rw [h2]
theorem aFr {l : List Int} {x : Int} (hno : ∀ (j : Nat) (y : Int), l[j]? = some y → y ≠ x) : Bn l x = -1 := by
 rw [Bn, if_neg]
 intro hm
 obtain ⟨j, hj⟩ := List.getElem?_of_mem hm
 exact hno j x hj rfl
theorem aFs (l : List Int) (x : Int) : decide (0 ≤ Bn l x) = decide (x ∈ l) := by
 unfold Bn
 by_cases h : x ∈ l <;> simp [h]
def wT (s : aC) (c id : Int) : Bool := decide (id ∈ fR (eI s c.toNat))
def xQ (s : aC) (k id : Int) (d : bB) : Bool :=
 if k = 100 ∨ k = 107 then decide (d.domain = id) else if k = 111 then wT s d.clock id else if k = 97 then decide (d.reset = id) else false
def nK (s : aC) (wt : List Int) (k id : Int) (i : Nat) : Bool := decide (0 < (wt[i]?).getD 0) && ((s.aA[i]?).any fun d => xQ s k id d)
def Ad (s : aC) (wt : List Int) (k id : Int) : Bool := (List.range s.aA.length).any (nK s wt k id)
theorem Wx {s : aC} {wt : List Int} {k id : Int} {i : Nat} (hi : i < s.aA.length) (h : nK s wt k id i = true) : Ad s wt k id = true := by
 rw [Ad, List.any_eq_true]; exact ⟨i, List.mem_range.2 hi, h⟩
theorem aBP {s : aC} {wt : List Int} {k id : Int} (h : ∀ i, i < s.aA.length → nK s wt k id i = false) : Ad s wt k id = false := by
 rw [Ad, List.any_eq_false]; intro i hi; simp [h i (List.mem_range.1 hi)]
def lJ (s : aC) (x y : bE) (k id : Int) (i : Nat) : Bool :=
 if k = 100 ∨ k = 107 then ((s.domains[i]?).any fun d => decide (d.above = id)) && lT x y k i
 else decide ((i : Int) ≠ id) && (lT x y k i && wT s i id)
def xW (s : aC) (k : Int) : Nat := if k = 100 ∨ k = 107 then s.domains.length else if k = 111 then s.aB.length else 0
def Ew (s : aC) (x y : bE) (k id : Int) : Bool := (List.range (xW s k)).any (lJ s x y k id)
theorem aBe {s : aC} {x y : bE} {k id : Int} {i : Nat} (hi : i < xW s k) (h : lJ s x y k id i = true) : Ew s x y k id = true := by
 rw [Ew, List.any_eq_true]; exact ⟨i, List.mem_range.2 hi, h⟩
theorem Pj {s : aC} {x y : bE} {k id : Int} (h : ∀ i, i < xW s k → lJ s x y k id i = false) : Ew s x y k id = false := by
 rw [Ew, List.any_eq_false]; intro i hi; simp [h i (List.mem_range.1 hi)]
def zZ (s : aC) (x y : bE) (ag : Nat) (k id : Int) : Bool := jR (if ag = 0 then y else x) k id || Ew s x y k id
def jZ (s : aC) (x y : bE) (wt : List Int) (ag : Nat) (l : List Int) : Int × Int × Int :=
 if (dX s l).1 ≠ 0 ∨ (dX s l).2.1 = 0 ∨ jR (if ag = 0 then x else y) (dX s l).2.1 (dX s l).2.2 = decide (fL (dX s l).2.1) then ((dX s l).1, 0, 0)
 else if fL (dX s l).2.1 then
  (if (dX s l).2.1 = 117 ∧ (s.domains[(dX s l).2.2.toNat]?).any (fun d => decide (d.above ≠ -1) && !lT x y 117 d.above) = true then (-3, 0, 0) else (0, (dX s l).2))
 else if zZ s x y ag (dX s l).2.1 (dX s l).2.2 then (-3, 0, 0)
 else if Ad s wt (dX s l).2.1 (dX s l).2.2 then (-6, 0, 0)
 else (0, (dX s l).2)
def Ei (k : Int) : Int := if k = 117 ∨ k = 100 ∨ k = 107 then 17 else if k = 99 ∨ k = 111 then 20 else 22
def Oa (k : Int) : Prop := k = 117 ∨ k = 100 ∨ k = 107 ∨ k = 99 ∨ k = 111 ∨ k = 114 ∨ k = 97
theorem aGw (p m : Int) (v : Int) (h0 : 0 ≤ v) (hv : v < (cO p m).m) : Ei ((cO p m).act v) = p ∧ Oa ((cO p m).act v) := by
 have h1 : ∀ f : iI, kI p m = some f → v < f.m → Ei (f.act v) = p ∧ Oa (f.act v) := by
  intro f hf hv
  unfold kI at hf
  have hv3 : f.m ≤ 3 := by
   have := (aBg p m).2.2.1
   unfold cO kI at this
   rw [hf] at this
   exact this
  rcases (by omega : v = 0 ∨ v = 1 ∨ v = 2) with rfl | rfl | rfl <;>
  ·repeat' split at hf
   all_goals first
    | (cases hf; done)
    | (cases hf; simp at hv; done)
    | (cases hf; simp_all [Ei, Oa, iI.act])
 unfold cO at hv ⊢
 cases h : kI p m with
 | none => rw [h] at hv; simp at hv; omega
 | some f => rw [h] at hv; exact h1 f h hv
theorem aDI {s : aC} {l : List Int} (hu : nM l) : ((dX s l).2.1 = 0 ∧ (dX s l).2.2 = 0) ∨ ((dX s l).1 = 0 ∧ Oa (dX s l).2.1 ∧ 0 ≤ (dX s l).2.2 ∧ (dX s l).2.2 < (nX s (Ei (dX s l).2.1) : Int) ∧
  ((dX s l).2.1 = 107 → Ds s (dX s l).2.2.toNat = true) ∧ (Ei (dX s l).2.1 = 20 → fC s (dX s l).2.2.toNat)) := by
 unfold dX
 split
 ·exact .inl ⟨rfl, rfl⟩
 ·rename_i w r
  split
  ·exact .inl ⟨rfl, rfl⟩
  ·split
   ·exact .inl ⟨rfl, rfl⟩
   ·split
    ·exact .inl ⟨rfl, rfl⟩
    ·split
     ·exact .inl ⟨rfl, rfl⟩
     ·have hd : ∀ i, 0 ≤ r.getD i 0 := fun i => by
       rw [List.getD_eq_getElem?_getD]
       cases hi : r[i]? with
       | none => exact Int.le_refl _
       | some x => exact (hu x (List.mem_cons_of_mem _ (List.mem_of_getElem? hi))).1
      have hid := hd 0
      have hv := hd ((cO (cH w) (cR w)).n.toNat - 1)
      generalize r.getD 0 0 = id at *
      generalize r.getD ((cO (cH w) (cR w)).n.toNat - 1) 0 = v at *
      unfold tL
      split
      ·exact .inl ⟨rfl, rfl⟩
      ·split
       ·exact .inl ⟨rfl, rfl⟩
       ·split
        ·exact .inl ⟨rfl, rfl⟩
        ·split
         ·exact .inl ⟨rfl, rfl⟩
         ·rename_i h1 h2 h3 h4
          obtain ⟨a1, a2⟩ := aGw (cH w) (cR w) v hv (by omega)
          refine .inr ⟨rfl, a2, hid, by dsimp only; rw [a1]; omega, fun h5 => ?_, fun h5 => ?_⟩
          ·dsimp only at h5 ⊢
           cases hr : Ds s id.toNat with
           | true => rfl
           | false => exact absurd (.inl ⟨h5, hr⟩) h4
          ·dsimp only at h5 ⊢
           rw [a1] at h5
           exact Decidable.byContradiction fun hs => h4 (.inr ⟨h5, hs⟩)
theorem aH.int {w : World} {A : Option Addr} {n : Nat} {l : List Int} (h : aH (all w) 1 A n (aO l)) (hn : 0 < n) : ∃ b off, A = some ⟨b, off, none⟩ ∧ ∀ (i : Nat) (x : Int), l[i]? = some x → eW w b (off + i) (.int .i64 x) := by
 obtain ⟨b, off, hA, hb, hc⟩ := h.2 hn
 refine ⟨b, off, hA, fun i x hx => ⟨hb, hc i _ ?_⟩⟩
 simp only [aO, List.getElem?_map, hx, Option.map_some]
theorem fA.P {w : World} {s : aC} {A1 A2 A3 A4 : Option Addr} {n1 n2 n3 n4 : Nat} (h : fA w s A1 n1 A2 n2 A3 n3 A4 n4) : pV (all w) s A1 n1 A2 n2 A3 n3 A4 n4 := ⟨h.fH, h.dom, h.rL, h.dev⟩
end
section
set_option maxHeartbeats 4000000
set_option maxRecDepth 20000
theorem aFp (A : Option Addr) (n c : Nat) (l : List Int) (x : Int) (w : World) (hs : aH (all w) 1 A n (aO l)) (hn : n = l.length) (hn2 : n ≤ 1000000) :
  Calls Tryz.prog 231 #[.slice A n c, .int .i64 x] w (Rt (.int .i64 (Bn l x)) w) := by
 refine XK.enter (vs := [.slice A n c, .int .i64 x]) Tryz.func231 rfl Tryz.ntmps231 (by simp) ?_
 refine XK.go ?_
 refine XK.aK [(8, .int .i64 0), (7, .int .i64 n), (1, .int .i64 x), (0, .slice A n c)] ?_
 refine XK.go ?_
 refine XK.loop (fun m e R H => ∃ (i : Nat), i ≤ n ∧ m = n - i ∧ (∀ (j : Nat) (y : Int), j < i → l[j]? = some y → y ≠ x) ∧ e = [(8, .int .i64 i), (7, .int .i64 n), (1, .int .i64 x), (0, .slice A n c)] ∧ R = [all w] ∧ H = []) n ⟨0, by omega, rfl, (fun j y hj => absurd hj (Nat.not_lt_zero j)), rfl, rfl, rfl⟩ fun m e R H hI => ?_
 obtain ⟨i, hi, rfl, hno, rfl, rfl, rfl⟩ := hI
 refine XK.go ?_
 refine XK.if_ rfl (fun h => ?_) (fun h => ?_)
 ·
  refine XK.go ?_
  have hil : i < n := by have h' : (i : Int) < (n : Int) := h; omega
  obtain ⟨y, hy⟩ : ∃ y, l[i]? = some y := ⟨l[i]'(by omega), List.getElem?_eq_getElem _⟩
  obtain ⟨b, off, rfl, hc⟩ := hs.int (by omega)
  have hcy := hc i y hy
  refine XK.go ?_
  refine dH (i) (off + i) (el := 3) (sz := 1) (by kernel_rfl) (by kernel_rfl) rfl rfl (by omega) (by omega) (by omega) (by decide) ?_
  refine XK.go ?_
  refine XK.if_ rfl (fun h2 => ?_) (fun h2 => ?_)
  ·
   refine XK.go ?_
   exact XK.aI rfl rfl fun w1 st => ⟨by rw [aFt (i := i) hno (h2 ▸ hy)], st.below (by simp)⟩
  ·
   refine XK.go ?_
   exact XK.aK [(8, .int .i64 ((i : Int) + 1)), (7, .int .i64 n), (1, .int .i64 x), (0, .slice (some ⟨b, off, none⟩) n c)] (XK.round (n - (i + 1)) (by omega) ⟨i + 1, by omega, rfl, (fun j y' hj hy' => by
    rcases Nat.lt_or_ge j i with h1 | h1
    ·exact hno j y' h1 hy'
    ·have hji : j = i := by omega
     subst hji
     rw [hy] at hy'
     cases hy'
     exact fun h => h2 h.symm), rfl, rfl, rfl⟩)
 ·
  refine XK.go ?_
  have hin : i = n := by have h' : ¬ (i : Int) < (n : Int) := h; omega
  subst hin
  exact XK.aI rfl rfl fun w1 st => ⟨by rw [aFr (fun j y hy => hno j y (by have := (List.getElem?_eq_some_iff.1 hy).1; omega) hy)], st.below (by simp)⟩
theorem aBE (A : Option Addr) (n c : Nat) (l : List Int) (x : Int) (w : World) (hs : aH (all w) 1 A n (aO l)) (hn : n = l.length) (hn2 : n ≤ 1000000) :
  Calls Tryz.prog 180 #[.slice A n c, .int .i64 x] w (Rt (.bool (decide (x ∈ l))) w) := by
 refine XK.enter (vs := [.slice A n c, .int .i64 x]) Tryz.func180 rfl Tryz.ntmps180 (by simp) ?_
 refine XK.go ?_
 refine aY (f := 231) (fi := []) (ca := []) (by kernel_rfl) rfl rfl (by decide) (fun w1 st => aFp A n c l x w1 (hs.le (st.le (by simp))) hn hn2) ?_
 refine XK.go ?_
 exact XK.aI rfl rfl fun w1 st => ⟨by rw [← aFs], st.below (by simp)⟩
theorem aIb (q : Piece) (s : aC) (A1 A2 A3 A4 : Option Addr) (n1 k1 n2 k2 n3 k3 n4 k4 : Nat) (Aw : Option Addr) (nw cw : Nat) (wt : List Int) (k id : Int) (w : World) (nG : pV q s A1 n1 A2 n2 A3 n3 A4 n4) (hm : s.rM) (hq : q.Le (all w)) (hw : aH (all w) 1 Aw nw (aO wt)) (hnw : nw = wt.length) :
  Calls Tryz.prog 99 #[.agg #[.slice A1 n1 k1, .slice A2 n2 k2, .slice A3 n3 k3, .slice A4 n4 k4], .slice Aw nw cw, .agg #[.int .u8 k, .int .i64 id]] w (Rt (.bool (Ad s wt k id)) w) := by
 refine XK.enter (vs := [.agg #[.slice A1 n1 k1, .slice A2 n2 k2, .slice A3 n3 k3, .slice A4 n4 k4], .slice Aw nw cw, .agg #[.int .u8 k, .int .i64 id]]) Tryz.func99 rfl Tryz.ntmps99 (by simp) ?_
 refine XK.seq ?_
 refine XK.piece q (by simp) hq ?_
 obtain ⟨rfl, rfl, rfl, rfl⟩ := nG.len
 refine XK.region ?_
 refine bY rfl (by decide) fun g1 => ?_
 refine bY rfl (by decide) fun g2 => ?_
 refine aL rfl (by decide) ?_
 refine XK.aE ?_
 refine XK.seq ?_
 refine XK.seq ?_
 refine XK.region ?_
 refine bL (off := 3) (by kernel_rfl) rfl (by decide) ?_
 refine cP rfl ?_
 refine fX (el := 78) (by kernel_rfl) rfl (by decide) ?_
 refine aG rfl (by decide) ?_
 refine XK.aE ?_
 refine XK.aK [(12, .int .i64 0), (11, .int .i64 s.aA.length), (10, .slice A4 s.aA.length k4), (5, .pointer (some ⟨g2, 0, none⟩)), (3, .pointer (some ⟨g1, 0, none⟩)), (1, .slice Aw nw cw)] ?_
 refine XK.block ?_
 refine XK.loop (fun m e R H => ∃ (i : Nat), i ≤ s.aA.length ∧ m = s.aA.length - i ∧ (∀ j, j < i → nK s wt k id j = false) ∧ e = [(12, .int .i64 i), (11, .int .i64 s.aA.length), (10, .slice A4 s.aA.length k4), (5, .pointer (some ⟨g2, 0, none⟩)), (3, .pointer (some ⟨g1, 0, none⟩)), (1, .slice Aw nw cw)] ∧ R = [q, all w] ∧ H = [HP.aF g2 63 [.int .u8 k, .int .i64 id], HP.aF g1 29 [.slice A1 s.aB.length k1, .slice A2 s.domains.length k2, .slice A3 s.aW.length k3, .slice A4 s.aA.length k4]]) s.aA.length ⟨0, by omega, rfl, (fun j hj => absurd hj (Nat.not_lt_zero j)), rfl, rfl, rfl⟩ fun m e R H hI => ?_
 obtain ⟨i, hi, rfl, hno, rfl, rfl, rfl⟩ := hI
 refine XK.seq ?_
 refine XK.region ?_
 refine hJ rfl rfl (by decide) ?_
 refine XK.aE ?_
 refine XK.seq ?_
 refine XK.if_ rfl (fun h => ?_) (fun h => ?_)
 ·
  refine XK.skip ?_
  refine XK.norm ?_
  refine XK.seq ?_
  refine XK.block ?_
  refine XK.seq ?_
  have hil : i < s.aA.length := by have h' : (i : Int) < (s.aA.length : Int) := h; omega
  obtain ⟨d, hd⟩ : ∃ d, s.aA[i]? = some d := ⟨_, List.getElem?_eq_getElem hil⟩
  obtain ⟨hx1, uJ, hx3, Tk, hx5, hx6, _⟩ := hm.aA i d hd
  have hnc := hm.nc
  have hnd := hm.nd
  have zI := hm.nv
  obtain ⟨bV, oV, rV, rfl, hzV, _, hR, hcV⟩ := nG.dev.xC hd
  obtain ⟨Ar, nr, kr, An, nn, kn, rfl, _⟩ := hR
  obtain ⟨xc, Tj⟩ : ∃ xc : Nat, d.clock = (xc : Int) := ⟨d.clock.toNat, by omega⟩
  have rW : nK s wt k id i = false → ∀ j, j < i + 1 → nK s wt k id j = false := fun h j hj => by
   rcases Nat.lt_or_ge j i with h1 | h1
   ·exact hno j h1
   ·have hji : j = i := by omega
    subst hji; exact h
  rw [Tj] at hcV
  have xS : nK s wt k id i = (decide (0 < (wt[i]?).getD 0) && xQ s k id d) := by rw [nK, hd]; rfl
  refine XK.region ?_
  refine aG rfl (by decide) ?_
  refine dH (i) (oV + i * 6) (el := 78) (sz := 6) (by kernel_rfl) (by kernel_rfl) rfl rfl (by omega) (by omega) (by omega) (by decide) ?_
  refine tZ 6 (by kernel_rfl) rfl (aD.of (vs := [.int .i64 (xc : Int), .int .i64 d.domain, .int .i64 d.reset, .int .u32 d.eS, .slice Ar nr kr, .slice An nn kn]) fun f v hf => Rd.ro (p := q) (by simp) hzV (hcV f v hf)) rfl (by decide) ?_
  refine bZ (cs := [.int .i64 0, .int .i64 0, .int .i64 0, .int .u32 0, .slice none 0 0, .slice none 0 0]) (aM (by kernel_rfl)) (by decide) fun g3 => ?_
  refine aL rfl (by decide) ?_
  refine eJ rfl rfl ?_; simp only [cC, Value.cells, List.set, List.take, List.drop, List.nil_append, List.append_nil, List.length_cons, List.length_nil, List.cons_append, Nat.reduceAdd]
  refine XK.aE ?_
  refine XK.seq ?_
  refine XK.sB 27 ((nw : Int) ≤ i ∨ (wt[i]?).getD 0 ≤ 0) ?_ ?_
  ·skip
   refine XK.region ?_
   refine aG rfl (by decide) ?_
   refine aG rfl (by decide) ?_
   refine fX (el := 3) (by kernel_rfl) rfl (by decide) ?_
   refine yW rfl rfl (by decide) ?_
   refine aG rfl (by decide) ?_
   (first | refine bT (t := 21) rfl (fun hg => ?_) (fun hg => ?_) | refine jH (t := 21) rfl (fun hg => ?_) (fun hg => ?_))
   ·
    refine aP rfl rfl rfl (by decide) ?_
    refine aP rfl rfl rfl (by decide) ?_
    refine aP rfl rfl rfl (by decide) ?_
    refine aP rfl rfl rfl (by decide) ?_
    refine aP rfl rfl rfl (by decide) ?_
    (first | refine cL rfl rfl (by decide) ?_ | refine cM rfl rfl (by decide) ?_)
    refine XK.aE ?_
    exact XK.lE
   ·
    have hiw : i < nw := by omega
    obtain ⟨y, hy⟩ : ∃ y, wt[i]? = some y := ⟨wt[i]'(by omega), List.getElem?_eq_getElem _⟩
    obtain ⟨bW, oW, rfl, hcW⟩ := hw.int (by omega)
    have hcy := hcW i y hy
    have hgy : (wt[i]?).getD 0 = y := by rw [hy]; rfl
    refine aS rfl rfl ?_; refine aG rfl (by decide) ?_
    refine aS rfl rfl ?_; refine aG rfl (by decide) ?_
    refine aS rfl rfl ?_; refine dH (i) (oW + i) (el := 3) (sz := 1) (by kernel_rfl) (by kernel_rfl) rfl rfl (by omega) (by omega) (by omega) (by decide) ?_
    refine aS rfl rfl ?_; refine cP rfl ?_
    refine aS rfl rfl ?_; refine Yg rfl rfl (by decide) ?_
    (first | refine cL rfl rfl (by decide) ?_ | refine cM rfl rfl (by decide) ?_)
    refine XK.aE ?_
    exact XK.lE
  refine XK.if_ rfl (fun h4 => ?_) (fun h4 => ?_)
  ·
   refine XK.exit ?_
   refine XK.norm ?_
   refine XK.region ?_
   refine dO rfl rfl (bA (by omega)) (by decide) ?_
   refine aG rfl (by decide) ?_
   refine XK.aE ?_
   have fZ : nK s wt k id i = false := by
    rw [xS]
    have h5 : (wt[i]?).getD 0 ≤ 0 := by
     rcases h4 with h4 | h4
     ·rw [List.getElem?_eq_none (by omega)]; exact Int.le_refl _
     ·exact h4
    simp [show ¬ 0 < (wt[i]?).getD 0 by omega]
   exact XK.weak [1, 2] rfl (by decide) (by simp) (XK.aK [(12, .int .i64 ((i : Int) + 1)), (11, .int .i64 s.aA.length), (10, .slice (some ⟨bV, oV, none⟩) s.aA.length k4), (5, .pointer (some ⟨g2, 0, none⟩)), (3, .pointer (some ⟨g1, 0, none⟩)), (1, .slice Aw nw cw)] (XK.round (s.aA.length - (i + 1)) (by omega) ⟨i + 1, by omega, rfl, rW fZ, rfl, rfl, rfl⟩))
  ·
   have h5 : 0 < (wt[i]?).getD 0 := by have h' := fun h => h4 (.inr h); omega
   rw [show decide (0 < (wt[i]?).getD 0) = true from decide_eq_true h5, Bool.true_and] at xS
   refine XK.skip ?_
   refine XK.norm ?_
   refine XK.seq ?_
   refine XK.region ?_
   refine bL (off := 0) (by kernel_rfl) rfl (by decide) ?_
   refine cP rfl ?_
   refine XK.aE ?_
   refine XK.block ?_
   refine XK.sB 30 (k = 100 ∨ k = 107) ?_ ?_
   ·skip
    refine XK.seq ?_
    refine XK.region ?_
    refine iS rfl rfl (by decide) ?_
    refine aL rfl (by decide) ?_
    refine XK.aE ?_
    refine XK.if_ rfl (fun h => ?_) (fun h => ?_)
    ·
     refine XK.skip ?_
     refine XK.norm ?_
     exact XK.lE
    ·
     refine XK.region ?_
     refine iS rfl rfl (by decide) ?_
     refine aL rfl (by decide) ?_
     refine XK.aE ?_
     exact XK.lE
   refine XK.if_ rfl (fun h => ?_) (fun h => ?_)
   ·
    refine XK.seq ?_
    refine XK.region ?_
    refine bL (off := 1) (by kernel_rfl) rfl (by decide) ?_
    refine cP rfl ?_
    refine bL (off := 1) (by kernel_rfl) rfl (by decide) ?_
    refine cP rfl ?_
    refine iS rfl rfl (by decide) ?_
    refine XK.aE ?_
    refine XK.if_ rfl (fun h => ?_) (fun h => ?_)
    ·
     refine XK.seq ?_
     refine XK.region ?_
     refine aL rfl (by decide) ?_
     refine XK.aE ?_
     refine XK.ret ?_
     refine XK.norm ?_
     have ht : nK s wt k id i = true := by
      rw [xS]; unfold xQ wT; first | (simp_all; done) | (simp_all; omega)
     exact XK.aI rfl rfl fun w9 st => ⟨by rw [Wx hil ht], st.below (by simp)⟩
    ·
     refine XK.skip ?_
     refine XK.norm ?_
     refine XK.region ?_
     refine dO rfl rfl (bA (by omega)) (by decide) ?_
     refine aG rfl (by decide) ?_
     refine XK.aE ?_
     have fZ : nK s wt k id i = false := by
      rw [xS]; unfold xQ wT; first | (simp_all; done) | (simp_all; omega)
     exact XK.weak [1, 2] rfl (by decide) (by simp) (XK.aK [(12, .int .i64 ((i : Int) + 1)), (11, .int .i64 s.aA.length), (10, .slice (some ⟨bV, oV, none⟩) s.aA.length k4), (5, .pointer (some ⟨g2, 0, none⟩)), (3, .pointer (some ⟨g1, 0, none⟩)), (1, .slice Aw nw cw)] (XK.round (s.aA.length - (i + 1)) (by omega) ⟨i + 1, by omega, rfl, rW fZ, rfl, rfl, rfl⟩))
   ·
    refine XK.seq ?_
    refine XK.region ?_
    refine iS rfl rfl (by decide) ?_
    refine aL rfl (by decide) ?_
    refine XK.aE ?_
    refine XK.if_ rfl (fun h => ?_) (fun h => ?_)
    ·
     refine XK.seq ?_
     refine XK.draw 6 (by kernel_rfl) (by kernel_rfl) ?_
     refine XA.dA 0 rfl rfl rfl (Fk 4 rfl) ?_
     refine XA.dA 1 rfl rfl rfl (jE (off := 0) (by kernel_rfl) rfl) ?_
     refine XA.dA 2 rfl rfl rfl (rA rfl) ?_
     refine XA.dA 4 rfl rfl rfl (jE (off := 1) (by kernel_rfl) rfl) ?_
     refine XA.dA 5 rfl rfl rfl (rA rfl) ?_
     refine XA.next 3 rfl (by kernel_rfl) ?_
     refine iY [q] (f := 89) (fi := []) (ca := []) (by kernel_rfl) rfl rfl (by decide) (by simp) (Dg (eI s xc)) (fun w2 st => Pz q s _ _ _ _ _ k1 _ k2 _ k3 _ k4 xc w2 nG hm (st.le (by simp)) (by omega)) ?_
     rintro _ w2 q1 ⟨Ac, cc, rfl, eK⟩ hf hle _
     have eK := eK.le hf
     have aFU := Qa s s.aB.length xc
     refine XA.bk ?_
     refine XA.next 6 rfl (by kernel_rfl) ?_
     refine aY (f := 180) (fi := []) (ca := []) (by kernel_rfl) rfl rfl (by decide) (fun w3 st => aBE Ac _ cc (fR (eI s xc)) id w3 (eK.le (st.le (by simp))) (by simp [fR]) (by unfold eI; omega)) ?_
     refine XA.bt ?_
     refine XA.done (by kernel_rfl) ?_
     refine XK.norm ?_
     refine XK.if_ rfl (fun h => ?_) (fun h => ?_)
     ·
      refine XK.seq ?_
      refine XK.region ?_
      refine aL rfl (by decide) ?_
      refine XK.aE ?_
      refine XK.ret ?_
      refine XK.norm ?_
      have ht : nK s wt k id i = true := by
       rw [xS]; unfold xQ wT; first | (simp_all; done) | (simp_all; omega)
      exact XK.aI rfl rfl fun w9 st => ⟨by rw [Wx hil ht], st.below (by simp)⟩
     ·
      refine XK.skip ?_
      refine XK.norm ?_
      refine XK.region ?_
      refine dO rfl rfl (bA (by omega)) (by decide) ?_
      refine aG rfl (by decide) ?_
      refine XK.aE ?_
      have fZ : nK s wt k id i = false := by
       rw [xS]; unfold xQ wT; first | (simp_all; done) | (simp_all; omega)
      exact XK.weak [1, 2] rfl (by decide) (by simp) (XK.aK [(12, .int .i64 ((i : Int) + 1)), (11, .int .i64 s.aA.length), (10, .slice (some ⟨bV, oV, none⟩) s.aA.length k4), (5, .pointer (some ⟨g2, 0, none⟩)), (3, .pointer (some ⟨g1, 0, none⟩)), (1, .slice Aw nw cw)] (XK.round (s.aA.length - (i + 1)) (by omega) ⟨i + 1, by omega, rfl, rW fZ, rfl, rfl, rfl⟩))
    ·
     refine XK.seq ?_
     refine XK.region ?_
     refine iS rfl rfl (by decide) ?_
     refine aL rfl (by decide) ?_
     refine XK.aE ?_
     refine XK.if_ rfl (fun h => ?_) (fun h => ?_)
     ·
      refine XK.seq ?_
      refine XK.region ?_
      refine bL (off := 2) (by kernel_rfl) rfl (by decide) ?_
      refine cP rfl ?_
      refine bL (off := 1) (by kernel_rfl) rfl (by decide) ?_
      refine cP rfl ?_
      refine iS rfl rfl (by decide) ?_
      refine XK.aE ?_
      refine XK.if_ rfl (fun h => ?_) (fun h => ?_)
      ·
       refine XK.seq ?_
       refine XK.region ?_
       refine aL rfl (by decide) ?_
       refine XK.aE ?_
       refine XK.ret ?_
       refine XK.norm ?_
       have ht : nK s wt k id i = true := by
        rw [xS]; unfold xQ wT; first | (simp_all; done) | (simp_all; omega)
       exact XK.aI rfl rfl fun w9 st => ⟨by rw [Wx hil ht], st.below (by simp)⟩
      ·
       refine XK.skip ?_
       refine XK.norm ?_
       refine XK.region ?_
       refine dO rfl rfl (bA (by omega)) (by decide) ?_
       refine aG rfl (by decide) ?_
       refine XK.aE ?_
       have fZ : nK s wt k id i = false := by
        rw [xS]; unfold xQ wT; first | (simp_all; done) | (simp_all; omega)
       exact XK.weak [1, 2] rfl (by decide) (by simp) (XK.aK [(12, .int .i64 ((i : Int) + 1)), (11, .int .i64 s.aA.length), (10, .slice (some ⟨bV, oV, none⟩) s.aA.length k4), (5, .pointer (some ⟨g2, 0, none⟩)), (3, .pointer (some ⟨g1, 0, none⟩)), (1, .slice Aw nw cw)] (XK.round (s.aA.length - (i + 1)) (by omega) ⟨i + 1, by omega, rfl, rW fZ, rfl, rfl, rfl⟩))
     ·
      refine XK.skip ?_
      refine XK.norm ?_
      refine XK.region ?_
      refine dO rfl rfl (bA (by omega)) (by decide) ?_
      refine aG rfl (by decide) ?_
      refine XK.aE ?_
      have fZ : nK s wt k id i = false := by
       rw [xS]; unfold xQ wT; first | (simp_all; done) | (simp_all; omega)
      exact XK.weak [1, 2] rfl (by decide) (by simp) (XK.aK [(12, .int .i64 ((i : Int) + 1)), (11, .int .i64 s.aA.length), (10, .slice (some ⟨bV, oV, none⟩) s.aA.length k4), (5, .pointer (some ⟨g2, 0, none⟩)), (3, .pointer (some ⟨g1, 0, none⟩)), (1, .slice Aw nw cw)] (XK.round (s.aA.length - (i + 1)) (by omega) ⟨i + 1, by omega, rfl, rW fZ, rfl, rfl, rfl⟩))
 ·
  refine XK.exit ?_
  refine XK.norm ?_
  refine XK.seq ?_
  refine XK.region ?_
  refine aL rfl (by decide) ?_
  refine XK.aE ?_
  refine XK.ret ?_
  refine XK.norm ?_
  have hin : i = s.aA.length := by have h' : ¬ (i : Int) < (s.aA.length : Int) := h; omega
  subst hin
  exact XK.aI rfl rfl fun w9 st => ⟨by rw [aBP hno], st.below (by simp)⟩
theorem jP.box {q : Piece} {x y : bE} {A1 A2 A3 B1 B2 B3 : Option Addr} {n1 k1 n2 k2 n3 k3 m1 l1 m2 l2 m3 l3 : Nat} {w : World} {g : Nat}
  (hx : jP q x y (.agg #[.slice A1 n1 k1, .slice A2 n2 k2, .slice A3 n3 k3, .slice B1 m1 l1, .slice B2 m2 l2, .slice B3 m3 l3])) (hq : q.Le (all w)) (hg : cZ w g 0 [.slice A1 n1 k1, .slice A2 n2 k2, .slice A3 n3 k3, .slice B1 m1 l1, .slice B2 m2 l2, .slice B3 m3 l3]) : Lz w g x y := by
 obtain ⟨C1, j1, C2, j2, C3, j3, D1, i1, D2, i2, D3, i3, he, s1, s2, s3, s4, s5, s6⟩ := hx
 simp only [Value.agg.injEq, Array.mk.injEq, List.cons.injEq, Value.slice.injEq] at he
 obtain ⟨⟨rfl, rfl, rfl⟩, ⟨rfl, rfl, rfl⟩, ⟨rfl, rfl, rfl⟩, ⟨rfl, rfl, rfl⟩, ⟨rfl, rfl, rfl⟩, ⟨rfl, rfl, rfl⟩, _⟩ := he
 intro i hi
 rcases (by omega : i = 0 ∨ i = 1) with rfl | rfl
 ·exact ⟨A1, k1, A2, k2, A3, k3, by simpa using hg.at_ (j := 0) rfl, by simpa using hg.at_ (j := 1) rfl, by simpa using hg.at_ (j := 2) rfl, s1.le hq, s2.le hq, s3.le hq⟩
 ·exact ⟨B1, l1, B2, l2, B3, l3, by simpa using hg.at_ (j := 3) rfl, by simpa using hg.at_ (j := 4) rfl, by simpa using hg.at_ (j := 5) rfl, s4.le hq, s5.le hq, s6.le hq⟩
theorem aHx (q qx : Piece) (s : aC) (A1 A2 A3 A4 : Option Addr) (n1 k1 n2 k2 n3 k3 n4 k4 : Nat) (X1 X2 X3 Y1 Y2 Y3 : Option Addr) (tY qF tX qE tW qD tV pZ tU pY tT pX : Nat) (x y : bE) (ag : Nat) (k id : Int) (w : World) (nG : pV q s A1 n1 A2 n2 A3 n3 A4 n4) (hm : s.rM) (hq : q.Le (all w)) (Ck : jP qx x y (.agg #[.slice X1 tY qF, .slice X2 tX qE, .slice X3 tW qD, .slice Y1 tV pZ, .slice Y2 tU pY, .slice Y3 tT pX])) (Je : qx.Le (all w)) (hag : ag < 2) :
  Calls Tryz.prog 98 #[.agg #[.slice A1 n1 k1, .slice A2 n2 k2, .slice A3 n3 k3, .slice A4 n4 k4], .agg #[.slice X1 tY qF, .slice X2 tX qE, .slice X3 tW qD, .slice Y1 tV pZ, .slice Y2 tU pY, .slice Y3 tT pX], .int .i64 (ag : Int), .agg #[.int .u8 k, .int .i64 id]] w (Rt (.bool (zZ s x y ag k id)) w) := by
 refine XK.enter (vs := [.agg #[.slice A1 n1 k1, .slice A2 n2 k2, .slice A3 n3 k3, .slice A4 n4 k4], .agg #[.slice X1 tY qF, .slice X2 tX qE, .slice X3 tW qD, .slice Y1 tV pZ, .slice Y2 tU pY, .slice Y3 tT pX], .int .i64 (ag : Int), .agg #[.int .u8 k, .int .i64 id]]) Tryz.func98 rfl Tryz.ntmps98 (by simp) ?_
 refine XK.seq ?_
 refine XK.piece qx (by simp) Je ?_
 refine XK.piece q (by simp) hq ?_
 obtain ⟨rfl, rfl, rfl, rfl⟩ := nG.len
 have hnc := hm.nc
 have hnd := hm.nd
 refine XK.region ?_
 refine bY rfl (by decide) fun g1 => ?_
 refine bY rfl (by decide) fun g2 => ?_
 refine bY rfl (by decide) fun g3 => ?_
 refine aL rfl (by decide) ?_
 refine XK.aE ?_
 refine XK.seq ?_
 refine XK.seq ?_
 refine XK.region ?_
 refine aG rfl (by decide) ?_
 refine XK.aE ?_
 refine XK.aK [(13, .int .i64 0), (7, .pointer (some ⟨g3, 0, none⟩)), (5, .pointer (some ⟨g2, 0, none⟩)), (4, .pointer (some ⟨g1, 0, none⟩)), (2, .int .i64 (ag : Int))] ?_
 refine XK.block ?_
 refine XK.loop (fun m e R H => ∃ (i : Nat), i ≤ 2 ∧ m = 2 - i ∧ (∀ j : Nat, j < i → ¬ (j : Int) = ag → jR (if j = 0 then x else y) k id = false) ∧ e = [(13, .int .i64 i), (7, .pointer (some ⟨g3, 0, none⟩)), (5, .pointer (some ⟨g2, 0, none⟩)), (4, .pointer (some ⟨g1, 0, none⟩)), (2, .int .i64 (ag : Int))] ∧ R = [q, qx, all w] ∧ H = [HP.aF g3 63 [.int .u8 k, .int .i64 id], HP.aF g2 71 [.slice X1 tY qF, .slice X2 tX qE, .slice X3 tW qD, .slice Y1 tV pZ, .slice Y2 tU pY, .slice Y3 tT pX], HP.aF g1 29 [.slice A1 s.aB.length k1, .slice A2 s.domains.length k2, .slice A3 s.aW.length k3, .slice A4 s.aA.length k4]]) 2 ⟨0, by omega, rfl, (fun j hj => absurd hj (Nat.not_lt_zero j)), rfl, rfl, rfl⟩ fun m e R H hI => ?_
 obtain ⟨i, hi, rfl, hno, rfl, rfl, rfl⟩ := hI
 refine XK.seq ?_
 refine XK.region ?_
 refine hJ rfl rfl (by decide) ?_
 refine XK.aE ?_
 refine XK.seq ?_
 refine XK.if_ rfl (fun h => ?_) (fun h => ?_)
 ·
  refine XK.skip ?_
  refine XK.norm ?_
  refine XK.seq ?_
  refine XK.block ?_
  refine XK.seq ?_
  have hi2 : i < 2 := by have h' : (i : Int) < 2 := h; omega
  refine XK.region ?_
  refine aG rfl (by decide) ?_
  refine aL rfl (by decide) ?_
  refine XK.aE ?_
  refine XK.sB 26 (¬ (i : Int) = ag ∧ jR (if i = 0 then x else y) k id = true) ?_ ?_
  ·skip
   refine XK.region ?_
   refine aG rfl (by decide) ?_
   refine aG rfl (by decide) ?_
   refine oP rfl rfl (by decide) ?_
   refine aG rfl (by decide) ?_
   (first | refine bT (t := 19) rfl (fun hg => ?_) (fun hg => ?_) | refine jH (t := 19) rfl (fun hg => ?_) (fun hg => ?_))
   ·
    refine aS rfl rfl ?_; refine aG rfl (by decide) ?_
    refine aS rfl rfl ?_; refine bL (off := 0) (by kernel_rfl) rfl (by decide) ?_
    refine aS rfl rfl ?_; refine cP rfl ?_
    refine aS rfl rfl ?_; refine bL (off := 1) (by kernel_rfl) rfl (by decide) ?_
    refine aS rfl rfl ?_; refine cP rfl ?_
    refine aS rfl rfl ?_; refine aY (f := 95) (fi := []) (ca := []) (by kernel_rfl) rfl rfl (by decide) (fun w1 st => Qz g2 i (if i = 0 then x else y) k id w1 hi2 (jP.box Ck (st.le (by simp)) (st.box (i := 1) rfl) i hi2)) ?_
    (first | refine cL rfl rfl (by decide) ?_ | refine cM rfl rfl (by decide) ?_)
    refine XK.aE ?_
    exact XK.lE
   ·
    refine aP rfl rfl rfl (by decide) ?_
    refine aP rfl rfl rfl (by decide) ?_
    refine aP rfl rfl rfl (by decide) ?_
    refine aP rfl rfl rfl (by decide) ?_
    refine aP rfl rfl rfl (by decide) ?_
    refine aP rfl rfl rfl (by decide) ?_
    (first | refine cL rfl rfl (by decide) ?_ | refine cM rfl rfl (by decide) ?_)
    refine XK.aE ?_
    exact XK.lE
  refine XK.if_ rfl (fun h4 => ?_) (fun h4 => ?_)
  ·
   refine XK.seq ?_
   refine XK.region ?_
   refine aL rfl (by decide) ?_
   refine XK.aE ?_
   refine XK.ret ?_
   refine XK.norm ?_
   have Ov : jR (if ag = 0 then y else x) k id = true := by
    have h5 := h4.2
    rcases (by omega : ag = 0 ∨ ag = 1) with rfl | rfl <;> rcases (by omega : i = 0 ∨ i = 1) with rfl | rfl <;> simp_all
   exact XK.aI rfl rfl fun w9 st => ⟨by rw [zZ, Ov]; rfl, st.below (by simp)⟩
  ·
   refine XK.skip ?_
   refine XK.norm ?_
   refine XK.region ?_
   refine dO rfl rfl (bA (by omega)) (by decide) ?_
   refine aG rfl (by decide) ?_
   refine XK.aE ?_
   have rW : ∀ j : Nat, j < i + 1 → ¬ (j : Int) = ag → jR (if j = 0 then x else y) k id = false := fun j hj hja => by
    rcases Nat.lt_or_ge j i with h1 | h1
    ·exact hno j h1 hja
    ·have hji : j = i := by omega
     subst hji
     cases hb : jR (if j = 0 then x else y) k id with
     | false => rfl
     | true => exact absurd ⟨hja, hb⟩ h4
   exact XK.aK [(13, .int .i64 ((i : Int) + 1)), (7, .pointer (some ⟨g3, 0, none⟩)), (5, .pointer (some ⟨g2, 0, none⟩)), (4, .pointer (some ⟨g1, 0, none⟩)), (2, .int .i64 (ag : Int))] (XK.round (2 - (i + 1)) (by omega) ⟨i + 1, by omega, rfl, rW, rfl, rfl, rfl⟩)
 ·
  refine XK.exit ?_
  refine XK.norm ?_
  refine XK.seq ?_
  refine XK.seq ?_
  have Ov : jR (if ag = 0 then y else x) k id = false := by
   have hi2 : i = 2 := by have h' : ¬ (i : Int) < 2 := h; omega
   subst hi2
   rcases (by omega : ag = 0 ∨ ag = 1) with rfl | rfl
   ·exact hno 1 (by omega) (by decide)
   ·exact hno 0 (by omega) (by decide)
  have Ce : zZ s x y ag k id = Ew s x y k id := by rw [zZ, Ov, Bool.false_or]
  clear hno Ov
  refine XK.region ?_
  refine bL (off := 0) (by kernel_rfl) rfl (by decide) ?_
  refine cP rfl ?_
  refine XK.aE ?_
  refine XK.block ?_
  refine XK.sB 30 (k = 100 ∨ k = 107) ?_ ?_
  ·skip
   refine XK.seq ?_
   refine XK.region ?_
   refine iS rfl rfl (by decide) ?_
   refine aL rfl (by decide) ?_
   refine XK.aE ?_
   refine XK.if_ rfl (fun h => ?_) (fun h => ?_)
   ·
    refine XK.skip ?_
    refine XK.norm ?_
    exact XK.lE
   ·
    refine XK.region ?_
    refine iS rfl rfl (by decide) ?_
    refine aL rfl (by decide) ?_
    refine XK.aE ?_
    exact XK.lE
  refine XK.if_ rfl (fun h => ?_) (fun h => ?_)
  ·
   refine XK.seq ?_
   have Bx : k = 100 ∨ k = 107 := by first | assumption | simp_all
   have By : xW s k = s.domains.length := by rw [xW, if_pos Bx]
   refine XK.region ?_
   refine bL (off := 1) (by kernel_rfl) rfl (by decide) ?_
   refine cP rfl ?_
   refine fX (el := 75) (by kernel_rfl) rfl (by decide) ?_
   refine aG rfl (by decide) ?_
   refine XK.aE ?_
   refine XK.aK [(36, .int .i64 0), (35, .int .i64 s.domains.length), (34, .slice A2 s.domains.length k2), (7, .pointer (some ⟨g3, 0, none⟩)), (5, .pointer (some ⟨g2, 0, none⟩)), (4, .pointer (some ⟨g1, 0, none⟩)), (2, .int .i64 (ag : Int))] ?_
   refine XK.block ?_
   refine XK.loop (fun m e R H => ∃ (i : Nat), i ≤ s.domains.length ∧ m = s.domains.length - i ∧ (∀ j, j < i → lJ s x y k id j = false) ∧ e = [(36, .int .i64 i), (35, .int .i64 s.domains.length), (34, .slice A2 s.domains.length k2), (7, .pointer (some ⟨g3, 0, none⟩)), (5, .pointer (some ⟨g2, 0, none⟩)), (4, .pointer (some ⟨g1, 0, none⟩)), (2, .int .i64 (ag : Int))] ∧ R = [q, qx, all w] ∧ H = [HP.aF g3 63 [.int .u8 k, .int .i64 id], HP.aF g2 71 [.slice X1 tY qF, .slice X2 tX qE, .slice X3 tW qD, .slice Y1 tV pZ, .slice Y2 tU pY, .slice Y3 tT pX], HP.aF g1 29 [.slice A1 s.aB.length k1, .slice A2 s.domains.length k2, .slice A3 s.aW.length k3, .slice A4 s.aA.length k4]]) s.domains.length ⟨0, by omega, rfl, (fun j hj => absurd hj (Nat.not_lt_zero j)), rfl, rfl, rfl⟩ fun m e R H hI => ?_
   obtain ⟨i, hi, rfl, hno, rfl, rfl, rfl⟩ := hI
   refine XK.seq ?_
   refine XK.region ?_
   refine hJ rfl rfl (by decide) ?_
   refine XK.aE ?_
   refine XK.seq ?_
   refine XK.if_ rfl (fun h => ?_) (fun h => ?_)
   ·
    refine XK.skip ?_
    refine XK.norm ?_
    refine XK.seq ?_
    refine XK.block ?_
    refine XK.seq ?_
    have hil : i < s.domains.length := by have h' : (i : Int) < (s.domains.length : Int) := h; omega
    obtain ⟨d, hd⟩ : ∃ d, s.domains[i]? = some d := ⟨_, List.getElem?_eq_getElem hil⟩
    obtain ⟨bD, oD, rD, rfl, Ti, _, rfl, Ph⟩ := nG.dom.xC hd
    have rW : lJ s x y k id i = false → ∀ j, j < i + 1 → lJ s x y k id j = false := fun h j hj => by
     rcases Nat.lt_or_ge j i with h1 | h1
     ·exact hno j h1
     ·have hji : j = i := by omega
      subst hji; exact h
    have kQ : lJ s x y k id i = (decide (d.above = id) && lT x y k i) := by rw [lJ, if_pos Bx, hd]; rfl
    refine XK.region ?_
    refine aG rfl (by decide) ?_
    refine dH (i) (oD + i * 3) (el := 75) (sz := 3) (by kernel_rfl) (by kernel_rfl) rfl rfl (by omega) (by omega) (by omega) (by decide) ?_
    refine tZ 3 (by kernel_rfl) rfl (aD.of (vs := [.int .i64 d.above, .int .i64 d.delay, .bool d.ret]) fun f v hf => Rd.ro (p := q) (by simp) Ti (Ph f v hf)) rfl (by decide) ?_
    refine bZ (cs := [.int .i64 0, .int .i64 0, .bool false]) (aM (by kernel_rfl)) (by decide) fun g4 => ?_
    refine aL rfl (by decide) ?_
    refine eJ rfl rfl ?_; simp only [cC, Value.cells, List.set, List.take, List.drop, List.nil_append, List.append_nil, List.length_cons, List.length_nil, List.cons_append, Nat.reduceAdd]
    refine XK.aE ?_
    refine XK.sB 51 (d.above = id ∧ lT x y k i = true) ?_ ?_
    ·skip
     refine XK.region ?_
     refine bL (off := 0) (by kernel_rfl) rfl (by decide) ?_
     refine cP rfl ?_
     refine bL (off := 1) (by kernel_rfl) rfl (by decide) ?_
     refine cP rfl ?_
     refine iS rfl rfl (by decide) ?_
     refine aG rfl (by decide) ?_
     (first | refine bT (t := 46) rfl (fun hg => ?_) (fun hg => ?_) | refine jH (t := 46) rfl (fun hg => ?_) (fun hg => ?_))
     ·
      refine aS rfl rfl ?_; refine bL (off := 0) (by kernel_rfl) rfl (by decide) ?_
      refine aS rfl rfl ?_; refine cP rfl ?_
      refine aS rfl rfl ?_; refine aG rfl (by decide) ?_
      refine aS rfl rfl ?_; refine aY (f := 97) (fi := []) (ca := []) (by kernel_rfl) rfl rfl (by decide) (fun w1 st => Ra g2 x y k i w1 (jP.box Ck (st.le (by simp)) (st.box (i := 2) rfl))) ?_
      (first | refine cL rfl rfl (by decide) ?_ | refine cM rfl rfl (by decide) ?_)
      refine XK.aE ?_
      exact XK.lE
     ·
      refine aP rfl rfl rfl (by decide) ?_
      refine aP rfl rfl rfl (by decide) ?_
      refine aP rfl rfl rfl (by decide) ?_
      refine aP rfl rfl rfl (by decide) ?_
      (first | refine cL rfl rfl (by decide) ?_ | refine cM rfl rfl (by decide) ?_)
      refine XK.aE ?_
      exact XK.lE
    refine XK.if_ rfl (fun h4 => ?_) (fun h4 => ?_)
    ·
     refine XK.seq ?_
     refine XK.region ?_
     refine aL rfl (by decide) ?_
     refine XK.aE ?_
     refine XK.ret ?_
     refine XK.norm ?_
     have ht : lJ s x y k id i = true := by rw [kQ]; simp [h4.1, h4.2]
     exact XK.aI rfl rfl fun w9 st => ⟨by rw [Ce, aBe (by rw [By]; exact hil) ht], st.below (by simp)⟩
    ·
     refine XK.skip ?_
     refine XK.norm ?_
     refine XK.region ?_
     refine dO rfl rfl (bA (by omega)) (by decide) ?_
     refine aG rfl (by decide) ?_
     refine XK.aE ?_
     have fZ : lJ s x y k id i = false := by
      rw [kQ]
      by_cases h5 : d.above = id
      ·have h6 : lT x y k i = false := by cases hb : lT x y k i with
        | false => rfl
        | true => exact absurd ⟨h5, hb⟩ h4
       rw [h6, Bool.and_false]
      ·simp [h5]
     exact XK.weak [1, 2, 3] rfl (by decide) (by simp) (XK.aK [(36, .int .i64 ((i : Int) + 1)), (35, .int .i64 s.domains.length), (34, .slice (some ⟨bD, oD, none⟩) s.domains.length k2), (7, .pointer (some ⟨g3, 0, none⟩)), (5, .pointer (some ⟨g2, 0, none⟩)), (4, .pointer (some ⟨g1, 0, none⟩)), (2, .int .i64 (ag : Int))] (XK.round (s.domains.length - (i + 1)) (by omega) ⟨i + 1, by omega, rfl, rW fZ, rfl, rfl, rfl⟩))
   ·
    refine XK.exit ?_
    refine XK.norm ?_
    refine XK.seq ?_
    refine XK.region ?_
    refine aL rfl (by decide) ?_
    refine XK.aE ?_
    refine XK.ret ?_
    refine XK.norm ?_
    have hin : i = s.domains.length := by have h' : ¬ (i : Int) < (s.domains.length : Int) := h; omega
    subst hin
    exact XK.aI rfl rfl fun w9 st => ⟨by rw [Ce, Pj (by rw [By]; exact hno)], st.below (by simp)⟩
  ·
   refine XK.seq ?_
   refine XK.region ?_
   refine iS rfl rfl (by decide) ?_
   refine aL rfl (by decide) ?_
   refine XK.aE ?_
   refine XK.if_ rfl (fun Un => ?_) (fun Un => ?_)
   ·
    refine XK.seq ?_
    have Bx : ¬ (k = 100 ∨ k = 107) := by first | assumption | simp_all
    have By : xW s k = s.aB.length := by rw [xW, if_neg Bx, if_pos Un]
    refine XK.region ?_
    refine bL (off := 0) (by kernel_rfl) rfl (by decide) ?_
    refine cP rfl ?_
    refine fX (el := 118) (by kernel_rfl) rfl (by decide) ?_
    refine aG rfl (by decide) ?_
    refine XK.aE ?_
    refine XK.aK [(58, .int .i64 0), (57, .int .i64 s.aB.length), (7, .pointer (some ⟨g3, 0, none⟩)), (5, .pointer (some ⟨g2, 0, none⟩)), (4, .pointer (some ⟨g1, 0, none⟩)), (2, .int .i64 (ag : Int))] ?_
    refine XK.block ?_
    refine XK.loop (fun m e R H => ∃ (i : Nat), i ≤ s.aB.length ∧ m = s.aB.length - i ∧ (∀ j, j < i → lJ s x y k id j = false) ∧ e = [(58, .int .i64 i), (57, .int .i64 s.aB.length), (7, .pointer (some ⟨g3, 0, none⟩)), (5, .pointer (some ⟨g2, 0, none⟩)), (4, .pointer (some ⟨g1, 0, none⟩)), (2, .int .i64 (ag : Int))] ∧ R = [q, qx, all w] ∧ H = [HP.aF g3 63 [.int .u8 k, .int .i64 id], HP.aF g2 71 [.slice X1 tY qF, .slice X2 tX qE, .slice X3 tW qD, .slice Y1 tV pZ, .slice Y2 tU pY, .slice Y3 tT pX], HP.aF g1 29 [.slice A1 s.aB.length k1, .slice A2 s.domains.length k2, .slice A3 s.aW.length k3, .slice A4 s.aA.length k4]]) s.aB.length ⟨0, by omega, rfl, (fun j hj => absurd hj (Nat.not_lt_zero j)), rfl, rfl, rfl⟩ fun m e R H hI => ?_
    obtain ⟨i, hi, rfl, hno, rfl, rfl, rfl⟩ := hI
    refine XK.seq ?_
    refine XK.region ?_
    refine hJ rfl rfl (by decide) ?_
    refine XK.aE ?_
    refine XK.seq ?_
    refine XK.if_ rfl (fun h => ?_) (fun h => ?_)
    ·
     refine XK.skip ?_
     refine XK.norm ?_
     refine XK.seq ?_
     refine XK.block ?_
     refine XK.seq ?_
     have hil : i < s.aB.length := by have h' : (i : Int) < (s.aB.length : Int) := h; omega
     have rW : lJ s x y k id i = false → ∀ j, j < i + 1 → lJ s x y k id j = false := fun h j hj => by
      rcases Nat.lt_or_ge j i with h1 | h1
      ·exact hno j h1
      ·have hji : j = i := by omega
       subst hji; exact h
     have kQ : lJ s x y k id i = (decide ((i : Int) ≠ id) && (lT x y k i && decide (id ∈ fR (eI s i)))) := by rw [lJ, if_neg Bx, wT, Int.toNat_natCast]
     refine XK.region ?_
     refine aG rfl (by decide) ?_
     refine aL rfl (by decide) ?_
     refine XK.aE ?_
     refine XK.seq ?_
     refine XK.draw 16 (by kernel_rfl) (by kernel_rfl) ?_
     refine XA.dA 0 rfl rfl rfl (cI rfl) ?_
     refine XA.dA 1 rfl rfl rfl (jE (off := 1) (by kernel_rfl) rfl) ?_
     refine XA.dA 2 rfl rfl rfl (rA rfl) ?_
     refine XA.dA 3 rfl rfl rfl (Cv rfl rfl) ?_
     refine XA.dA 4 rfl rfl rfl (cI rfl) ?_
     (first | refine XA.split (t := 65) rfl (fun hg => ?_) (fun hg => ?_) | refine XA.Gt (t := 65) rfl (fun hg => ?_) (fun hg => ?_))
     ·
      refine XA.dT 5 rfl rfl rfl (jE (off := 0) (by kernel_rfl) rfl) ?_
      refine XA.dT 6 rfl rfl rfl (rA rfl) ?_
      refine XA.dT 7 rfl rfl rfl (cI rfl) ?_
      refine XA.next 8 rfl (by kernel_rfl) ?_
      refine aS rfl rfl ?_; refine aY (f := 97) (fi := []) (ca := []) (by kernel_rfl) rfl rfl (by decide) (fun w1 st => Ra g2 x y k i w1 (jP.box Ck (st.le (by simp)) (st.box (i := 1) rfl))) ?_
      refine XA.bk ?_
      refine XA.dA 9 rfl rfl rfl (by first | exact yB rfl rfl | exact yC rfl rfl) ?_
      refine XA.dA 10 rfl rfl rfl (cI rfl) ?_
      (first | refine XA.split (t := 71) rfl (fun hg => ?_) (fun hg => ?_) | refine XA.Gt (t := 71) rfl (fun hg => ?_) (fun hg => ?_))
      ·
       refine XA.dT 11 rfl rfl rfl (Fk 4 rfl) ?_
       refine XA.dT 12 rfl rfl rfl (cI rfl) ?_
       refine XA.dT 14 rfl rfl rfl (jE (off := 1) (by kernel_rfl) rfl) ?_
       refine XA.dT 15 rfl rfl rfl (rA rfl) ?_
       refine XA.next 13 rfl (by kernel_rfl) ?_
       refine aS rfl rfl ?_; refine iY [q] (f := 89) (fi := []) (ca := []) (by kernel_rfl) rfl rfl (by decide) (by simp) (Dg (eI s i)) (fun w2 st => Pz q s _ _ _ _ _ k1 _ k2 _ k3 _ k4 i w2 nG hm (st.le (by simp)) (by omega)) ?_
       rintro _ w2 q1 ⟨Ac, cc, rfl, eK⟩ hf hle _
       have eK := eK.le hf
       have aFU := Qa s s.aB.length i
       refine XA.bk ?_
       refine XA.next 16 rfl (by kernel_rfl) ?_
       refine aS rfl rfl ?_; refine aY (f := 180) (fi := []) (ca := []) (by kernel_rfl) rfl rfl (by decide) (fun w3 st => aBE Ac _ cc (fR (eI s i)) id w3 (eK.le (st.le (by simp))) (by simp [fR]) (by unfold eI; omega)) ?_
       refine XA.bt ?_
       refine XA.next 17 rfl (by kernel_rfl) ?_
       (first | refine cL rfl rfl (by decide) ?_ | refine cM rfl rfl (by decide) ?_)
       refine XA.bt ?_
       refine XA.done (by kernel_rfl) ?_
       refine XK.norm ?_
       refine XK.if_ rfl (fun h => ?_) (fun h => ?_)
       ·
        refine XK.seq ?_
        refine XK.region ?_
        refine aL rfl (by decide) ?_
        refine XK.aE ?_
        refine XK.ret ?_
        refine XK.norm ?_
        have ht : lJ s x y k id i = true := by
         rw [kQ]; first | (simp_all; done) | (simp_all; omega)
        exact XK.aI rfl rfl fun w9 st => ⟨by rw [Ce, aBe (by rw [By]; exact hil) ht], st.below (by simp)⟩
       ·
        refine XK.skip ?_
        refine XK.norm ?_
        refine XK.region ?_
        refine dO rfl rfl (bA (by omega)) (by decide) ?_
        refine aG rfl (by decide) ?_
        refine XK.aE ?_
        have fZ : lJ s x y k id i = false := by
         rw [kQ]; first | (simp_all; done) | (simp_all; omega)
        refine XK.Dl (R' := [q, qx, all w]) (by simp) ?_
        exact XK.aK [(58, .int .i64 ((i : Int) + 1)), (57, .int .i64 s.aB.length), (7, .pointer (some ⟨g3, 0, none⟩)), (5, .pointer (some ⟨g2, 0, none⟩)), (4, .pointer (some ⟨g1, 0, none⟩)), (2, .int .i64 (ag : Int))] (XK.round (s.aB.length - (i + 1)) (by omega) ⟨i + 1, by omega, rfl, rW fZ, rfl, rfl, rfl⟩)
      ·
       refine XA.dF 11 rfl rfl rfl rfl ?_
       refine XA.dF 12 rfl rfl rfl rfl ?_
       refine XA.dF 13 rfl rfl rfl rfl ?_
       refine XA.dF 14 rfl rfl rfl rfl ?_
       refine XA.dF 15 rfl rfl rfl rfl ?_
       refine XA.next 16 rfl (by kernel_rfl) ?_
       refine aP rfl rfl rfl (by decide) ?_
       refine XA.bt ?_
       refine XA.next 17 rfl (by kernel_rfl) ?_
       (first | refine cL rfl rfl (by decide) ?_ | refine cM rfl rfl (by decide) ?_)
       refine XA.bt ?_
       refine XA.done (by kernel_rfl) ?_
       refine XK.norm ?_
       refine XK.cond rfl (fun h => by cases h) (fun _ => ?_)
       refine XK.skip ?_
       refine XK.norm ?_
       refine XK.region ?_
       refine dO rfl rfl (bA (by omega)) (by decide) ?_
       refine aG rfl (by decide) ?_
       refine XK.aE ?_
       have fZ : lJ s x y k id i = false := by
        rw [kQ]; first | (simp_all; done) | (simp_all; omega)
       refine XK.Dl (R' := [q, qx, all w]) (by simp) ?_
       exact XK.aK [(58, .int .i64 ((i : Int) + 1)), (57, .int .i64 s.aB.length), (7, .pointer (some ⟨g3, 0, none⟩)), (5, .pointer (some ⟨g2, 0, none⟩)), (4, .pointer (some ⟨g1, 0, none⟩)), (2, .int .i64 (ag : Int))] (XK.round (s.aB.length - (i + 1)) (by omega) ⟨i + 1, by omega, rfl, rW fZ, rfl, rfl, rfl⟩)
     ·
      refine XA.dF 5 rfl rfl rfl rfl ?_
      refine XA.dF 6 rfl rfl rfl rfl ?_
      refine XA.dF 7 rfl rfl rfl rfl ?_
      refine XA.dF 8 rfl rfl rfl rfl ?_
      refine XA.dA 9 rfl rfl rfl (by first | exact yB rfl rfl | exact yC rfl rfl) ?_
      refine XA.dA 10 rfl rfl rfl (cI rfl) ?_
      refine XA.dF 11 rfl rfl rfl rfl ?_
      refine XA.dF 12 rfl rfl rfl rfl ?_
      refine XA.dF 13 rfl rfl rfl rfl ?_
      refine XA.dF 14 rfl rfl rfl rfl ?_
      refine XA.dF 15 rfl rfl rfl rfl ?_
      refine XA.next 16 rfl (by kernel_rfl) ?_
      refine aP rfl rfl rfl (by decide) ?_
      refine XA.bt ?_
      refine XA.next 17 rfl (by kernel_rfl) ?_
      (first | refine cL rfl rfl (by decide) ?_ | refine cM rfl rfl (by decide) ?_)
      refine XA.bt ?_
      refine XA.done (by kernel_rfl) ?_
      refine XK.norm ?_
      refine XK.cond rfl (fun h => by cases h) (fun _ => ?_)
      refine XK.skip ?_
      refine XK.norm ?_
      refine XK.region ?_
      refine dO rfl rfl (bA (by omega)) (by decide) ?_
      refine aG rfl (by decide) ?_
      refine XK.aE ?_
      have fZ : lJ s x y k id i = false := by
       rw [kQ]; first | (simp_all; done) | (simp_all; omega)
      refine XK.Dl (R' := [q, qx, all w]) (by simp) ?_
      exact XK.aK [(58, .int .i64 ((i : Int) + 1)), (57, .int .i64 s.aB.length), (7, .pointer (some ⟨g3, 0, none⟩)), (5, .pointer (some ⟨g2, 0, none⟩)), (4, .pointer (some ⟨g1, 0, none⟩)), (2, .int .i64 (ag : Int))] (XK.round (s.aB.length - (i + 1)) (by omega) ⟨i + 1, by omega, rfl, rW fZ, rfl, rfl, rfl⟩)
    ·
     refine XK.exit ?_
     refine XK.norm ?_
     refine XK.seq ?_
     refine XK.region ?_
     refine aL rfl (by decide) ?_
     refine XK.aE ?_
     refine XK.ret ?_
     refine XK.norm ?_
     have hin : i = s.aB.length := by have h' : ¬ (i : Int) < (s.aB.length : Int) := h; omega
     subst hin
     exact XK.aI rfl rfl fun w9 st => ⟨by rw [Ce, Pj (by rw [By]; exact hno)], st.below (by simp)⟩
   ·
    refine XK.skip ?_
    refine XK.norm ?_
    refine XK.seq ?_
    refine XK.region ?_
    refine aL rfl (by decide) ?_
    refine XK.aE ?_
    refine XK.ret ?_
    refine XK.norm ?_
    have Bx : ¬ (k = 100 ∨ k = 107) := by first | assumption | simp_all
    have By : xW s k = 0 := by rw [xW, if_neg Bx, if_neg Un]
    exact XK.aI rfl rfl fun w9 st => ⟨by rw [Ce, Pj (by rw [By]; exact fun j hj => absurd hj (Nat.not_lt_zero j))], st.below (by simp)⟩
end
section
theorem aHz (q qx : Piece) (s : aC) (A1 A2 A3 A4 : Option Addr) (n1 k1 n2 k2 n3 k3 n4 k4 : Nat) (X1 X2 X3 Y1 Y2 Y3 : Option Addr) (tY qF tX qE tW qD tV pZ tU pY tT pX : Nat) (x y : bE) (Aw : Option Addr) (nw cw : Nat) (wt : List Int) (ag : Nat) (Al : Option Addr) (nl cl : Nat) (l : List Int) (w : World) (nG : pV q s A1 n1 A2 n2 A3 n3 A4 n4) (hm : s.rM) (hq : q.Le (all w)) (Ck : jP qx x y (.agg #[.slice X1 tY qF, .slice X2 tX qE, .slice X3 tW qD, .slice Y1 tV pZ, .slice Y2 tU pY, .slice Y3 tT pX])) (Je : qx.Le (all w)) (hw : aH (all w) 1 Aw nw (aO wt)) (hnw : nw = wt.length) (hag : ag < 2) (hl : aH (all w) 1 Al nl (kK l)) (gY : nl = l.length) (aF5 : nl ≤ 1000000) (hu : nM l) :
  Calls Tryz.prog 32 #[.agg #[.slice A1 n1 k1, .slice A2 n2 k2, .slice A3 n3 k3, .slice A4 n4 k4], .agg #[.slice X1 tY qF, .slice X2 tX qE, .slice X3 tW qD, .slice Y1 tV pZ, .slice Y2 tU pY, .slice Y3 tT pX], .slice Aw nw cw, .int .i64 (ag : Int), .slice Al nl cl] w (Rt (Xb (jZ s x y wt ag l)) w) := by
 generalize hrd : dX s l = rd
 obtain ⟨st, k, id⟩ := rd
 refine XK.enter (vs := [.agg #[.slice A1 n1 k1, .slice A2 n2 k2, .slice A3 n3 k3, .slice A4 n4 k4], .agg #[.slice X1 tY qF, .slice X2 tX qE, .slice X3 tW qD, .slice Y1 tV pZ, .slice Y2 tU pY, .slice Y3 tT pX], .slice Aw nw cw, .int .i64 (ag : Int), .slice Al nl cl]) Tryz.func32 rfl Tryz.ntmps32 (by simp) ?_
 refine XK.seq ?_
 refine XK.piece qx (by simp) Je ?_
 refine XK.piece q (by simp) hq ?_
 refine XK.region ?_
 refine bY rfl (by decide) fun g1 => ?_
 refine bY rfl (by decide) fun g2 => ?_
 refine aL rfl (by decide) ?_
 refine bZ (cs := [.int .u8 0, .int .i64 0]) (aM (by kernel_rfl)) (by decide) fun g3 => ?_
 refine XK.aE ?_
 refine XK.seq ?_
 refine XK.sB 25 (False) ?_ ?_
 ·skip
  refine XK.region ?_
  refine aG rfl (by decide) ?_
  refine hJ rfl rfl (by decide) ?_
  refine aG rfl (by decide) ?_
  (first | refine bT (t := 17) rfl (fun hg => ?_) (fun hg => ?_) | refine jH (t := 17) rfl (fun hg => ?_) (fun hg => ?_))
  ·
   refine aP rfl rfl rfl (by decide) ?_
   refine aP rfl rfl rfl (by decide) ?_
   (first | refine cL rfl rfl (by decide) ?_ | refine cM rfl rfl (by decide) ?_)
   refine aG rfl (by decide) ?_
   refine aP rfl rfl rfl (by decide) ?_
   refine aP rfl rfl rfl (by decide) ?_
   refine aP rfl rfl rfl (by decide) ?_
   (first | refine cL rfl rfl (by decide) ?_ | refine cM rfl rfl (by decide) ?_)
   refine XK.aE ?_
   exact XK.lE
  ·
   refine aS rfl rfl ?_; refine aG rfl (by decide) ?_
   refine aS rfl rfl ?_; refine yW rfl rfl (by decide) ?_
   (first | refine cL rfl rfl (by decide) ?_ | refine cM rfl rfl (by decide) ?_)
   refine aG rfl (by decide) ?_
   (first | refine bT (t := 21) rfl (fun hg => ?_) (fun hg => ?_) | refine jH (t := 21) rfl (fun hg => ?_) (fun hg => ?_))
   ·
    refine aP rfl rfl rfl (by decide) ?_
    refine aP rfl rfl rfl (by decide) ?_
    refine aP rfl rfl rfl (by decide) ?_
    (first | refine cL rfl rfl (by decide) ?_ | refine cM rfl rfl (by decide) ?_)
    refine XK.aE ?_
    exact XK.lE
   ·
    refine aS rfl rfl ?_; refine iK 4 rfl ?_
    refine aS rfl rfl ?_; refine aY (f := 59) (fi := []) (ca := []) (by kernel_rfl) rfl rfl (by decide) (v0 := .int .i64 0) (fun w1 st => (aBK s A1 A2 A3 A4 n1 k1 n2 k2 n3 k3 n4 k4 w1 (nG.W (st.le (by simp)) hm.small)).mono fun _ _ h => Rt.conv h (by rw [hm.Fs])) ?_
    refine aS rfl rfl ?_; refine oP rfl rfl (by decide) ?_
    (first | refine cL rfl rfl (by decide) ?_ | refine cM rfl rfl (by decide) ?_)
    refine XK.aE ?_
    exact XK.lE
 refine XK.cond rfl (fun h => by simp at h) (fun h => ?_)
 ·
  refine XK.skip ?_
  refine XK.norm ?_
  refine XK.seq ?_
  refine XK.region ?_
  refine iK 4 rfl ?_
  refine aG rfl (by decide) ?_
  refine aY (f := 94) (fi := []) (ca := []) (by kernel_rfl) rfl rfl (by decide) (v0 := .tuple #[.int .i32 st, .agg #[.int .u8 k, .int .i64 id]]) (fun w1 st => (aDG s A1 A2 A3 A4 n1 k1 n2 k2 n3 k3 n4 k4 Al nl cl l w1 (nG.W (st.le (by simp)) hm.small) (hl.le (st.le (by simp))) gY aF5 hu).mono fun _ _ h => Rt.conv h (by rw [hrd]; rfl)) ?_
  refine aG rfl (by decide) ?_
  refine sJ rfl rfl (by decide) ?_
  refine sJ rfl rfl (by decide) ?_
  refine bZ (cs := [.int .u8 0, .int .i64 0]) (aM (by kernel_rfl)) (by decide) fun g4 => ?_
  refine aL rfl (by decide) ?_
  refine eJ rfl rfl ?_; simp only [cC, Value.cells, List.set, List.take, List.drop, List.nil_append, List.append_nil, List.length_cons, List.length_nil, List.cons_append, Nat.reduceAdd]
  refine XK.aE ?_
  refine XK.seq ?_
  refine XK.sB 51 (st ≠ 0 ∨ k = 0 ∨ jR (if ag = 0 then x else y) k id = decide (fL k)) ?_ ?_
  ·skip
   refine XK.draw 16 (by kernel_rfl) (by kernel_rfl) ?_
   refine XA.dA 0 rfl rfl rfl (cI rfl) ?_
   refine XA.dA 1 rfl rfl rfl (Cv rfl rfl) ?_
   refine XA.dA 2 rfl rfl rfl (cI rfl) ?_
   (first | refine XA.split (t := 35) rfl (fun hg => ?_) (fun hg => ?_) | refine XA.Gt (t := 35) rfl (fun hg => ?_) (fun hg => ?_))
   ·
    refine XA.dF 3 rfl rfl rfl rfl ?_
    refine XA.dF 4 rfl rfl rfl rfl ?_
    refine XA.dF 5 rfl rfl rfl rfl ?_
    refine XA.dA 6 rfl rfl rfl (by first | exact yB rfl rfl | exact yC rfl rfl) ?_
    refine XA.dA 7 rfl rfl rfl (cI rfl) ?_
    refine XA.dF 8 rfl rfl rfl rfl ?_
    refine XA.dF 9 rfl rfl rfl rfl ?_
    refine XA.dF 10 rfl rfl rfl rfl ?_
    refine XA.dF 11 rfl rfl rfl rfl ?_
    refine XA.dF 12 rfl rfl rfl rfl ?_
    refine XA.dF 13 rfl rfl rfl rfl ?_
    refine XA.dF 14 rfl rfl rfl rfl ?_
    refine XA.dF 15 rfl rfl rfl rfl ?_
    refine XA.next 16 rfl (by kernel_rfl) ?_
    refine aP rfl rfl rfl (by decide) ?_
    refine XA.bt ?_
    refine XA.next 17 rfl (by kernel_rfl) ?_
    refine aP rfl rfl rfl (by decide) ?_
    refine XA.bt ?_
    refine XA.next 18 rfl (by kernel_rfl) ?_
    (first | refine cL rfl rfl (by decide) ?_ | refine cM rfl rfl (by decide) ?_)
    refine XA.bt ?_
    refine XA.done (by kernel_rfl) ?_
    refine XK.norm ?_
    exact XK.lE
   ·
    refine XA.dT 3 rfl rfl rfl (jE (off := 0) (by kernel_rfl) rfl) ?_
    refine XA.dT 4 rfl rfl rfl (rA rfl) ?_
    refine XA.dT 5 rfl rfl rfl (zX rfl rfl) ?_
    refine XA.dA 6 rfl rfl rfl (by first | exact yB rfl rfl | exact yC rfl rfl) ?_
    refine XA.dA 7 rfl rfl rfl (cI rfl) ?_
    (first | refine XA.split (t := 40) rfl (fun hg => ?_) (fun hg => ?_) | refine XA.Gt (t := 40) rfl (fun hg => ?_) (fun hg => ?_))
    ·
     refine XA.dF 8 rfl rfl rfl rfl ?_
     refine XA.dF 9 rfl rfl rfl rfl ?_
     refine XA.dF 10 rfl rfl rfl rfl ?_
     refine XA.dF 11 rfl rfl rfl rfl ?_
     refine XA.dF 12 rfl rfl rfl rfl ?_
     refine XA.dF 13 rfl rfl rfl rfl ?_
     refine XA.dF 14 rfl rfl rfl rfl ?_
     refine XA.dF 15 rfl rfl rfl rfl ?_
     refine XA.next 16 rfl (by kernel_rfl) ?_
     refine aP rfl rfl rfl (by decide) ?_
     refine XA.bt ?_
     refine XA.next 17 rfl (by kernel_rfl) ?_
     refine aP rfl rfl rfl (by decide) ?_
     refine XA.bt ?_
     refine XA.next 18 rfl (by kernel_rfl) ?_
     (first | refine cL rfl rfl (by decide) ?_ | refine cM rfl rfl (by decide) ?_)
     refine XA.bt ?_
     refine XA.done (by kernel_rfl) ?_
     refine XK.norm ?_
     exact XK.lE
    ·
     refine XA.dT 8 rfl rfl rfl (cI rfl) ?_
     refine XA.dT 9 rfl rfl rfl (jE (off := 0) (by kernel_rfl) rfl) ?_
     refine XA.dT 10 rfl rfl rfl (rA rfl) ?_
     refine XA.dT 11 rfl rfl rfl (jE (off := 1) (by kernel_rfl) rfl) ?_
     refine XA.dT 12 rfl rfl rfl (rA rfl) ?_
     refine XA.dT 14 rfl rfl rfl (jE (off := 0) (by kernel_rfl) rfl) ?_
     refine XA.dT 15 rfl rfl rfl (rA rfl) ?_
     refine XA.next 13 rfl (by kernel_rfl) ?_
     refine aS rfl rfl ?_; refine aY (f := 95) (fi := []) (ca := []) (by kernel_rfl) rfl rfl (by decide) (fun w1 st => Qz g2 ag (if ag = 0 then x else y) k id w1 hag (jP.box Ck (st.le (by simp)) (st.box (i := 2) rfl) ag hag)) ?_
     refine XA.bk ?_
     refine XA.next 16 rfl (by kernel_rfl) ?_
     refine aS rfl rfl ?_; refine aY (f := 96) (fi := []) (ca := []) (by kernel_rfl) rfl rfl (by decide) (fun w1 st => zD k w1) ?_
     refine XA.bt ?_
     refine XA.next 17 rfl (by kernel_rfl) ?_
     refine aS rfl rfl ?_; refine aCA (by kernel_rfl) rfl rfl (by decide) ?_
     refine XA.bt ?_
     refine XA.next 18 rfl (by kernel_rfl) ?_
     (first | refine cL rfl rfl (by decide) ?_ | refine cM rfl rfl (by decide) ?_)
     refine XA.bt ?_
     refine XA.done (by kernel_rfl) ?_
     refine XK.norm ?_
     exact XK.lE
  refine XK.if_ rfl (fun h4 => ?_) (fun h4 => ?_)
  ·
   refine XK.seq ?_
   refine XK.region ?_
   refine aG rfl (by decide) ?_
   refine dB (zs := [.int .u8 0, .int .i64 0]) (L := [(0, 1), (1, 1)]) (aM (by kernel_rfl)) (by kernel_rfl) rfl (by simp [aR, aU, Value.cells]; rfl) (by decide) ?_
   refine aL rfl (by decide) ?_
   refine eJ rfl rfl ?_; simp only [cC, Value.cells, List.set, List.take, List.drop, List.nil_append, List.append_nil, List.length_cons, List.length_nil, List.cons_append, Nat.reduceAdd]
   refine XK.aE ?_
   refine XK.ret ?_
   refine XK.norm ?_
   exact XK.nA (n := 2) (vs := [.int .u8 0, .int .i64 0]) rfl (by kernel_rfl) rfl rfl (by first | assumption | exact aD.whole 0 rfl | exact aD.whole 1 rfl | exact aD.whole 2 rfl | exact aD.whole 3 rfl | exact aD.whole 4 rfl | exact aD.whole 5 rfl | exact aD.whole 6 rfl | exact aD.whole 7 rfl | exact aD.whole 8 rfl | exact aD.fD (by simp) (by assumption)) rfl fun w9 st => ⟨by
    rw [jZ, hrd]; dsimp only; rw [if_pos h4]; rfl, st.below (by simp)⟩
  ·
   have Tu : st = 0 := Decidable.byContradiction fun h => h4 (.inl h)
   refine XK.skip ?_
   refine XK.norm ?_
   refine XK.seq ?_
   refine XK.seq ?_
   refine XK.region ?_
   refine bL (off := 0) (by kernel_rfl) rfl (by decide) ?_
   refine cP rfl ?_
   refine aY (f := 96) (fi := []) (ca := []) (by kernel_rfl) rfl rfl (by decide) (fun w1 st => zD k w1) ?_
   refine XK.aE ?_
   refine XK.if_ rfl (fun h6 => ?_) (fun h6 => ?_)
   ·
    refine XK.seq ?_
    refine XK.seq ?_
    refine XK.region ?_
    refine bL (off := 0) (by kernel_rfl) rfl (by decide) ?_
    refine cP rfl ?_
    refine iS rfl rfl (by decide) ?_
    refine XK.aE ?_
    refine XK.if_ rfl (fun h7 => ?_) (fun h7 => ?_)
    ·
     refine XK.seq ?_
     subst h7
     have hok := aDI (s := s) hu
     rw [hrd] at hok
     dsimp only at hok
     rcases hok with hok | ⟨_, _, aIz, aFA, _⟩
     ·exact absurd hok.1 (by omega)
     have jO : id.toNat < s.domains.length := by rw [show nX s (Ei 117) = s.domains.length from rfl] at aFA; omega
     obtain ⟨d, hd⟩ : ∃ d, s.domains[id.toNat]? = some d := ⟨_, List.getElem?_eq_getElem jO⟩
     obtain ⟨rfl, rfl, rfl, rfl⟩ := nG.len
     obtain ⟨bD, oD, rD, rfl, Ti, _, rfl, Ph⟩ := nG.dom.xC hd
     have hab : (s.domains[id.toNat]?).any (fun d => decide (d.above ≠ -1) && !lT x y 117 d.above) = (decide (d.above ≠ -1) && !lT x y 117 d.above) := by rw [hd]; rfl
     refine XK.region ?_
     refine bL (off := 1) (by kernel_rfl) rfl (by decide) ?_
     refine cP rfl ?_
     refine bL (off := 1) (by kernel_rfl) rfl (by decide) ?_
     refine cP rfl ?_
     refine dH id.toNat (oD + id.toNat * 3) (el := 75) (sz := 3) (by kernel_rfl) (by kernel_rfl) rfl rfl (by omega) (by omega) (by omega) (by decide) ?_
     refine bL (off := 0) (by kernel_rfl) rfl (by decide) ?_
     refine gA (by kernel_rfl) rfl (Rd.ro (p := q) (by simp) Ti (Ph 0 _ rfl)) (by decide) ?_
     refine aL rfl (by decide) ?_
     refine XK.aE ?_
     refine XK.sB 73 (d.above ≠ -1 ∧ lT x y 117 d.above = false) ?_ ?_
     ·skip
      refine XK.region ?_
      refine aG rfl (by decide) ?_
      refine oP rfl rfl (by decide) ?_
      refine aG rfl (by decide) ?_
      (first | refine bT (t := 69) rfl (fun hg => ?_) (fun hg => ?_) | refine jH (t := 69) rfl (fun hg => ?_) (fun hg => ?_))
      ·
       refine aS rfl rfl ?_; refine aG rfl (by decide) ?_
       refine aS rfl rfl ?_; refine aY (f := 97) (fi := []) (ca := []) (by kernel_rfl) rfl rfl (by decide) (fun w1 st => Ra g2 x y 117 d.above w1 (jP.box Ck (st.le (by simp)) (st.box (i := 2) rfl))) ?_
       refine aS rfl rfl ?_; (first | refine yU rfl (by decide) ?_ | refine yV rfl (by decide) ?_)
       (first | refine cL rfl rfl (by decide) ?_ | refine cM rfl rfl (by decide) ?_)
       refine XK.aE ?_
       exact XK.lE
      ·
       refine aP rfl rfl rfl (by decide) ?_
       refine aP rfl rfl rfl (by decide) ?_
       refine aP rfl rfl rfl (by decide) ?_
       (first | refine cL rfl rfl (by decide) ?_ | refine cM rfl rfl (by decide) ?_)
       refine XK.aE ?_
       exact XK.lE
     refine XK.if_ rfl (fun h9 => ?_) (fun h9 => ?_)
     ·
      refine XK.seq ?_
      refine XK.region ?_
      refine dB (zs := [.int .u8 0, .int .i64 0]) (L := [(0, 1), (1, 1)]) (aM (by kernel_rfl)) (by kernel_rfl) rfl (by simp [aR, aU, Value.cells]; rfl) (by decide) ?_
      refine aL rfl (by decide) ?_
      refine eJ rfl rfl ?_; simp only [cC, Value.cells, List.set, List.take, List.drop, List.nil_append, List.append_nil, List.length_cons, List.length_nil, List.cons_append, Nat.reduceAdd]
      refine XK.aE ?_
      refine XK.ret ?_
      refine XK.norm ?_
      exact XK.nA (n := 2) (vs := [.int .u8 0, .int .i64 0]) rfl (by kernel_rfl) rfl rfl (by first | assumption | exact aD.whole 0 rfl | exact aD.whole 1 rfl | exact aD.whole 2 rfl | exact aD.whole 3 rfl | exact aD.whole 4 rfl | exact aD.whole 5 rfl | exact aD.whole 6 rfl | exact aD.whole 7 rfl | exact aD.whole 8 rfl | exact aD.fD (by simp) (by assumption)) rfl fun w9 st => ⟨by
       rw [jZ, hrd]; dsimp only; rw [if_neg h4, if_pos h6, if_pos ⟨rfl, by rw [hab]; simp [h9.1, h9.2]⟩]; rfl, st.below (by simp)⟩
     ·
      refine XK.skip ?_
      refine XK.norm ?_
      refine XK.seq ?_
      subst Tu
      refine XK.draw 2 (by kernel_rfl) (by kernel_rfl) ?_
      refine XA.dA 0 rfl rfl rfl (Fk 2 rfl) ?_
      refine XA.dA 1 rfl rfl rfl (yE rfl) ?_
      refine XA.next 2 rfl (by kernel_rfl) ?_
      refine eJ rfl rfl ?_; simp only [cC, Value.cells, List.set, List.take, List.drop, List.nil_append, List.append_nil, List.length_cons, List.length_nil, List.cons_append, Nat.reduceAdd]
      refine XA.bt ?_
      refine XA.done (by kernel_rfl) ?_
      refine XK.norm ?_
      refine XK.ret ?_
      refine XK.norm ?_
      exact XK.nA (n := 2) (vs := [.int .u8 117, .int .i64 id]) rfl (by kernel_rfl) rfl rfl (by first | assumption | exact aD.whole 0 rfl | exact aD.whole 1 rfl | exact aD.whole 2 rfl | exact aD.whole 3 rfl | exact aD.whole 4 rfl | exact aD.whole 5 rfl | exact aD.whole 6 rfl | exact aD.whole 7 rfl | exact aD.whole 8 rfl | exact aD.fD (by simp) (by assumption)) rfl fun w9 st => ⟨by
       rw [jZ, hrd]; dsimp only; rw [if_neg h4, if_pos h6, if_neg (fun hh => h9 (by have h' := hh.2; rw [hab] at h'; simpa using h'))]; rfl, st.below (by simp)⟩
    ·
     refine XK.skip ?_
     refine XK.norm ?_
     refine XK.seq ?_
     subst Tu
     refine XK.draw 2 (by kernel_rfl) (by kernel_rfl) ?_
     refine XA.dA 0 rfl rfl rfl (Fk 2 rfl) ?_
     refine XA.dA 1 rfl rfl rfl (yE rfl) ?_
     refine XA.next 2 rfl (by kernel_rfl) ?_
     refine eJ rfl rfl ?_; simp only [cC, Value.cells, List.set, List.take, List.drop, List.nil_append, List.append_nil, List.length_cons, List.length_nil, List.cons_append, Nat.reduceAdd]
     refine XA.bt ?_
     refine XA.done (by kernel_rfl) ?_
     refine XK.norm ?_
     refine XK.ret ?_
     refine XK.norm ?_
     exact XK.nA (n := 2) (vs := [.int .u8 k, .int .i64 id]) rfl (by kernel_rfl) rfl rfl (by first | assumption | exact aD.whole 0 rfl | exact aD.whole 1 rfl | exact aD.whole 2 rfl | exact aD.whole 3 rfl | exact aD.whole 4 rfl | exact aD.whole 5 rfl | exact aD.whole 6 rfl | exact aD.whole 7 rfl | exact aD.whole 8 rfl | exact aD.fD (by simp) (by assumption)) rfl fun w9 st => ⟨by
      rw [jZ, hrd]; dsimp only; rw [if_neg h4, if_pos h6, if_neg (fun hh => h7 hh.1)]; rfl, st.below (by simp)⟩
   ·
    refine XK.skip ?_
    refine XK.norm ?_
    refine XK.seq ?_
    refine XK.seq ?_
    refine XK.region ?_
    refine iK 4 rfl ?_
    refine iK 6 rfl ?_
    refine aG rfl (by decide) ?_
    refine iK 2 rfl ?_
    refine aY (f := 98) (fi := []) (ca := []) (by kernel_rfl) rfl rfl (by decide) (fun w1 st => aHx q qx s A1 A2 A3 A4 n1 k1 n2 k2 n3 k3 n4 k4 X1 X2 X3 Y1 Y2 Y3 tY qF tX qE tW qD tV pZ tU pY tT pX x y ag k id w1 nG hm (st.le (by simp)) Ck (st.le (by simp)) hag) ?_
    refine XK.aE ?_
    refine XK.cond rfl (fun h12 => ?_) (fun h12 => ?_)
    ·
     refine XK.seq ?_
     refine XK.region ?_
     refine dB (zs := [.int .u8 0, .int .i64 0]) (L := [(0, 1), (1, 1)]) (aM (by kernel_rfl)) (by kernel_rfl) rfl (by simp [aR, aU, Value.cells]; rfl) (by decide) ?_
     refine aL rfl (by decide) ?_
     refine eJ rfl rfl ?_; simp only [cC, Value.cells, List.set, List.take, List.drop, List.nil_append, List.append_nil, List.length_cons, List.length_nil, List.cons_append, Nat.reduceAdd]
     refine XK.aE ?_
     refine XK.ret ?_
     refine XK.norm ?_
     exact XK.nA (n := 2) (vs := [.int .u8 0, .int .i64 0]) rfl (by kernel_rfl) rfl rfl (by first | assumption | exact aD.whole 0 rfl | exact aD.whole 1 rfl | exact aD.whole 2 rfl | exact aD.whole 3 rfl | exact aD.whole 4 rfl | exact aD.whole 5 rfl | exact aD.whole 6 rfl | exact aD.whole 7 rfl | exact aD.whole 8 rfl | exact aD.fD (by simp) (by assumption)) rfl fun w9 st => ⟨by
      rw [jZ, hrd]; dsimp only; rw [if_neg h4, if_neg h6, if_pos h12]; rfl, st.below (by simp)⟩
    ·
     refine XK.skip ?_
     refine XK.norm ?_
     refine XK.seq ?_
     refine XK.seq ?_
     refine XK.region ?_
     refine iK 4 rfl ?_
     refine aG rfl (by decide) ?_
     refine iK 2 rfl ?_
     refine aY (f := 99) (fi := []) (ca := []) (by kernel_rfl) rfl rfl (by decide) (fun w1 st => aIb q s A1 A2 A3 A4 n1 k1 n2 k2 n3 k3 n4 k4 Aw nw cw wt k id w1 nG hm (st.le (by simp)) (hw.le (st.le (by simp))) hnw) ?_
     refine XK.aE ?_
     refine XK.cond rfl (fun mT => ?_) (fun mT => ?_)
     ·
      refine XK.seq ?_
      refine XK.region ?_
      refine dB (zs := [.int .u8 0, .int .i64 0]) (L := [(0, 1), (1, 1)]) (aM (by kernel_rfl)) (by kernel_rfl) rfl (by simp [aR, aU, Value.cells]; rfl) (by decide) ?_
      refine aL rfl (by decide) ?_
      refine eJ rfl rfl ?_; simp only [cC, Value.cells, List.set, List.take, List.drop, List.nil_append, List.append_nil, List.length_cons, List.length_nil, List.cons_append, Nat.reduceAdd]
      refine XK.aE ?_
      refine XK.ret ?_
      refine XK.norm ?_
      exact XK.nA (n := 2) (vs := [.int .u8 0, .int .i64 0]) rfl (by kernel_rfl) rfl rfl (by first | assumption | exact aD.whole 0 rfl | exact aD.whole 1 rfl | exact aD.whole 2 rfl | exact aD.whole 3 rfl | exact aD.whole 4 rfl | exact aD.whole 5 rfl | exact aD.whole 6 rfl | exact aD.whole 7 rfl | exact aD.whole 8 rfl | exact aD.fD (by simp) (by assumption)) rfl fun w9 st => ⟨by
       rw [jZ, hrd]; dsimp only; rw [if_neg h4, if_neg h6, if_neg (by rw [h12]; exact Bool.false_ne_true), if_pos mT]; rfl, st.below (by simp)⟩
     ·
      refine XK.skip ?_
      refine XK.norm ?_
      refine XK.seq ?_
      subst Tu
      refine XK.draw 2 (by kernel_rfl) (by kernel_rfl) ?_
      refine XA.dA 0 rfl rfl rfl (Fk 2 rfl) ?_
      refine XA.dA 1 rfl rfl rfl (yE rfl) ?_
      refine XA.next 2 rfl (by kernel_rfl) ?_
      refine eJ rfl rfl ?_; simp only [cC, Value.cells, List.set, List.take, List.drop, List.nil_append, List.append_nil, List.length_cons, List.length_nil, List.cons_append, Nat.reduceAdd]
      refine XA.bt ?_
      refine XA.done (by kernel_rfl) ?_
      refine XK.norm ?_
      refine XK.ret ?_
      refine XK.norm ?_
      exact XK.nA (n := 2) (vs := [.int .u8 k, .int .i64 id]) rfl (by kernel_rfl) rfl rfl (by first | assumption | exact aD.whole 0 rfl | exact aD.whole 1 rfl | exact aD.whole 2 rfl | exact aD.whole 3 rfl | exact aD.whole 4 rfl | exact aD.whole 5 rfl | exact aD.whole 6 rfl | exact aD.whole 7 rfl | exact aD.whole 8 rfl | exact aD.fD (by simp) (by assumption)) rfl fun w9 st => ⟨by
       rw [jZ, hrd]; dsimp only; rw [if_neg h4, if_neg h6, if_neg (by rw [h12]; exact Bool.false_ne_true), if_neg (by rw [mT]; exact Bool.false_ne_true)]; rfl, st.below (by simp)⟩
end
section
def dI (l : List Bool) (id : Int) (b : Bool) : List Bool := if 0 ≤ id ∧ id < (l.length : Int) then l.set id.toNat b else l
theorem jT {l : List Bool} {id : Int} (b : Bool) (h : ¬ (0 ≤ id ∧ id < (l.length : Int))) : dI l id b = l := if_neg h
theorem vU (l : List Bool) (id : Int) (b : Bool) : (dI l id b).length = l.length := by unfold dI; split <;> simp
def dW (x : bE) (k id : Int) : bE :=
 if k = 117 ∨ k = 100 ∨ k = 107 then ⟨dI x.d id (decide (fL k)), x.c, x.l⟩
 else if k = 99 ∨ k = 111 then ⟨x.d, dI x.c id (decide (fL k)), x.l⟩
 else if k = 114 ∨ k = 97 then ⟨x.d, x.c, dI x.l id (decide (fL k))⟩ else x
def cE (x : bE) (ag : Nat) (k id : Int) : bE := if ag = 0 then dW x k id else x
def cS (y : bE) (ag : Nat) (k id : Int) : bE := if ag = 0 then y else dW y k id
theorem Ft {l : List Bool} {id : Int} (b : Bool) (h : 0 ≤ id ∧ id < (l.length : Int)) : (bP l).set id.toNat (.bool b) = bP (dI l id b) := by
 rw [dI, if_pos h]
 simp [bP, List.map_set]
section
variable {N : cN} {w0 w : World} {e : Env} {R : List Piece} {H : List HP} {K : Act → World → Prop}
theorem St.aEf (st : St w0 R H w) {i n c sz : Nat} {t : TypeId} {A : Option Addr} {xs : List Value} (hi : H[i]? = some (HP.own t sz (.slice A n c) n xs)) (hn : 0 < n) : ∃ g, A = some ⟨g, 0, none⟩ := by
 obtain ⟨_, h2⟩ := st.own hi
 rcases h2 with ⟨h2, h3⟩ | ⟨g', cap, cur, hv, _⟩
 ·omega
 ·injection hv with h4 h5 h6
  exact ⟨g', h4⟩
theorem XK.Dx (i : Nat) {n c sz : Nat} {t : TypeId} {A : Option Addr} {xs : List Value} (hi : H[i]? = some (HP.own t sz (.slice A n c) n xs)) (hn : 0 < n) (h : (∃ g, A = some ⟨g, 0, none⟩) → XK N w0 K e R H) : XK N w0 K e R H := fun a w hr st => h (st.aEf hi hn) a w hr st
end
end
section
set_option maxHeartbeats 4000000
set_option maxRecDepth 20000
structure eC where
 a1 : AC
 a2 : AC
 a3 : AC
 a4 : AC
 x1 : AC
 x2 : AC
 x3 : AC
 y1 : AC
 y2 : AC
 y3 : AC
 b0 : AC
 b1 : AC
structure bN where
 x : bE
 y : bE
 h0 : Int
 h1 : Int
 w0 : List Int
 w1 : List Int
 last : Int
 at_ : Int
 kind : Int
 id : Int
def zR (s : aC) : bN := ⟨dY s, dY s, 0, 0, [], [], 1, -1, 0, 0⟩
def rK (a : AC) (n : Nat) : Value := .slice a.1 n a.2
def cD (h : Nat) (L : eC) (s : aC) (z : bN) : List Value := [.pointer (some ⟨h, 0, none⟩), .slice L.a1.1 s.aB.length L.a1.2, .slice L.a2.1 s.domains.length L.a2.2, .slice L.a3.1 s.aW.length L.a3.2, .slice L.a4.1 s.aA.length L.a4.2,
 .slice L.x1.1 z.x.d.length L.x1.2, .slice L.x2.1 z.x.c.length L.x2.2, .slice L.x3.1 z.x.l.length L.x3.2, .slice L.y1.1 z.y.d.length L.y1.2, .slice L.y2.1 z.y.c.length L.y2.2, .slice L.y3.1 z.y.l.length L.y3.2,
 .int .i64 z.h0, .slice L.b0.1 z.w0.length L.b0.2, .int .i64 z.h1, .slice L.b1.1 z.w1.length L.b1.2, .int .i64 z.last, .int .i64 z.at_, .int .u8 z.kind, .int .i64 z.id]
def pW (L : eC) (s : aC) (p : Piece) : Prop := pV p s L.a1.1 s.aB.length L.a2.1 s.domains.length L.a3.1 s.aW.length L.a4.1 s.aA.length
theorem pW.le {L : eC} {s : aC} (p q : Piece) (hl : p.Le q) (h : pW L s p) : pW L s q := pV.le h hl
def lP (L : eC) (x y : bE) (p : Piece) : Prop := aH p 1 L.x1.1 x.d.length (bP x.d) ∧ aH p 1 L.x2.1 x.c.length (bP x.c) ∧ aH p 1 L.x3.1 x.l.length (bP x.l) ∧ aH p 1 L.y1.1 y.d.length (bP y.d) ∧ aH p 1 L.y2.1 y.c.length (bP y.c) ∧ aH p 1 L.y3.1 y.l.length (bP y.l)
theorem lP.le {L : eC} {x y : bE} (p q : Piece) (hl : p.Le q) (h : lP L x y p) : lP L x y q := ⟨h.1.le hl, h.2.1.le hl, h.2.2.1.le hl, h.2.2.2.1.le hl, h.2.2.2.2.1.le hl, h.2.2.2.2.2.le hl⟩
def cB (a : AC) (l : List Int) (p : Piece) : Prop := aH p 1 a.1 l.length (kK l)
theorem cB.le {a : AC} {l : List Int} (p q : Piece) (hl : p.Le q) (h : cB a l p) : cB a l q := aH.le h hl
theorem jP.P {q : Piece} {x y : bE} {v : Value} (h : jP q x y v) : ∃ x1 x2 x3 y1 y2 y3 : AC, v = .agg #[rK x1 x.d.length, rK x2 x.c.length, rK x3 x.l.length, rK y1 y.d.length, rK y2 y.c.length, rK y3 y.l.length] ∧ ∀ a1 a2 a3 a4 b0 b1 : AC, lP ⟨a1, a2, a3, a4, x1, x2, x3, y1, y2, y3, b0, b1⟩ x y q := by
 obtain ⟨A1, k1, A2, k2, A3, k3, B1, m1, B2, m2, B3, m3, e, a1, a2, a3, b1, b2, b3⟩ := h
 exact ⟨(A1, k1), (A2, k2), (A3, k3), (B1, m1), (B2, m2), (B3, m3), e, fun _ _ _ _ _ _ => ⟨a1, a2, a3, b1, b2, b3⟩⟩
def eE (f h : Nat) (L : eC) (s : aC) (z : bN) : HP := HP.many [HP.aF f 150 (cD h L s z), HP.dV (pW L s) (pW.le (L := L) (s := s)), HP.dV (lP L z.x z.y) (lP.le (L := L) (x := z.x) (y := z.y)), HP.dV (cB L.b0 z.w0) (cB.le (a := L.b0) (l := z.w0)), HP.dV (cB L.b1 z.w1) (cB.le (a := L.b1) (l := z.w1))]
def oM (f h : Nat) (s : aC) (z : bN) : HP := HP.ex fun L : eC => eE f h L s z
structure rF (w : World) (f h : Nat) (L : eC) (s : aC) (z : bN) : Prop where
 r0 : cZ w f 0 (cD h L s z)
 so : pW L s (all w)
 st : lP L z.x z.y (all w)
 b0 : cB L.b0 z.w0 (all w)
 b1 : cB L.b1 z.w1 (all w)
theorem rF.below {w w' : World} {f h : Nat} {L : eC} {s : aC} {z : bN} (k : rF w f h L s z) (hb : Below w.heap.size w w') : rF w' f h L s z :=
 ⟨k.r0.below hb, k.so.le _ _ (fU hb), k.st.le _ _ (fU hb), k.b0.le _ _ (fU hb), k.b1.le _ _ (fU hb)⟩
theorem eE.reads {f h : Nat} {L : eC} {s : aC} {z : bN} {F : Nat → Prop} {w : World} (k : (eE f h L s z).sat F w) (hF : ∀ b, F b → b < w.heap.size) : rF w f h L s z := by
 obtain ⟨G, g1, g2, _⟩ := k
 have hl : ∀ i, (⟨w, G i⟩ : Piece).Le (all w) := fun i b hb => ⟨hF b (g2 i b hb), rfl⟩
 exact ⟨wU (g1 0 _ rfl).2, pW.le _ _ (hl 1) (g1 1 _ rfl), lP.le _ _ (hl 2) (g1 2 _ rfl), cB.le _ _ (hl 3) (g1 3 _ rfl), cB.le _ _ (hl 4) (g1 4 _ rfl)⟩
theorem St.qY {w0 w : World} {R : List Piece} {H : List HP} {f h : Nat} {L : eC} {s : aC} {z : bN} (t : St w0 R H w) (i : Nat) (hi : H[i]? = some (eE f h L s z)) : rF w f h L s z := by
 obtain ⟨F, h1, h2, _⟩ := t.chunk hi
 exact eE.reads h1 h2
def Xn (h : Nat) (s : aC) (v : Value) (hs : List HP) (_ : Piece) : Prop := ∃ f, v = .tuple #[.pointer (some ⟨f, 0, none⟩), .int .i64 0] ∧ hs = [oM f h s (zR s)]
theorem Wa {w : World} (a : AC) (ha : a = (none, 0)) : (HP.dV (cB a []) (cB.le (a := a) (l := []))).sat (fun _ => False) w := by
 subst ha
 exact ⟨rfl, fun h => absurd h (by simp)⟩
theorem aBt (h : Nat) (s : aC) (hH : s.bO) (A1 A2 A3 A4 : Option Addr) (n1 k1 n2 k2 n3 k3 n4 k4 : Nat) (w : World) (hW : fA w s A1 n1 A2 n2 A3 n3 A4 n4) :
  Calls Tryz.prog 16 #[.pointer (some ⟨h, 0, none⟩), .agg #[.slice A1 n1 k1, .slice A2 n2 k2, .slice A3 n3 k3, .slice A4 n4 k4]] w (fun y w' => (∃ v hs q, y = .returned v ∧ q.w = w' ∧ Xn h s v hs q ∧ kA w hs q) ∧ Below w.heap.size w w') := by
 obtain rfl := hW.qN
 obtain rfl := hW.rO
 obtain rfl := hW.uI
 obtain rfl := hW.sS
 refine XK.enter (vs := [.pointer (some ⟨h, 0, none⟩), .agg #[.slice A1 s.aB.length k1, .slice A2 s.domains.length k2, .slice A3 s.aW.length k3, .slice A4 s.aA.length k4]]) Tryz.func16 rfl Tryz.ntmps16 (by simp) ?_
 refine XK.go ?_
 refine bY rfl (by decide) fun g1 => ?_
 dsimp only [Value.cells]
 refine XK.go ?_
 refine aZ (fun w1 t => Lq s A1 A2 A3 A4 _ k1 _ k2 _ k3 _ k4 w1 (hW.le (t.started (by simp))) hH.t.Fs) ?_
 refine XK.go ?_
 refine XK.eR [1, 3] ?_
 refine XB.mv 0 ?_
 refine XB.q 1 ?_
 refine XB.q 3 ?_
 refine XB.next 2 rfl (by kernel_rfl) ?_
 refine iY [] (f := 67) (fi := []) (ca := []) (by kernel_rfl) rfl rfl (by decide) (by simp) (fun v w w' => Xs s v w w') (fun w1 t => aBD s A1 A2 A3 A4 _ k1 _ k2 _ k3 _ k4 w1 (hW.le (t.started (by simp))) (fun d hd => by
  obtain ⟨j, hj⟩ := List.getElem?_of_mem hd
  have := (hH.t.aA j d hj).2.2.2.2.2.2.2.2.1
  omega)) ?_
 rintro _ w1 q1 ⟨cs, rfl, hcs⟩ Bu _ zP
 have zP := zP (by simp)
 obtain ⟨B1, m1, j1, B2, m2, j2, B3, m3, j3, B4, m4, j4, rfl, hsp⟩ := mW.P hcs
 have hsp := hsp.le Bu
 obtain ⟨rfl, rfl, rfl, rfl⟩ := hsp.len
 refine XK.Ni (Φ := pW ⟨(B1, j1), (B2, j2), (B3, j3), (B4, j4), (none, 0), (none, 0), (none, 0), (none, 0), (none, 0), (none, 0), (none, 0), (none, 0)⟩ s) (hm := pW.le) zP (by simp [all]) hsp ?_
 refine XB.bk ?_
 refine XB.next 4 rfl (by kernel_rfl) ?_
 refine iY [] (f := 68) (fi := []) (ca := []) (by kernel_rfl) rfl rfl (by decide) (by simp) (fun v w w' => jP (fresh w w') (dY s) (dY s) v) (fun w1 st => aDb s A1 A2 A3 A4 k1 k2 k3 k4 w1 hH.t) ?_
 rintro _ w2 q2 hst jW _ zO
 have zO := zO (by simp)
 obtain ⟨x1, x2, x3, y1, y2, y3, rfl, Bq⟩ := hst.P
 have Bq := lP.le _ _ jW (Bq (B1, j1) (B2, j2) (B3, j3) (B4, j4) (none, 0) (none, 0))
 refine XK.Ni (Φ := lP ⟨(B1, j1), (B2, j2), (B3, j3), (B4, j4), x1, x2, x3, y1, y2, y3, (none, 0), (none, 0)⟩ (dY s) (dY s)) (hm := lP.le) zO (by simp [all]) Bq ?_
 refine XB.bk ?_
 refine XB.next 5 rfl (by kernel_rfl) ?_
 refine dB (zs := [.pointer none, .slice none 0 0, .slice none 0 0, .slice none 0 0, .slice none 0 0, .slice none 0 0, .slice none 0 0, .slice none 0 0, .slice none 0 0, .slice none 0 0, .slice none 0 0, .int .i64 0, .slice none 0 0, .int .i64 0, .slice none 0 0, .int .i64 0, .int .i64 0, .int .u8 0, .int .i64 0]) (L := [(0, 1), (1, 4), (5, 6), (11, 4), (15, 1), (16, 1), (17, 2)]) (aM (by kernel_rfl)) (by kernel_rfl) rfl (by simp [aR, aU, Value.cells]; rfl) (by decide) ?_
 refine XB.bt ?_
 refine XB.next 6 rfl (by kernel_rfl) ?_
 refine bY rfl (by decide) fun f => ?_
 dsimp only [Value.cells]
 refine XB.bt ?_
 refine XB.next 7 rfl (by kernel_rfl) ?_
 refine bJ ?_
 refine XB.bt ?_
 refine XB.done (by kernel_rfl) ?_
 refine XK.go ?_
 refine XK.wS (p := HP.dV (cB (none, 0) []) (cB.le (a := (none, 0)) (l := []))) (fun w => Wa _ rfl) ?_
 refine XK.wS (p := HP.dV (cB (none, 0) []) (cB.le (a := (none, 0)) (l := []))) (fun w => Wa _ rfl) ?_
 refine XK.weak [2, 4, 3, 0, 1] rfl (by decide) (R' := [all w]) (by simp) ?_
 refine XK.pair ?_
 refine XK.more ?_
 refine XK.more ?_
 refine XK.more ?_
 refine XK.jJ 0 (f := fun L : eC => eE f h L s (zR s)) ⟨(B1, j1), (B2, j2), (B3, j3), (B4, j4), x1, x2, x3, y1, y2, y3, (none, 0), (none, 0)⟩ rfl ?_
 dsimp only [List.set]
 refine XK.still [] [] [0] (by simp) rfl (by decide) (by decide) fun q _ _ hfr => ?_
 exact XK.fQ rfl rfl rfl fun w1 t => ⟨⟨_, _, ⟨w1, q.Z⟩, rfl, rfl, ⟨f, rfl, rfl⟩, t.newR (by simp) (by simp) (hfr (by simp) (by simp))⟩, t.below (by simp)⟩
end
section
set_option maxHeartbeats 4000000
set_option maxRecDepth 20000
section
variable {N : cN} {w0 w : World} {e : Env} {R : List Piece} {H : List HP} {K : Act → World → Prop} {f h : Nat} {s : aC} {z : bN}
theorem XK.Ib (i : Nat) (hi : H[i]? = some (oM f h s z)) (k : ∀ L : eC, XK N w0 K e R (HP.aF f 150 (cD h L s z) :: H.set i (HP.many [HP.emp, HP.dV (pW L s) (pW.le (L := L) (s := s)), HP.dV (lP L z.x z.y) (lP.le (L := L) (x := z.x) (y := z.y)), HP.dV (cB L.b0 z.w0) (cB.le (a := L.b0) (l := z.w0)), HP.dV (cB L.b1 z.w1) (cB.le (a := L.b1) (l := z.w1))]))) : XK N w0 K e R H := by
 have hlt := tA hi
 refine XK.lY i hi fun L => ?_
 refine XK.take i 0 (by rw [List.getElem?_set_self hlt]; rfl) rfl ?_
 simpa [List.set_set] using k L
theorem XK.oI (L : eC) (i : Nat) (hi : H[i]? = some (HP.many [HP.emp, HP.dV (pW L s) (pW.le (L := L) (s := s)), HP.dV (lP L z.x z.y) (lP.le (L := L) (x := z.x) (y := z.y)), HP.dV (cB L.b0 z.w0) (cB.le (a := L.b0) (l := z.w0)), HP.dV (cB L.b1 z.w1) (cB.le (a := L.b1) (l := z.w1))])) (k : XK N w0 K e R (H.set i (oM f h s z))) : XK N w0 K e R (HP.aF f 150 (cD h L s z) :: H) := by
 have hlt := tA hi
 refine XK.aX i 0 hi rfl ?_
 refine XK.jJ i (f := fun L : eC => eE f h L s z) L (by rw [List.getElem?_set_self hlt]; rfl) ?_
 rw [List.set_set]
 exact k
end
def mZ (z : bN) (a : Int) (l : List Int) : Int × bN :=
 if cF 2 a = false then (4, z) else if a = 0 then (if z.h0 ≠ 0 then (7, z) else (0, { z with h0 := 1, w0 := l })) else (if z.h1 ≠ 0 then (7, z) else (0, { z with h1 := 1, w1 := l }))
theorem aBn (f h : Nat) (s : aC) (z : bN) (a : Int) (A : Option Addr) (n c : Nat) (l : List Int) (w : World) (F : Nat → Prop) (hp : (oM f h s z).sat F w) (hF : ∀ b, F b → b < w.heap.size) (hs : aH ⟨w, fun b => b < w.heap.size ∧ ¬ F b⟩ 1 A n (kK l)) (hn : n = l.length) (hn2 : n ≤ 1000000) :
  Calls Tryz.prog 19 #[.pointer (some ⟨f, 0, none⟩), .int .i64 a, .slice A n c] w (fun y w' => y = .returned (.int .i64 (mZ z a l).1) ∧ ∃ F', (oM f h s (mZ z a l).2).sat F' w' ∧ bI w w' F F') := by
 subst hn
 cases hin : cF 2 a
 ·have hr : mZ z a l = (4, z) := by simp [mZ, hin]
  rw [hr]
  refine XK.dD (p := oM f h s z) (F := F) (vs := [.pointer (some ⟨f, 0, none⟩), .int .i64 a, .slice A l.length c]) Tryz.func19 rfl Tryz.ntmps19 (by simp) hp hF ?_
  refine XK.go ?_
  refine aZ (fun w1 t => Eh a w1) ?_
  rw [hin]
  refine XK.go ?_
  exact XK.aI rfl rfl fun w1 t => ⟨rfl, t.turns hF (by simp) (i := 0) rfl⟩
 ·obtain rfl | rfl : a = 0 ∨ a = 1 := by have := of_decide_eq_true hin; omega
  ·refine XK.dD (p := oM f h s z) (F := F) (vs := [.pointer (some ⟨f, 0, none⟩), .int .i64 0, .slice A l.length c]) Tryz.func19 rfl Tryz.ntmps19 (by simp) hp hF ?_
   refine XK.Ib 0 rfl fun L => ?_
   dsimp only [List.set, cD]
   refine XK.go ?_
   refine aZ (fun w1 t => Eh 0 w1) ?_
   refine XK.go ?_
   refine kd (fJ 0 11) ?_
   refine XK.go ?_
   refine XK.if_ rfl (fun hb => ?_) (fun hb => ?_)
   ·have hr : mZ z 0 l = (7, z) := by simp [mZ, cF, hb]
    rw [hr]
    refine XK.go ?_
    refine XK.oI L 0 rfl ?_
    dsimp only [List.set]
    exact XK.aI rfl rfl fun w1 t => ⟨rfl, t.turns hF (by simp) (i := 0) rfl⟩
   ·have hr : mZ z 0 l = (0, { z with h0 := 1, w0 := l }) := by simp [mZ, cF]; simpa using hb
    rw [hr]
    refine XK.go ?_
    refine XK.eR [5, 6] ?_
    refine XB.mv 0 ?_
    refine XB.mv 1 ?_
    refine XB.mv 2 ?_
    refine XB.q 5 ?_
    refine XB.q 6 ?_
    refine XB.next 3 rfl (by kernel_rfl) ?_
    refine dZ (f := 72) (fi := []) (ca := []) (by kernel_rfl) rfl rfl (by decide) (Xt l.length (kK l)) (fun w1 t => aBG A _ c _ w1 (hs.le (t.le (by simp))) (Gp _) hn2) ?_
    rintro _ _ q1 ⟨An, cn, rfl, rfl⟩ _
    dsimp only [List.cons_append, List.nil_append]
    refine XB.bk ?_
    refine XB.next 4 rfl (by kernel_rfl) ?_
    refine dB (zs := [.int .i64 0, .slice none 0 0]) (L := [(0, 1), (1, 1)]) (aM (by kernel_rfl)) (by kernel_rfl) rfl (by simp [aR, aU, Value.cells]; rfl) (by decide) ?_
    refine XB.bk ?_
    refine XB.next 7 rfl (by kernel_rfl) ?_
    refine kd (fJ 0 11) ?_
    refine XB.bt ?_
    refine XB.next 8 rfl (by kernel_rfl) ?_
    refine kC 1 (t := 150) rfl rfl rfl (by kernel_rfl) (by simp [Value.cells, Value.oneCell']) (by simp [Value.cells]) ?_
    dsimp only [List.set, Value.cells, cC]
    refine XB.bt ?_
    refine XB.done (by kernel_rfl) ?_
    refine XK.go ?_
    refine XK.sN 0 (Φ := cB (An, cn) l) (hm := cB.le) rfl (fun p hp => hp) ?_
    refine XK.take 2 3 rfl rfl ?_
    dsimp only [List.set]
    refine XK.weak [1, 2, 3] rfl (by decide) (fun _ h => h) ?_
    refine XK.aX 1 3 rfl rfl ?_
    dsimp only [List.set]
    refine XK.oI (h := h) (s := s) (z := { z with h0 := 1, w0 := l }) { L with b0 := (An, cn) } 0 rfl ?_
    dsimp only [List.set]
    exact XK.aI rfl rfl fun w1 t => ⟨rfl, t.turns hF (by simp) (i := 0) rfl⟩
  ·refine XK.dD (p := oM f h s z) (F := F) (vs := [.pointer (some ⟨f, 0, none⟩), .int .i64 1, .slice A l.length c]) Tryz.func19 rfl Tryz.ntmps19 (by simp) hp hF ?_
   refine XK.Ib 0 rfl fun L => ?_
   dsimp only [List.set, cD]
   refine XK.go ?_
   refine aZ (fun w1 t => Eh 1 w1) ?_
   refine XK.go ?_
   refine kd (fJ 1 13) ?_
   refine XK.go ?_
   refine XK.if_ rfl (fun hb => ?_) (fun hb => ?_)
   ·have hr : mZ z 1 l = (7, z) := by simp [mZ, cF, hb]
    rw [hr]
    refine XK.go ?_
    refine XK.oI L 0 rfl ?_
    dsimp only [List.set]
    exact XK.aI rfl rfl fun w1 t => ⟨rfl, t.turns hF (by simp) (i := 0) rfl⟩
   ·have hr : mZ z 1 l = (0, { z with h1 := 1, w1 := l }) := by simp [mZ, cF]; simpa using hb
    rw [hr]
    refine XK.go ?_
    refine XK.eR [5, 6] ?_
    refine XB.mv 0 ?_
    refine XB.mv 1 ?_
    refine XB.mv 2 ?_
    refine XB.q 5 ?_
    refine XB.q 6 ?_
    refine XB.next 3 rfl (by kernel_rfl) ?_
    refine dZ (f := 72) (fi := []) (ca := []) (by kernel_rfl) rfl rfl (by decide) (Xt l.length (kK l)) (fun w1 t => aBG A _ c _ w1 (hs.le (t.le (by simp))) (Gp _) hn2) ?_
    rintro _ _ q1 ⟨An, cn, rfl, rfl⟩ _
    dsimp only [List.cons_append, List.nil_append]
    refine XB.bk ?_
    refine XB.next 4 rfl (by kernel_rfl) ?_
    refine dB (zs := [.int .i64 0, .slice none 0 0]) (L := [(0, 1), (1, 1)]) (aM (by kernel_rfl)) (by kernel_rfl) rfl (by simp [aR, aU, Value.cells]; rfl) (by decide) ?_
    refine XB.bk ?_
    refine XB.next 7 rfl (by kernel_rfl) ?_
    refine kd (fJ 1 13) ?_
    refine XB.bt ?_
    refine XB.next 8 rfl (by kernel_rfl) ?_
    refine kC 1 (t := 150) rfl rfl rfl (by kernel_rfl) (by simp [Value.cells, Value.oneCell']) (by simp [Value.cells]) ?_
    dsimp only [List.set, Value.cells, cC]
    refine XB.bt ?_
    refine XB.done (by kernel_rfl) ?_
    refine XK.go ?_
    refine XK.sN 0 (Φ := cB (An, cn) l) (hm := cB.le) rfl (fun p hp => hp) ?_
    refine XK.take 2 4 rfl rfl ?_
    dsimp only [List.set]
    refine XK.weak [1, 2, 3] rfl (by decide) (fun _ h => h) ?_
    refine XK.aX 1 4 rfl rfl ?_
    dsimp only [List.set]
    refine XK.oI (h := h) (s := s) (z := { z with h1 := 1, w1 := l }) { L with b1 := (An, cn) } 0 rfl ?_
    dsimp only [List.set]
    exact XK.aI rfl rfl fun w1 t => ⟨rfl, t.turns hF (by simp) (i := 0) rfl⟩
def oY (z : bN) (a : Int) : Option (List Int) := if a = 0 then (if z.h0 = 2 then some z.w0 else none) else if a = 1 then (if z.h1 = 2 then some z.w1 else none) else none
def nT (z : bN) (a : Int) : bN := if a = 0 then (if z.h0 = 2 then { z with h0 := 0, w0 := [] } else z) else if a = 1 then (if z.h1 = 2 then { z with h1 := 0, w1 := [] } else z) else z
def aDH (l : Option (List Int)) (a : AC) : Value := match l with
 | some l => .tuple #[.slice a.1 l.length a.2, .bool true]
 | none => .tuple #[.slice none 0 0, .bool false]
def xD (f h : Nat) (s : aC) (z : bN) (l : List Int) (c : AC) : HP := HP.many [oM f h s z, HP.dV (cB c l) (cB.le (a := c) (l := l))]
theorem Vv (f h : Nat) (s : aC) (z : bN) (a : Int) (w : World) (F : Nat → Prop) (hp : (oM f h s z).sat F w) (hF : ∀ b, F b → b < w.heap.size) :
  Calls Tryz.prog 21 #[.pointer (some ⟨f, 0, none⟩), .int .i64 a] w (fun y w' => ∃ c : AC, y = .returned (aDH (oY z a) c) ∧ True ∧ ∃ F', (xD f h s (nT z a) ((oY z a).getD []) c).sat F' w' ∧ bI w w' F F') := by
 have Jy : ∀ w : World, (HP.dV (cB (none, 0) []) (cB.le (a := (none, 0)) (l := []))).sat (fun _ => False) w := fun w => Wa _ rfl
 cases hin : cF 2 a
 ·have h0 : a ≠ 0 := fun h => by subst h; cases hin
  have h1 : a ≠ 1 := fun h => by subst h; cases hin
  have hr : oY z a = none := by simp [oY, h0, h1]
  have hz : nT z a = z := by simp [nT, h0, h1]
  rw [hr, hz]
  unfold xD
  refine XK.dD (p := oM f h s z) (F := F) (vs := [.pointer (some ⟨f, 0, none⟩), .int .i64 a]) Tryz.func21 rfl Tryz.ntmps21 (by simp) hp hF ?_
  refine XK.go ?_
  refine aZ (fun w1 t => Eh a w1) ?_
  rw [hin]
  refine XK.go ?_
  refine XK.wS (p := HP.dV (cB (none, 0) []) (cB.le (a := (none, 0)) (l := []))) Jy ?_
  refine XK.weak [1, 0] rfl (by decide) (fun _ h => h) ?_
  refine XK.pair ?_
  exact XK.fQ rfl rfl rfl fun w1 t => ⟨(none, 0), rfl, trivial, t.turns hF (by simp) (i := 0) rfl⟩
 ·obtain rfl | rfl : a = 0 ∨ a = 1 := by have := of_decide_eq_true hin; omega
  ·refine XK.dD (p := oM f h s z) (F := F) (vs := [.pointer (some ⟨f, 0, none⟩), .int .i64 0]) Tryz.func21 rfl Tryz.ntmps21 (by simp) hp hF ?_
   refine XK.Ib 0 rfl fun L => ?_
   dsimp only [List.set, cD]
   refine XK.go ?_
   refine aZ (fun w1 t => Eh 0 w1) ?_
   refine XK.go ?_
   refine kd (fJ 0 11) ?_
   refine XK.go ?_
   refine XK.if_ rfl (fun hb => ?_) (fun hb => ?_)
   ·have hr : oY z 0 = none := by simp [oY, hb]
    have hz : nT z 0 = z := by simp [nT, hb]
    rw [hr, hz]
    unfold xD
    dsimp only [Option.getD]
    refine XK.go ?_
    refine XK.oI L 0 rfl ?_
    dsimp only [List.set]
    refine XK.wS (p := HP.dV (cB (none, 0) []) (cB.le (a := (none, 0)) (l := []))) Jy ?_
    refine XK.weak [1, 0] rfl (by decide) (fun _ h => h) ?_
    refine XK.pair ?_
    exact XK.fQ rfl rfl rfl fun w1 t => ⟨(none, 0), rfl, trivial, t.turns hF (by simp) (i := 0) rfl⟩
   ·have cX : z.h0 = 2 := by simpa using hb
    have hr : oY z 0 = some z.w0 := by simp [oY, cX]
    have hz : nT z 0 = { z with h0 := 0, w0 := [] } := by simp [nT, cX]
    rw [hr, hz]
    unfold xD
    dsimp only [Option.getD]
    refine XK.go ?_
    refine kd (fJ 0 11) ?_
    refine XK.go ?_
    refine dB (zs := [.int .i64 0, .slice none 0 0]) (L := [(0, 1), (1, 1)]) (aM (by kernel_rfl)) (by kernel_rfl) rfl (by simp [aR, aU, Value.cells]; rfl) (by decide) ?_
    refine XK.go ?_
    refine kd (fJ 0 11) ?_
    refine kC 0 (t := 150) rfl rfl rfl (by kernel_rfl) (by simp [Value.cells, Value.oneCell']) (by simp [Value.cells]) ?_
    dsimp only [List.set, Value.cells, cC]
    refine XK.go ?_
    refine XK.take 1 3 rfl rfl ?_
    dsimp only [List.set]
    refine XK.wS (p := HP.dV (cB (none, 0) []) (cB.le (a := (none, 0)) (l := []))) Jy ?_
    refine XK.weak [0, 2, 3, 1] rfl (by decide) (fun _ h => h) ?_
    refine XK.aX 1 3 rfl rfl ?_
    dsimp only [List.set]
    refine XK.oI (h := h) (s := s) (z := { z with h0 := 0, w0 := [] }) { L with b0 := (none, 0) } 0 rfl ?_
    dsimp only [List.set]
    refine XK.pair ?_
    exact XK.fQ rfl rfl rfl fun w1 t => ⟨L.b0, rfl, trivial, t.turns hF (by simp) (i := 0) rfl⟩
  ·refine XK.dD (p := oM f h s z) (F := F) (vs := [.pointer (some ⟨f, 0, none⟩), .int .i64 1]) Tryz.func21 rfl Tryz.ntmps21 (by simp) hp hF ?_
   refine XK.Ib 0 rfl fun L => ?_
   dsimp only [List.set, cD]
   refine XK.go ?_
   refine aZ (fun w1 t => Eh 1 w1) ?_
   refine XK.go ?_
   refine kd (fJ 1 13) ?_
   refine XK.go ?_
   refine XK.if_ rfl (fun hb => ?_) (fun hb => ?_)
   ·have hr : oY z 1 = none := by simp [oY, hb]
    have hz : nT z 1 = z := by simp [nT, hb]
    rw [hr, hz]
    unfold xD
    dsimp only [Option.getD]
    refine XK.go ?_
    refine XK.oI L 0 rfl ?_
    dsimp only [List.set]
    refine XK.wS (p := HP.dV (cB (none, 0) []) (cB.le (a := (none, 0)) (l := []))) Jy ?_
    refine XK.weak [1, 0] rfl (by decide) (fun _ h => h) ?_
    refine XK.pair ?_
    exact XK.fQ rfl rfl rfl fun w1 t => ⟨(none, 0), rfl, trivial, t.turns hF (by simp) (i := 0) rfl⟩
   ·have cX : z.h1 = 2 := by simpa using hb
    have hr : oY z 1 = some z.w1 := by simp [oY, cX]
    have hz : nT z 1 = { z with h1 := 0, w1 := [] } := by simp [nT, cX]
    rw [hr, hz]
    unfold xD
    dsimp only [Option.getD]
    refine XK.go ?_
    refine kd (fJ 1 13) ?_
    refine XK.go ?_
    refine dB (zs := [.int .i64 0, .slice none 0 0]) (L := [(0, 1), (1, 1)]) (aM (by kernel_rfl)) (by kernel_rfl) rfl (by simp [aR, aU, Value.cells]; rfl) (by decide) ?_
    refine XK.go ?_
    refine kd (fJ 1 13) ?_
    refine kC 0 (t := 150) rfl rfl rfl (by kernel_rfl) (by simp [Value.cells, Value.oneCell']) (by simp [Value.cells]) ?_
    dsimp only [List.set, Value.cells, cC]
    refine XK.go ?_
    refine XK.take 1 4 rfl rfl ?_
    dsimp only [List.set]
    refine XK.wS (p := HP.dV (cB (none, 0) []) (cB.le (a := (none, 0)) (l := []))) Jy ?_
    refine XK.weak [0, 2, 3, 1] rfl (by decide) (fun _ h => h) ?_
    refine XK.aX 1 4 rfl rfl ?_
    dsimp only [List.set]
    refine XK.oI (h := h) (s := s) (z := { z with h1 := 0, w1 := [] }) { L with b1 := (none, 0) } 0 rfl ?_
    dsimp only [List.set]
    refine XK.pair ?_
    exact XK.fQ rfl rfl rfl fun w1 t => ⟨L.b1, rfl, trivial, t.turns hF (by simp) (i := 0) rfl⟩
end
section
set_option maxHeartbeats 4000000
set_option maxRecDepth 20000
def vF (c : dG) (r : Int) : Int := if c.kind = 112 then (if 1099511627776 < r * c.mul / c.div then 1099511627776 else r * c.mul / c.div) else if c.kind = 100 then r / c.div else r
def Cr (s : aC) : Nat → Nat → Int
 | 0, _ => 0
 | k + 1, i => match s.aB[i]? with
  | none => 0
  | some c => if c.kind = 111 then c.rate else vF c (match c.src with
   | [] => 0
   | f :: _ => Cr s k f.toNat)
def mG (s : aC) (i : Nat) : Int := Cr s (i + 1) i
def zC (s : aC) (st : List cT) (i : Int) : Int := if kU s st i then mG s i.toNat else 0
theorem aGJ {s : aC} (hf : Fits dG.fit s.aB) : ∀ (c k : Nat), c < k → Cr s k c = Cr s (c + 1) c := by
 intro c
 induction c using Nat.strongRecOn with
 | _ c ih =>
  intro k hk
  obtain ⟨k, rfl⟩ := Nat.exists_eq_add_of_lt hk
  rw [show c + k + 1 = (c + k) + 1 from rfl]
  unfold Cr
  cases hc : s.aB[c]? with
  | none => rfl
  | some x =>
   dsimp only
   cases hs : x.src with
   | nil => rfl
   | cons f fs =>
    have hfit := (hf c x hc).1 f (by rw [hs]; simp)
    have h1 : f.toNat < c := by omega
    dsimp only
    rw [ih f.toNat h1 (c + k) (by omega), ih f.toNat h1 c h1]
theorem aBy {s : aC} (hf : Fits dG.fit s.aB) {i : Nat} {c : dG} (hc : s.aB[i]? = some c) : mG s i = if c.kind = 111 then c.rate else vF c (match c.src with
  | [] => 0
  | f :: _ => mG s f.toNat) := by
 unfold mG
 rw [Cr, hc]
 dsimp only
 cases hs : c.src with
 | nil => rfl
 | cons f fs =>
  have hfit := (hf i c hc).1 f (by rw [hs]; simp)
  dsimp only
  rw [aGJ hf f.toNat i (by omega)]
theorem aGI {s : aC} (hf : Fits dG.fit s.aB) : ∀ i : Nat, 0 ≤ mG s i ∧ mG s i ≤ 1099511627776 := by
 intro i
 induction i using Nat.strongRecOn with
 | _ i ih =>
  cases hc : s.aB[i]? with
  | none => unfold mG Cr; rw [hc]; exact ⟨Int.le_refl 0, by show (0 : Int) ≤ 1099511627776; omega⟩
  | some c =>
   rw [aBy hf hc]
   obtain ⟨hsrc, hfit⟩ := hf i c hc
   have hr : 0 ≤ (match c.src with | [] => 0 | f :: _ => mG s f.toNat) ∧ (match c.src with | [] => 0 | f :: _ => mG s f.toNat) ≤ 1099511627776 := by
    cases hs : c.src with
    | nil => exact ⟨Int.le_refl 0, by show (0 : Int) ≤ 1099511627776; omega⟩
    | cons f fs =>
     have := hsrc f (by rw [hs]; simp)
     exact ih f.toNat (by omega)
   generalize (match c.src with | [] => 0 | f :: _ => mG s f.toNat) = r at hr
   rcases hfit with ⟨hk, _, h1, h2, _⟩ | ⟨hk, _, _, h1, h2, h3, h4, _⟩ | ⟨hk, _, _, _, h1, h2, _⟩ | ⟨hk, _⟩ | ⟨hk, _⟩
   ·rw [if_pos hk]; omega
   ·rw [if_neg (by omega), vF, if_pos hk]
    have : 0 ≤ r * c.mul / c.div := Int.ediv_nonneg (Int.mul_nonneg hr.1 (by omega)) (by omega)
    split <;> omega
   ·rw [if_neg (by omega), vF, if_neg (by omega), if_pos hk]
    have h5 : 0 ≤ r / c.div := Int.ediv_nonneg hr.1 (by omega)
    have h6 : r / c.div ≤ r := Int.ediv_le_self _ hr.1
    omega
   ·rw [if_neg (by omega), vF, if_neg (by omega), if_neg (by omega)]; exact hr
   ·rw [if_neg (by omega), vF, if_neg (by omega), if_neg (by omega)]; exact hr
theorem aBz (n : Int) (h1 : 1 ≤ n) (h2 : n ≤ 1000) (w : World) : Calls Tryz.prog 229 #[.int .i64 n] w (Rt (.bool true) w) := by
 refine XK.enter (vs := [.int .i64 n]) Tryz.func229 rfl Tryz.ntmps229 (by simp) ?_
 refine XK.go ?_
 refine bT (t := 5) rfl (fun _ => ?_) (fun h => absurd h1 h)
 refine XK.go ?_
 refine XK.bU (by simp) ?_
 rw [decide_eq_true h2]
theorem aDh (r m d : Int) (hr : 0 ≤ r ∧ r ≤ 1099511627776) (hm : 1 ≤ m ∧ m ≤ 8) (hd : 1 ≤ d ∧ d ≤ 4) (w : World) : Calls Tryz.prog 172 #[.int .u64 r, .int .i64 m, .int .i64 d] w (Rt (.tuple #[.int .u64 (if 1099511627776 < r * m / d then 0 else r * m / d), .int .i64 (if 1099511627776 < r * m / d then 3 else 0)]) w) := by
 have hmul : 0 ≤ r * m ∧ r * m ≤ 1099511627776 * 8 := ⟨Int.mul_nonneg hr.1 (by omega), Int.mul_le_mul hr.2 hm.2 (by omega) (by omega)⟩
 have hq : 0 ≤ r * m / d ∧ r * m / d ≤ r * m := ⟨Int.ediv_nonneg hmul.1 (by omega), Int.ediv_le_self _ hmul.1⟩
 refine XK.enter (vs := [.int .u64 r, .int .i64 m, .int .i64 d]) Tryz.func172 rfl Tryz.ntmps172 (by simp) ?_
 refine XK.go ?_
 refine bT (t := 11) rfl (fun h => absurd h (by omega)) (fun _ => ?_)
 refine XK.go ?_
 refine aZ (fun w1 t => aBz m hm.1 (by omega) w1) ?_
 refine XK.go ?_
 refine aZ (fun w1 t => aBz d hd.1 (by omega) w1) ?_
 refine XK.go ?_
 refine rH (ds := .int .i64) (kd := .u64) (by kernel_rfl) (by kernel_rfl) rfl (wrap_u64 (by omega)) (by decide) ?_
 refine Qo rfl rfl (c := r * m) (wrap_u64 (by omega)) (by decide) ?_
 refine XK.go ?_
 refine rH (ds := .int .i64) (kd := .u64) (by kernel_rfl) (by kernel_rfl) rfl (wrap_u64 (by omega)) (by decide) ?_
 refine Gm rfl rfl (c := r * m / d) (by omega) (by rw [Int.tdiv_eq_ediv_of_nonneg hmul.1]; exact wrap_u64 (by omega)) (by decide) ?_
 refine XK.go ?_
 refine XK.if_ rfl (fun h => ?_) (fun h => ?_)
 ·rw [if_pos h, if_pos h]
  refine XK.go ?_
  exact XK.fQ rfl rfl rfl fun w1 t => ⟨rfl, t.below (by simp)⟩
 ·rw [if_neg h, if_neg h]
  refine XK.go ?_
  exact XK.fQ rfl rfl rfl fun w1 t => ⟨rfl, t.below (by simp)⟩
theorem aHE (L : TL) (s : aC) (st : List cT) (hH : s.bO) (b1 b2 : Nat) : ∀ (i : Nat), i < s.aB.length → ∀ w, rE w L s st → eW w b1 0 (.pointer (some ⟨L.t, 0, none⟩)) → eW w b2 0 (.func (.func 171) #[] #[.pointer (some ⟨b1, 0, none⟩), .pointer (some ⟨b2, 0, none⟩)]) →
  Calls Tryz.prog 171 #[.int .i64 (i : Int), .pointer (some ⟨b1, 0, none⟩), .pointer (some ⟨b2, 0, none⟩)] w (Rt (.int .u64 (mG s i)) w) := by
 intro i
 induction i using Nat.strongRecOn with
 | _ i ih =>
  intro hlt w hR Ch cX
  obtain ⟨b, off, c, a, x, hc, hx, hA, hro, hs⟩ := hR.node hlt
  have Jw := aBy hH.t.aB hc
  have h0 := hR.r0
  rw [hA] at h0
  have k0 := hro.at_ (j := 0) rfl
  have k2 := hro.at_ (j := 2) rfl
  have k3 := hro.at_ (j := 3) rfl
  have k4 := hro.at_ (j := 4) rfl
  have k10 := hro.at_ (j := 10) rfl
  have Ey : ∀ {w1}, Below w.heap.size w w1 → eW w1 b1 0 (.pointer (some ⟨L.t, 0, none⟩)) := fun hb => ⟨Nat.lt_of_lt_of_le Ch.1 hb.size, (hb.cell (p := ⟨_, 0, none⟩) Ch.1).trans Ch.2⟩
  have go2 : ∀ {w1}, Below w.heap.size w w1 → eW w1 b2 0 (.func (.func 171) #[] #[.pointer (some ⟨b1, 0, none⟩), .pointer (some ⟨b2, 0, none⟩)]) := fun hb => ⟨Nat.lt_of_lt_of_le cX.1 hb.size, (hb.cell (p := ⟨_, 0, none⟩) cX.1).trans cX.2⟩
  obtain ⟨hsrc, hfit⟩ := hH.t.aB i c hc
  refine XK.enter (vs := [.int .i64 (i : Int), .pointer (some ⟨b1, 0, none⟩), .pointer (some ⟨b2, 0, none⟩)]) Tryz.func171 rfl Tryz.ntmps171 (by simp) ?_
  refine XK.go ?_
  refine kd (dat i (off + i * 11)) ?_
  rcases hfit with ⟨hk, hs0, _⟩ | hfit
  ·rw [hk] at k0
   rw [if_pos hk] at Jw
   refine XK.go ?_
   exact XK.bU (by simp) (by rw [Jw])
  obtain ⟨f, fs, hf⟩ : ∃ (f : Nat) (fs : List Int), c.src = (f : Int) :: fs := by
   cases hs0 : c.src with
   | nil => rw [hs0] at hfit; simp at hfit
   | cons f fs => exact ⟨f.toNat, fs, by have := (hsrc f (by rw [hs0]; simp)).1; rw [Int.toNat_of_nonneg this]⟩
  have Cb : f < i := by have := (hsrc f (by rw [hf]; simp)).2; omega
  have mS := aGI hH.t.aB f
  have Pg : ∀ w1, Below w.heap.size w w1 → Calls Tryz.prog 167 #[.pointer (some ⟨L.t, 0, none⟩), .int .i64 (i : Int)] w1 (Rt (.int .i64 (f : Int)) w1) := fun w1 hb => Fq L s st i f c fs w1 (hR.below hb) hc hf
  have Pf : ∀ w1, Below w.heap.size w w1 → Calls Tryz.prog 171 #[.int .i64 (f : Int), .pointer (some ⟨b1, 0, none⟩), .pointer (some ⟨b2, 0, none⟩)] w1 (Rt (.int .u64 (mG s f)) w1) := fun w1 hb => ih f Cb (by omega) w1 (hR.below hb) (Ey hb) (go2 hb)
  rw [hf] at Jw
  have uP : mG s i = if c.kind = 111 then c.rate else vF c (mG s f) := Jw
  clear Jw
  rcases hfit with ⟨hk, _, _, Uj, hm2, dR, hd2, _⟩ | ⟨hk, _, _, _, dR, hd2, _⟩ | ⟨hk, _⟩ | ⟨hk, _⟩
  ·rw [hk] at k0
   rw [if_neg (by omega), vF, if_pos hk] at uP
   refine XK.go ?_
   refine XK.jD ?_
   refine XQ.go ?_
   refine XQ.call (fun w1 t => Pg w1 (t.below (by simp))) ?_
   refine XQ.yM (fi := []) (vs := [.int .i64 (f : Int)]) (ca := [.pointer (some ⟨b1, 0, none⟩), .pointer (some ⟨b2, 0, none⟩)]) (fun w1 t => Pf w1 (t.below (by simp))) ?_
   refine XQ.end_ ?_
   refine XK.go ?_
   refine XK.jD ?_
   refine XQ.go ?_
   refine XQ.call (fun w1 t => aDh _ c.mul c.div mS ⟨Uj, hm2⟩ ⟨dR, hd2⟩ w1) ?_
   refine XQ.end_ ?_
   refine XK.go ?_
   by_cases hq : 1099511627776 < mG s f * c.mul / c.div
   ·rw [if_pos hq] at uP
    rw [if_pos hq, if_pos hq]
    refine XK.go ?_
    exact XK.bU (by simp) (by rw [uP])
   ·rw [if_neg hq] at uP
    rw [if_neg hq, if_neg hq]
    refine XK.go ?_
    exact XK.bU (by simp) (by rw [uP])
  ·rw [hk] at k0
   rw [if_neg (by omega), vF, if_neg (by omega), if_pos hk] at uP
   have hby : Ww c = c.div := by rw [Ww, if_pos hk]
   rw [hby] at k10
   have hq : 0 ≤ mG s f / c.div ∧ mG s f / c.div ≤ mG s f := ⟨Int.ediv_nonneg mS.1 (by omega), Int.ediv_le_self _ mS.1⟩
   refine XK.go ?_
   refine XK.jD ?_
   refine XQ.go ?_
   refine XQ.call (fun w1 t => Pg w1 (t.below (by simp))) ?_
   refine XQ.yM (fi := []) (vs := [.int .i64 (f : Int)]) (ca := [.pointer (some ⟨b1, 0, none⟩), .pointer (some ⟨b2, 0, none⟩)]) (fun w1 t => Pf w1 (t.below (by simp))) ?_
   refine XQ.end_ ?_
   refine XK.go ?_
   refine rH (ds := .int .i64) (kd := .u64) (by kernel_rfl) (by kernel_rfl) rfl (wrap_u64 (by omega)) (by decide) ?_
   refine Gm rfl rfl (c := mG s f / c.div) (by omega) (by rw [Int.tdiv_eq_ediv_of_nonneg mS.1]; exact wrap_u64 (by omega)) (by decide) ?_
   refine XK.go ?_
   exact XK.bU (by simp) (by rw [uP])
  ·rw [hk] at k0
   rw [if_neg (by omega), vF, if_neg (by omega), if_neg (by omega)] at uP
   refine XK.go ?_
   refine XK.jD ?_
   refine XQ.go ?_
   refine XQ.call (fun w1 t => Pg w1 (t.below (by simp))) ?_
   refine XQ.yM (fi := []) (vs := [.int .i64 (f : Int)]) (ca := [.pointer (some ⟨b1, 0, none⟩), .pointer (some ⟨b2, 0, none⟩)]) (fun w1 t => Pf w1 (t.below (by simp))) ?_
   refine XQ.end_ ?_
   refine XK.go ?_
   exact XK.bU (by simp) (by rw [uP])
  ·rw [hk] at k0
   rw [if_neg (by omega), vF, if_neg (by omega), if_neg (by omega)] at uP
   refine XK.go ?_
   refine XK.jD ?_
   refine XQ.go ?_
   refine XQ.call (fun w1 t => Pg w1 (t.below (by simp))) ?_
   refine XQ.yM (fi := []) (vs := [.int .i64 (f : Int)]) (ca := [.pointer (some ⟨b1, 0, none⟩), .pointer (some ⟨b2, 0, none⟩)]) (fun w1 t => Pf w1 (t.below (by simp))) ?_
   refine XQ.end_ ?_
   refine XK.go ?_
   exact XK.bU (by simp) (by rw [uP])
theorem aHB (L : TL) (s : aC) (st : List cT) (hH : s.bO) (i : Int) (w : World) (hR : rE w L s st) :
  Calls Tryz.prog 87 #[.pointer (some ⟨L.t, 0, none⟩), .int .i64 i] w (Rt (.int .u64 (zC s st i)) w) := by
 unfold zC
 cases hr : kU s st i
 ·rw [if_neg (by decide)]
  refine XK.enter (vs := [.pointer (some ⟨L.t, 0, none⟩), .int .i64 i]) Tryz.func87 rfl Tryz.ntmps87 (by simp) ?_
  refine XK.go ?_
  refine bY rfl (by decide) fun g1 => ?_
  refine XK.go ?_
  refine aZ (fun w1 t => Lp L s st hH i w1 (hR.below (t.below (by simp)))) ?_
  rw [hr]
  refine XK.go ?_
  exact XK.bU (by simp) rfl
 ·rw [if_pos rfl]
  have hi : cF s.aB.length i = true := by
   unfold kU at hr
   exact (Bool.and_eq_true _ _ ▸ hr).1
  obtain ⟨n, rfl⟩ : ∃ n : Nat, i = n := ⟨i.toNat, by have := of_decide_eq_true hi; omega⟩
  have hlt : n < s.aB.length := by have := of_decide_eq_true hi; omega
  refine XK.enter (vs := [.pointer (some ⟨L.t, 0, none⟩), .int .i64 (n : Int)]) Tryz.func87 rfl Tryz.ntmps87 (by simp) ?_
  refine XK.go ?_
  refine bY rfl (by decide) fun g1 => ?_
  refine XK.go ?_
  refine aZ (fun w1 t => Lp L s st hH n w1 (hR.below (t.below (by simp)))) ?_
  rw [hr]
  refine XK.go ?_
  refine bZ (cs := [.nilFunc]) (aM (by kernel_rfl)) (by decide) fun g2 => ?_
  refine XK.go ?_
  refine iL (vf := []) (vc := [.pointer (some ⟨g1, 0, none⟩), .pointer (some ⟨g2, 0, none⟩)]) rfl rfl (by decide) ?_
  refine XK.go ?_
  refine Oc (fi := []) (vs := [.int .i64 (n : Int)]) (ca := [.pointer (some ⟨g1, 0, none⟩), .pointer (some ⟨g2, 0, none⟩)]) (fun w1 t => aHE L s st hH g1 g2 n hlt w1 (hR.below (t.below (by simp))) ((t.box (i := 1) rfl).at_ (j := 0) rfl) ((t.box (i := 0) rfl).at_ (j := 0) rfl)) ?_
  refine XK.go ?_
  exact XK.bU (by simp) rfl
end
section
set_option maxHeartbeats 4000000
set_option maxRecDepth 20000
def iD (s : aC) (x : aT) (l : List Int) : List Int :=
 let w := l.headD 0
 if bX w 0 8 = 0 then [131072]
 else if bX w 10 8 = 16 ∧ bX w 0 8 = 1 then [IntKind.u32.wrap (s.domains.length + s.aB.length * 256 + s.aW.length * 65536 + s.aA.length * 16777216)]
 else if bX w 10 8 = 17 ∧ bX w 0 8 = 5 then [Bj (kW x.dm (l.getD 1 0))]
 else if bX w 10 8 = 20 ∧ bX w 0 8 = 6 then [IntKind.u32.wrap (zC s x.ck (l.getD 1 0)), IntKind.u32.wrap (zC s x.ck (l.getD 1 0) / 4294967296)] else []
theorem aFM (L : HL) (s : aC) (x : aT) (w : World) (hH : s.bO) (i : Int) (hR : oL w L s x) : Calls Tryz.prog 27 #[.pointer (some ⟨L.h, 0, none⟩), .int .i64 i] w (Rt (.int .u64 (zC s x.ck i)) w) := by
 have k0 := hR.r0.at_ (j := 0) rfl
 refine XK.enter (vs := [.pointer (some ⟨L.h, 0, none⟩), .int .i64 i]) Tryz.func27 rfl Tryz.ntmps27 (by simp) ?_
 refine XK.go ?_
 refine aZ (fun w1 t => uR L s x w1 (hR.below (t.below (by simp)))) ?_
 refine XK.go ?_
 refine aZ (fun w1 t => aHB L.T s x.ck hH i w1 (hR.tree.below (t.below (by simp)))) ?_
 refine XK.go ?_
 exact XK.bU (by simp) rfl
theorem Wv {α : Type} {cs vs : List α} {o : Nat} (hv : (cs.drop o).take vs.length = vs) {j : Nat} {v : α} (hj : vs[j]? = some v) : cs[o + j]? = some v := by
 have hlt := (List.getElem?_eq_some_iff.1 hj).1
 rw [← hv, List.getElem?_take_of_lt hlt, List.getElem?_drop] at hj
 exact hj
theorem aBp (f : Nat) (L : eC) (s : aC) (z : bN) (hL : HL) (x : aT) (hH : s.bO) (qW : oN s x.dm) (A : Option Addr) (c : Nat) (v : Int) (l : List Int) (w : World) (hR : rF w f hL.h L s z) (hh : oL w hL s x) (hs : aH (all w) 1 A (v :: l).length (kK (v :: l)))
  (hu : bX v 28 4 = 0) (gJ : (bX v 10 8 = 17 ∧ bX v 0 8 = 5) ∨ (bX v 10 8 = 20 ∧ bX v 0 8 = 6) → ∃ i, l = [i] ∧ 0 ≤ i ∧ i < 4294967296) :
  Calls Tryz.prog 158 #[.pointer (some ⟨f, 0, none⟩), .slice A (v :: l).length c] w (fun y w' => (∃ r, y = .returned r ∧ Mb (iD s x (v :: l)) r w w') ∧ Below w.heap.size w w') := by
 obtain ⟨b, off, rfl, hro⟩ := aH.u32 hs (by simp)
 have k0 := hro 0 v rfl
 have hlen : (v :: l).length = l.length + 1 := rfl
 have hE : rJ v = 0 := by rw [rJ, if_neg (by simp [hu])]
 have hU : Bb v = Cc (bX v 0 8) (bX v 8 2) (bX v 10 8) (bX v 18 10) := by rw [Bb, if_neg (by simp [hu])]
 have kf := hR.r0.at_ (j := 0) rfl
 have k4 : cZ w f 1 [.slice L.a1.1 s.aB.length L.a1.2, .slice L.a2.1 s.domains.length L.a2.2, .slice L.a3.1 s.aW.length L.a3.2, .slice L.a4.1 s.aA.length L.a4.2] := ⟨hR.r0.1, fun j v hj => by
  have := hR.r0.2 (1 + j) v (Wv rfl hj)
  rwa [Nat.zero_add] at this⟩
 have hnc := hH.t.nc
 have hnd := hH.t.nd
 have fM := hH.t.nr
 have zI := hH.t.nv
 refine XK.enter (vs := [.pointer (some ⟨f, 0, none⟩), .slice (some ⟨b, off, none⟩) (v :: l).length c]) Tryz.func158 rfl Tryz.ntmps158 (by simp) ?_
 refine XK.go ?_
 refine kd (dat 0 off) ?_
 refine XK.go ?_
 refine aZ (fun w1 t => Ys v w1) ?_
 rw [hE, hU]
 dsimp only [Cc]
 refine XK.go ?_
 refine bZ (cs := [.int .i64 0, .int .i64 0, .int .i64 0, .int .i64 0]) (aM (by kernel_rfl)) (by decide) fun g1 => ?_
 refine XK.go ?_
 refine XK.if_ rfl (fun h1 => ?_) (fun h1 => ?_)
 ·have hm : iD s x (v :: l) = [131072] := if_pos (by simpa using h1)
  rw [hm]
  refine XK.go ?_
  refine eP (el := 44) (sz := 1) (zs := [.int .u32 0]) (by kernel_rfl) (aM (by kernel_rfl)) (by kernel_rfl) rfl (by decide) (by decide) rfl (by simp [aR, aU, Value.cells, List.range_succ, List.set]; rfl) (by decide) fun g2 => ?_
  refine XK.go ?_
  refine XK.still [] [0] [] (by simp) rfl (by decide) (by decide) fun q hq _ hfr => ?_
  obtain ⟨F2, kF, kB⟩ := hq 0 _ (by simp) rfl
  have cU := aH.pE (Y := q.Z) (sz := 1) (n := 1) (c := 1) kF kB rfl
  exact XK.aI rfl rfl fun w1 st => ⟨⟨_, rfl, _, _, rfl, aH.le cU (st.lK (by simp) (hfr (by simp) (by simp)))⟩, st.below (by simp)⟩
 ·have n1 : bX v 0 8 ≠ 0 := by simpa using h1
  refine XK.go ?_
  refine bT (t := 26) rfl (fun h2 => ?_) (fun h2 => ?_)
  ·have p1 : bX v 10 8 = 16 := by simpa using h2
   refine XK.go ?_
   refine XK.if_ rfl (fun h3 => ?_) (fun h3 => ?_)
   ·have m1 : bX v 0 8 = 1 := by simpa using h3
    have hm : iD s x (v :: l) = [IntKind.u32.wrap (s.domains.length + s.aB.length * 256 + s.aW.length * 65536 + s.aA.length * 16777216)] := (if_neg n1).trans (if_pos ⟨p1, m1⟩)
    rw [hm]
    refine XK.go ?_
    refine bZ (cs := [.slice none 0 0, .slice none 0 0, .slice none 0 0, .slice none 0 0]) (aM (by kernel_rfl)) (by decide) fun g2 => ?_
    refine XK.go ?_
    refine Dj rfl rfl (c := s.aB.length * 256) (by decide) (by show IntKind.i64.wrap ((s.aB.length : Int) * 256) = _; exact bA (by omega)) (by decide) ?_
    refine XK.go ?_
    refine Dj rfl rfl (c := s.aW.length * 65536) (by decide) (by show IntKind.i64.wrap ((s.aW.length : Int) * 65536) = _; exact bA (by omega)) (by decide) ?_
    refine XK.go ?_
    refine Dj rfl rfl (c := s.aA.length * 16777216) (by decide) (by show IntKind.i64.wrap ((s.aA.length : Int) * 16777216) = _; exact bA (by omega)) (by decide) ?_
    refine XK.go ?_
    refine rH (ds := .int .i64) (kd := .u32) (by kernel_rfl) (by kernel_rfl) rfl rfl (by decide) ?_
    refine eP (el := 44) (sz := 1) (zs := [.int .u32 0]) (by kernel_rfl) (aM (by kernel_rfl)) (by kernel_rfl) rfl (by decide) (by decide) rfl (by simp [aR, aU, Value.cells, List.range_succ, List.set]; rfl) (by decide) fun g3 => ?_
    refine XK.go ?_
    refine XK.still [] [0] [] (by simp) rfl (by decide) (by decide) fun q hq _ hfr => ?_
    obtain ⟨F2, kF, kB⟩ := hq 0 _ (by simp) rfl
    have cU := aH.pE (Y := q.Z) (sz := 1) (n := 1) (c := 1) kF kB rfl
    exact XK.aI rfl rfl fun w1 st => ⟨⟨_, rfl, _, _, rfl, aH.le cU (st.lK (by simp) (hfr (by simp) (by simp)))⟩, st.below (by simp)⟩
   ·have m1 : bX v 0 8 ≠ 1 := by simpa using h3
    have hm : iD s x (v :: l) = [] := (if_neg n1).trans ((if_neg fun h => m1 h.2).trans ((if_neg fun h => by have := h.1; simp [p1] at this).trans (if_neg fun h => by have := h.1; simp [p1] at this)))
    rw [hm]
    refine XK.go ?_
    refine bT (t := 60) rfl (fun h4 => absurd h4 (by simp [p1])) (fun _ => ?_)
    refine XK.go ?_
    refine bT (t := 80) rfl (fun h4 => absurd h4 (by simp [p1])) (fun _ => ?_)
    refine XK.go ?_
    exact XK.aI rfl rfl fun w1 st => ⟨⟨_, rfl, _, _, rfl, rfl, fun h => absurd h (by simp)⟩, st.below (by simp)⟩
  ·have p1 : bX v 10 8 ≠ 16 := by simpa using h2
   refine XK.go ?_
   refine bT (t := 60) rfl (fun h3 => ?_) (fun h3 => ?_)
   ·have p2 : bX v 10 8 = 17 := by simpa using h3
    refine XK.go ?_
    refine XK.if_ rfl (fun h4 => ?_) (fun h4 => ?_)
    ·have m1 : bX v 0 8 = 5 := by simpa using h4
     obtain ⟨i, rfl, hi1, hi2⟩ := gJ (.inl ⟨p2, m1⟩)
     have aF9 : [v, i].length = 2 := rfl
     have hm : iD s x [v, i] = [Bj (kW x.dm i)] := (if_neg n1).trans ((if_neg fun h => p1 h.1).trans (if_pos ⟨p2, m1⟩))
     have k1 := hro 1 i rfl
     rw [hm]
     refine XK.go ?_
     refine XK.eR [1, 2, 3, 5, 6, 7] ?_
     refine XB.mv 0 ?_
     refine XB.mv 4 ?_
     refine XB.q 1 ?_
     refine XB.q 2 ?_
     refine XB.q 3 ?_
     refine XB.q 5 ?_ (dN := dat (sz := 1) 1 (off + 1))
     refine XB.q 6 ?_
     refine XB.q 7 ?_ (dN := yD (ds := .int .u32) (by kernel_rfl) (by kernel_rfl) rfl (bA (by omega)))
     refine XB.next 8 rfl (by kernel_rfl) ?_
     refine aZ (fun w1 t => Uy hL s x w1 qW i (hh.below (t.below (by simp)))) ?_
     refine XB.bt ?_
     refine XB.next 9 rfl (by kernel_rfl) ?_
     refine aZ (fun w1 t => aGA _ w1) ?_
     refine XB.bt ?_
     refine XB.next 10 rfl (by kernel_rfl) ?_
     refine eP (el := 44) (sz := 1) (zs := [.int .u32 0]) (by kernel_rfl) (aM (by kernel_rfl)) (by kernel_rfl) rfl (by decide) (by decide) rfl (by simp [aR, aU, Value.cells, List.range_succ, List.set]; rfl) (by decide) fun g2 => ?_
     refine XB.bt ?_
     refine XB.next 11 rfl (by kernel_rfl) ?_
     refine bJ ?_
     refine XB.bt ?_
     refine XB.done (by kernel_rfl) ?_
     refine XK.go ?_
     refine XK.still [] [0] [] (by simp) rfl (by decide) (by decide) fun q hq _ hfr => ?_
     obtain ⟨F2, kF, kB⟩ := hq 0 _ (by simp) rfl
     have cU := aH.pE (Y := q.Z) (sz := 1) (n := 1) (c := 1) kF kB rfl
     exact XK.aI rfl rfl fun w1 st => ⟨⟨_, rfl, _, _, rfl, aH.le cU (st.lK (by simp) (hfr (by simp) (by simp)))⟩, st.below (by simp)⟩
    ·have m1 : bX v 0 8 ≠ 5 := by simpa using h4
     have hm : iD s x (v :: l) = [] := (if_neg n1).trans ((if_neg fun h => p1 h.1).trans ((if_neg fun h => m1 h.2).trans (if_neg fun h => by have := h.1; simp [p2] at this)))
     rw [hm]
     refine XK.go ?_
     refine bT (t := 80) rfl (fun h4 => absurd h4 (by simp [p2])) (fun _ => ?_)
     refine XK.go ?_
     exact XK.aI rfl rfl fun w1 st => ⟨⟨_, rfl, _, _, rfl, rfl, fun h => absurd h (by simp)⟩, st.below (by simp)⟩
   ·have p2 : bX v 10 8 ≠ 17 := by simpa using h3
    refine XK.go ?_
    refine bT (t := 80) rfl (fun h5 => ?_) (fun h5 => ?_)
    ·have p3 : bX v 10 8 = 20 := by simpa using h5
     refine XK.go ?_
     refine XK.if_ rfl (fun h6 => ?_) (fun h6 => ?_)
     ·have m1 : bX v 0 8 = 6 := by simpa using h6
      obtain ⟨i, rfl, hi1, hi2⟩ := gJ (.inr ⟨p3, m1⟩)
      have aF9 : [v, i].length = 2 := rfl
      have hm : iD s x [v, i] = [IntKind.u32.wrap (zC s x.ck i), IntKind.u32.wrap (zC s x.ck i / 4294967296)] := (if_neg n1).trans ((if_neg fun h => p1 h.1).trans ((if_neg fun h => p2 h.1).trans (if_pos ⟨p3, m1⟩)))
      have k1 := hro 1 i rfl
      rw [hm]
      refine XK.go ?_
      refine XK.eR [1, 2, 3, 5, 6, 7] ?_
      refine XB.mv 0 ?_
      refine XB.mv 4 ?_
      refine XB.q 1 ?_
      refine XB.q 2 ?_
      refine XB.q 3 ?_
      refine XB.q 5 ?_ (dN := dat (sz := 1) 1 (off + 1))
      refine XB.q 6 ?_
      refine XB.q 7 ?_ (dN := yD (ds := .int .u32) (by kernel_rfl) (by kernel_rfl) rfl (bA (by omega)))
      refine XB.next 8 rfl (by kernel_rfl) ?_
      refine aZ (fun w1 t => aFM hL s x w1 hH i (hh.below (t.below (by simp)))) ?_
      refine XB.bt ?_
      refine XB.next 9 rfl (by kernel_rfl) ?_
      refine bJ ?_
      refine XB.bt ?_
      refine XB.done (by kernel_rfl) ?_
      refine XK.go ?_
      refine rH (ds := .int .u64) (kd := .u32) (by kernel_rfl) (by kernel_rfl) rfl rfl (by decide) ?_
      refine XK.go ?_
      refine aC1 rfl rfl (c := zC s x.ck i / 4294967296) (by decide) (by show Int.fdiv _ (2 ^ 32) = _; rw [Int.fdiv_eq_ediv_of_nonneg _ (by decide)]; rfl) (by decide) ?_
      refine rH (ds := .int .u64) (kd := .u32) (by kernel_rfl) (by kernel_rfl) rfl rfl (by decide) ?_
      refine eP (el := 44) (sz := 1) (zs := [.int .u32 0]) (by kernel_rfl) (aM (by kernel_rfl)) (by kernel_rfl) rfl (by decide) (by decide) rfl (by simp [aR, aU, Value.cells, List.range_succ, List.set]; rfl) (by decide) fun g2 => ?_
      refine XK.go ?_
      refine XK.still [] [0] [] (by simp) rfl (by decide) (by decide) fun q hq _ hfr => ?_
      obtain ⟨F2, kF, kB⟩ := hq 0 _ (by simp) rfl
      have cU := aH.pE (Y := q.Z) (sz := 1) (n := 2) (c := 2) kF kB rfl
      exact XK.aI rfl rfl fun w1 st => ⟨⟨_, rfl, _, _, rfl, aH.le cU (st.lK (by simp) (hfr (by simp) (by simp)))⟩, st.below (by simp)⟩
     ·have m1 : bX v 0 8 ≠ 6 := by simpa using h6
      have hm : iD s x (v :: l) = [] := (if_neg n1).trans ((if_neg fun h => p1 h.1).trans ((if_neg fun h => p2 h.1).trans (if_neg fun h => m1 h.2)))
      rw [hm]
      refine XK.go ?_
      exact XK.aI rfl rfl fun w1 st => ⟨⟨_, rfl, _, _, rfl, rfl, fun h => absurd h (by simp)⟩, st.below (by simp)⟩
    ·have p3 : bX v 10 8 ≠ 20 := by simpa using h5
     have hm : iD s x (v :: l) = [] := (if_neg n1).trans ((if_neg fun h => p1 h.1).trans ((if_neg fun h => p2 h.1).trans (if_neg fun h => p3 h.1)))
     rw [hm]
     refine XK.go ?_
     exact XK.aI rfl rfl fun w1 st => ⟨⟨_, rfl, _, _, rfl, rfl, fun h => absurd h (by simp)⟩, st.below (by simp)⟩
end
section
set_option maxHeartbeats 4000000
set_option maxRecDepth 20000
def bG (f : Nat) (hL : HL) (s : aC) (z : bN) (x : aT) : HP := HP.many [oM f hL.h s z, cK hL s x]
def fP (z : bN) (a : Nat) : List Int := if a = 0 then z.w0 else z.w1
def tM (s : aC) (x : aT) (l : List Int) (st : Int) : List Int := l.headD 0 :: IntKind.u32.wrap st :: (if st = 0 then iD s x l else [])
def vX (z : bN) (a : Nat) (hs : Int) (l : List Int) : bN := if a = 0 then { z with h0 := hs, w0 := l } else { z with h1 := hs, w1 := l }
def gR (s : aC) (x : aT) (z : bN) (a : Nat) (st : Int) : bN := vX z a 2 (tM s x (fP z a) st)
structure tP (l : List Int) : Prop where
 ne : ∃ v r, l = v :: r ∧ bX v 28 4 = 0 ∧ ((bX v 10 8 = 17 ∧ bX v 0 8 = 5) ∨ (bX v 10 8 = 20 ∧ bX v 0 8 = 6) → ∃ i, r = [i] ∧ 0 ≤ i ∧ i < 4294967296)
theorem Ec (s : aC) (x : aT) (l : List Int) : (iD s x l).length ≤ 2 := by
 unfold iD
 dsimp only
 split
 ·simp
 ·split
  ·simp
  ·split
   ·simp
   ·split <;> simp
section
variable {N : cN} {w0 w : World} {e : Env} {R : List Piece} {H : List HP} {K : Act → World → Prop} {f h : Nat} {L : eC} {s : aC} {z : bN} {v : Int} {r : List Int}
theorem cB.at_ {a : AC} {w : World} (hb : cB a (v :: r) (all w)) : ∃ b off, a.1 = some ⟨b, off, none⟩ ∧ w.cell? ⟨b, off, none⟩ = some (.int .u32 v) := by
 obtain ⟨b, off, hA, hc⟩ := aH.u32 hb (by simp)
 exact ⟨b, off, hA, by have := (hc 0 v rfl).2; simpa using this⟩
theorem XK.aBU (i : Nat) (hi : H[i]? = some (eE f h L s z)) (hw : z.w0 = v :: r) (k : ∀ b off, L.b0.1 = some ⟨b, off, none⟩ → Rd w0 R H b off (.int .u32 v) → XK N w0 K e R H) : XK N w0 K e R H := fun a w hr st => by
 obtain ⟨b, off, hA, _⟩ := cB.at_ (hw ▸ (st.qY i hi).b0)
 refine k b off hA (fun w1 t => ?_) a w hr st
 obtain ⟨b', off', nH, hc⟩ := cB.at_ (hw ▸ (t.qY i hi).b0)
 rw [hA] at nH
 cases nH
 exact hc
theorem XK.aBT (i : Nat) (hi : H[i]? = some (eE f h L s z)) (hw : z.w1 = v :: r) (k : ∀ b off, L.b1.1 = some ⟨b, off, none⟩ → Rd w0 R H b off (.int .u32 v) → XK N w0 K e R H) : XK N w0 K e R H := fun a w hr st => by
 obtain ⟨b, off, hA, _⟩ := cB.at_ (hw ▸ (st.qY i hi).b1)
 refine k b off hA (fun w1 t => ?_) a w hr st
 obtain ⟨b', off', nH, hc⟩ := cB.at_ (hw ▸ (t.qY i hi).b1)
 rw [hA] at nH
 cases nH
 exact hc
end
theorem aG5 (f : Nat) (hL : HL) (s : aC) (z : bN) (x : aT) (hH : s.bO) (aV : fB hL s) (hok : bQ s x) (st : Int) (hw : z.w0 = []) (hst : st ≠ 0) (w : World) (F : Nat → Prop) (hp : (bG f hL s z x).sat F w) (hF : ∀ b, F b → b < w.heap.size) :
  Calls Tryz.prog 76 #[.pointer (some ⟨f, 0, none⟩), .int .i64 0, .int .i32 st] w (fun y w' => y = .returned (.tuple #[]) ∧ ∃ F', (bG f hL s (gR s x z 0 st) x).sat F' w' ∧ bI w w' F F') := by
 have hr : gR s x z 0 st = { z with h0 := 2, w0 := [0, IntKind.u32.wrap st] } := by simp [gR, vX, tM, fP, hw, hst]
 rw [hr]
 refine XK.dD (p := bG f hL s z x) (F := F) (vs := [.pointer (some ⟨f, 0, none⟩), .int .i64 0, .int .i32 st]) Tryz.func76 rfl Tryz.ntmps76 (by simp) hp hF ?_
 refine XK.take 0 0 rfl rfl ?_
 dsimp only [List.set]
 refine XK.lY 0 rfl fun L => ?_
 dsimp only [List.set]
 refine XK.take 0 0 rfl rfl ?_
 dsimp only [List.set, cD]
 refine XK.go ?_
 refine kd (fJ 0 11) ?_
 refine XK.go ?_
 refine XK.aX 0 0 rfl rfl ?_
 dsimp only [List.set]
 refine XK.if_ rfl (fun h => absurd h (by simp [hw])) (fun _ => ?_)
 refine XK.go ?_
 refine XK.if_ rfl (fun h => absurd h (by simpa using hst)) (fun _ => ?_)
 refine XK.go ?_
 refine XK.take 0 0 rfl rfl ?_
 dsimp only [List.set]
 refine XK.eR [7, 8] ?_
 refine XB.mv 0 ?_
 refine XB.mv 1 ?_
 refine XB.mv 2 ?_
 refine XB.mv 3 ?_
 refine XB.mv 4 ?_
 refine XB.q 7 ?_
 refine XB.q 8 ?_
 refine XB.next 5 rfl (by kernel_rfl) ?_
 refine dZ (f := 159) (fi := []) (ca := []) (by kernel_rfl) rfl rfl (by decide) (yR (0 :: IntKind.u32.wrap st :: [])) (fun w1 t => Fu 0 st _ rfl none 0 0 [] w1 (⟨rfl, fun h => absurd h (by simp)⟩) rfl (by have := Ec s x z.w0; simp; try omega)) ?_
 rintro _ _ q9 ⟨An, cn, rfl, rfl⟩ _
 dsimp only [List.cons_append, List.nil_append]
 refine XB.bk ?_
 refine XB.next 6 rfl (by kernel_rfl) ?_
 refine dB (zs := [.int .i64 0, .slice none 0 0]) (L := [(0, 1), (1, 1)]) (aM (by kernel_rfl)) (by kernel_rfl) rfl (by simp [aR, aU, Value.cells]; rfl) (by decide) ?_
 refine XB.bk ?_
 refine XB.next 9 rfl (by kernel_rfl) ?_
 refine kd (fJ 0 11) ?_
 refine XB.bt ?_
 refine XB.next 10 rfl (by kernel_rfl) ?_
 refine kC 1 (t := 150) rfl rfl rfl (by kernel_rfl) (by simp [Value.cells, Value.oneCell']) (by simp [Value.cells, cD]) ?_
 dsimp only [List.set, Value.cells, cC, cD]
 refine XB.bt ?_
 refine XB.done (by kernel_rfl) ?_
 refine XK.sN 0 (Φ := cB (An, cn) (0 :: IntKind.u32.wrap st :: [])) (hm := cB.le) rfl (fun p hp => hp) ?_
 refine XK.take 2 3 rfl rfl ?_
 dsimp only [List.set]
 refine XK.weak [1, 2, 3, 4] rfl (by decide) (R' := [⟨w, fun b => b < w.heap.size ∧ ¬ F b⟩]) (by simp) ?_
 refine XK.aX 1 3 rfl rfl ?_
 dsimp only [List.set]
 refine XK.oI (h := hL.h) (s := s) (z := { z with h0 := 2, w0 := 0 :: IntKind.u32.wrap st :: [] }) { L with b0 := (An, cn) } 0 rfl ?_
 dsimp only [List.set]
 refine XK.aX 0 0 rfl rfl ?_
 dsimp only [List.set]
 exact XK.kV (.inr rfl) rfl fun w1 t => ⟨rfl, t.turns hF (by simp) (i := 0) rfl⟩
theorem aG4 (f : Nat) (hL : HL) (s : aC) (z : bN) (x : aT) (hH : s.bO) (aV : fB hL s) (hok : bQ s x) (st : Int) (hw : z.w1 = []) (hst : st ≠ 0) (w : World) (F : Nat → Prop) (hp : (bG f hL s z x).sat F w) (hF : ∀ b, F b → b < w.heap.size) :
  Calls Tryz.prog 76 #[.pointer (some ⟨f, 0, none⟩), .int .i64 1, .int .i32 st] w (fun y w' => y = .returned (.tuple #[]) ∧ ∃ F', (bG f hL s (gR s x z 1 st) x).sat F' w' ∧ bI w w' F F') := by
 have hr : gR s x z 1 st = { z with h1 := 2, w1 := [0, IntKind.u32.wrap st] } := by simp [gR, vX, tM, fP, hw, hst]
 rw [hr]
 refine XK.dD (p := bG f hL s z x) (F := F) (vs := [.pointer (some ⟨f, 0, none⟩), .int .i64 1, .int .i32 st]) Tryz.func76 rfl Tryz.ntmps76 (by simp) hp hF ?_
 refine XK.take 0 0 rfl rfl ?_
 dsimp only [List.set]
 refine XK.lY 0 rfl fun L => ?_
 dsimp only [List.set]
 refine XK.take 0 0 rfl rfl ?_
 dsimp only [List.set, cD]
 refine XK.go ?_
 refine kd (fJ 1 13) ?_
 refine XK.go ?_
 refine XK.aX 0 0 rfl rfl ?_
 dsimp only [List.set]
 refine XK.if_ rfl (fun h => absurd h (by simp [hw])) (fun _ => ?_)
 refine XK.go ?_
 refine XK.if_ rfl (fun h => absurd h (by simpa using hst)) (fun _ => ?_)
 refine XK.go ?_
 refine XK.take 0 0 rfl rfl ?_
 dsimp only [List.set]
 refine XK.eR [7, 8] ?_
 refine XB.mv 0 ?_
 refine XB.mv 1 ?_
 refine XB.mv 2 ?_
 refine XB.mv 3 ?_
 refine XB.mv 4 ?_
 refine XB.q 7 ?_
 refine XB.q 8 ?_
 refine XB.next 5 rfl (by kernel_rfl) ?_
 refine dZ (f := 159) (fi := []) (ca := []) (by kernel_rfl) rfl rfl (by decide) (yR (0 :: IntKind.u32.wrap st :: [])) (fun w1 t => Fu 0 st _ rfl none 0 0 [] w1 (⟨rfl, fun h => absurd h (by simp)⟩) rfl (by have := Ec s x z.w1; simp; try omega)) ?_
 rintro _ _ q9 ⟨An, cn, rfl, rfl⟩ _
 dsimp only [List.cons_append, List.nil_append]
 refine XB.bk ?_
 refine XB.next 6 rfl (by kernel_rfl) ?_
 refine dB (zs := [.int .i64 0, .slice none 0 0]) (L := [(0, 1), (1, 1)]) (aM (by kernel_rfl)) (by kernel_rfl) rfl (by simp [aR, aU, Value.cells]; rfl) (by decide) ?_
 refine XB.bk ?_
 refine XB.next 9 rfl (by kernel_rfl) ?_
 refine kd (fJ 1 13) ?_
 refine XB.bt ?_
 refine XB.next 10 rfl (by kernel_rfl) ?_
 refine kC 1 (t := 150) rfl rfl rfl (by kernel_rfl) (by simp [Value.cells, Value.oneCell']) (by simp [Value.cells, cD]) ?_
 dsimp only [List.set, Value.cells, cC, cD]
 refine XB.bt ?_
 refine XB.done (by kernel_rfl) ?_
 refine XK.sN 0 (Φ := cB (An, cn) (0 :: IntKind.u32.wrap st :: [])) (hm := cB.le) rfl (fun p hp => hp) ?_
 refine XK.take 2 4 rfl rfl ?_
 dsimp only [List.set]
 refine XK.weak [1, 2, 3, 4] rfl (by decide) (R' := [⟨w, fun b => b < w.heap.size ∧ ¬ F b⟩]) (by simp) ?_
 refine XK.aX 1 4 rfl rfl ?_
 dsimp only [List.set]
 refine XK.oI (h := hL.h) (s := s) (z := { z with h1 := 2, w1 := 0 :: IntKind.u32.wrap st :: [] }) { L with b1 := (An, cn) } 0 rfl ?_
 dsimp only [List.set]
 refine XK.aX 0 0 rfl rfl ?_
 dsimp only [List.set]
 exact XK.kV (.inr rfl) rfl fun w1 t => ⟨rfl, t.turns hF (by simp) (i := 0) rfl⟩
theorem aG7 (f : Nat) (hL : HL) (s : aC) (z : bN) (x : aT) (hH : s.bO) (aV : fB hL s) (hok : bQ s x) (st : Int) (v : Int) (r : List Int) (hw : z.w0 = v :: r) (hst : st ≠ 0) (w : World) (F : Nat → Prop) (hp : (bG f hL s z x).sat F w) (hF : ∀ b, F b → b < w.heap.size) :
  Calls Tryz.prog 76 #[.pointer (some ⟨f, 0, none⟩), .int .i64 0, .int .i32 st] w (fun y w' => y = .returned (.tuple #[]) ∧ ∃ F', (bG f hL s (gR s x z 0 st) x).sat F' w' ∧ bI w w' F F') := by
 have hr : gR s x z 0 st = { z with h0 := 2, w0 := [v, IntKind.u32.wrap st] } := by simp [gR, vX, tM, fP, hw, hst]
 rw [hr]
 refine XK.dD (p := bG f hL s z x) (F := F) (vs := [.pointer (some ⟨f, 0, none⟩), .int .i64 0, .int .i32 st]) Tryz.func76 rfl Tryz.ntmps76 (by simp) hp hF ?_
 refine XK.take 0 0 rfl rfl ?_
 dsimp only [List.set]
 refine XK.lY 0 rfl fun L => ?_
 dsimp only [List.set]
 refine XK.aBU 0 rfl hw fun b off hA hrd => ?_
 obtain ⟨a1, a2, a3, a4, x1, x2, x3, y1, y2, y3, ⟨B0, c0⟩, b1⟩ := L
 dsimp only at hA
 subst hA
 refine XK.take 0 0 rfl rfl ?_
 dsimp only [List.set, cD]
 refine XK.go ?_
 refine kd (fJ 0 11) ?_
 refine XK.go ?_
 refine XK.aX 0 0 rfl rfl ?_
 dsimp only [List.set]
 refine XK.if_ rfl (fun _ => ?_) (fun h => absurd h (by simp [hw]))
 have hlen : z.w0.length = r.length + 1 := by rw [hw]; rfl
 refine XK.go ?_
 refine kd (dat 0 off) ?_
 refine kd (bR rfl hrd) ?_
 refine XK.go ?_
 refine XK.if_ rfl (fun h => absurd h (by simpa using hst)) (fun _ => ?_)
 refine XK.go ?_
 refine XK.take 0 0 rfl rfl ?_
 dsimp only [List.set]
 refine XK.eR [7, 8] ?_
 refine XB.mv 0 ?_
 refine XB.mv 1 ?_
 refine XB.mv 2 ?_
 refine XB.mv 3 ?_
 refine XB.mv 4 ?_
 refine XB.q 7 ?_
 refine XB.q 8 ?_
 refine XB.next 5 rfl (by kernel_rfl) ?_
 refine dZ (f := 159) (fi := []) (ca := []) (by kernel_rfl) rfl rfl (by decide) (yR (v :: IntKind.u32.wrap st :: [])) (fun w1 t => Fu v st _ rfl none 0 0 [] w1 (⟨rfl, fun h => absurd h (by simp)⟩) rfl (by have := Ec s x z.w0; simp; try omega)) ?_
 rintro _ _ q9 ⟨An, cn, rfl, rfl⟩ _
 dsimp only [List.cons_append, List.nil_append]
 refine XB.bk ?_
 refine XB.next 6 rfl (by kernel_rfl) ?_
 refine dB (zs := [.int .i64 0, .slice none 0 0]) (L := [(0, 1), (1, 1)]) (aM (by kernel_rfl)) (by kernel_rfl) rfl (by simp [aR, aU, Value.cells]; rfl) (by decide) ?_
 refine XB.bk ?_
 refine XB.next 9 rfl (by kernel_rfl) ?_
 refine kd (fJ 0 11) ?_
 refine XB.bt ?_
 refine XB.next 10 rfl (by kernel_rfl) ?_
 refine kC 1 (t := 150) rfl rfl rfl (by kernel_rfl) (by simp [Value.cells, Value.oneCell']) (by simp [Value.cells, cD]) ?_
 dsimp only [List.set, Value.cells, cC, cD]
 refine XB.bt ?_
 refine XB.done (by kernel_rfl) ?_
 refine XK.sN 0 (Φ := cB (An, cn) (v :: IntKind.u32.wrap st :: [])) (hm := cB.le) rfl (fun p hp => hp) ?_
 refine XK.take 2 3 rfl rfl ?_
 dsimp only [List.set]
 refine XK.weak [1, 2, 3, 4] rfl (by decide) (R' := [⟨w, fun b => b < w.heap.size ∧ ¬ F b⟩]) (by simp) ?_
 refine XK.aX 1 3 rfl rfl ?_
 dsimp only [List.set]
 refine XK.oI (h := hL.h) (s := s) (z := { z with h0 := 2, w0 := v :: IntKind.u32.wrap st :: [] }) ⟨a1, a2, a3, a4, x1, x2, x3, y1, y2, y3, (An, cn), b1⟩ 0 rfl ?_
 dsimp only [List.set]
 refine XK.aX 0 0 rfl rfl ?_
 dsimp only [List.set]
 exact XK.kV (.inr rfl) rfl fun w1 t => ⟨rfl, t.turns hF (by simp) (i := 0) rfl⟩
theorem aG6 (f : Nat) (hL : HL) (s : aC) (z : bN) (x : aT) (hH : s.bO) (aV : fB hL s) (hok : bQ s x) (st : Int) (v : Int) (r : List Int) (hw : z.w1 = v :: r) (hst : st ≠ 0) (w : World) (F : Nat → Prop) (hp : (bG f hL s z x).sat F w) (hF : ∀ b, F b → b < w.heap.size) :
  Calls Tryz.prog 76 #[.pointer (some ⟨f, 0, none⟩), .int .i64 1, .int .i32 st] w (fun y w' => y = .returned (.tuple #[]) ∧ ∃ F', (bG f hL s (gR s x z 1 st) x).sat F' w' ∧ bI w w' F F') := by
 have hr : gR s x z 1 st = { z with h1 := 2, w1 := [v, IntKind.u32.wrap st] } := by simp [gR, vX, tM, fP, hw, hst]
 rw [hr]
 refine XK.dD (p := bG f hL s z x) (F := F) (vs := [.pointer (some ⟨f, 0, none⟩), .int .i64 1, .int .i32 st]) Tryz.func76 rfl Tryz.ntmps76 (by simp) hp hF ?_
 refine XK.take 0 0 rfl rfl ?_
 dsimp only [List.set]
 refine XK.lY 0 rfl fun L => ?_
 dsimp only [List.set]
 refine XK.aBT 0 rfl hw fun b off hA hrd => ?_
 obtain ⟨a1, a2, a3, a4, x1, x2, x3, y1, y2, y3, b0, ⟨B1, c1⟩⟩ := L
 dsimp only at hA
 subst hA
 refine XK.take 0 0 rfl rfl ?_
 dsimp only [List.set, cD]
 refine XK.go ?_
 refine kd (fJ 1 13) ?_
 refine XK.go ?_
 refine XK.aX 0 0 rfl rfl ?_
 dsimp only [List.set]
 refine XK.if_ rfl (fun _ => ?_) (fun h => absurd h (by simp [hw]))
 have hlen : z.w1.length = r.length + 1 := by rw [hw]; rfl
 refine XK.go ?_
 refine kd (dat 0 off) ?_
 refine kd (bR rfl hrd) ?_
 refine XK.go ?_
 refine XK.if_ rfl (fun h => absurd h (by simpa using hst)) (fun _ => ?_)
 refine XK.go ?_
 refine XK.take 0 0 rfl rfl ?_
 dsimp only [List.set]
 refine XK.eR [7, 8] ?_
 refine XB.mv 0 ?_
 refine XB.mv 1 ?_
 refine XB.mv 2 ?_
 refine XB.mv 3 ?_
 refine XB.mv 4 ?_
 refine XB.q 7 ?_
 refine XB.q 8 ?_
 refine XB.next 5 rfl (by kernel_rfl) ?_
 refine dZ (f := 159) (fi := []) (ca := []) (by kernel_rfl) rfl rfl (by decide) (yR (v :: IntKind.u32.wrap st :: [])) (fun w1 t => Fu v st _ rfl none 0 0 [] w1 (⟨rfl, fun h => absurd h (by simp)⟩) rfl (by have := Ec s x z.w1; simp; try omega)) ?_
 rintro _ _ q9 ⟨An, cn, rfl, rfl⟩ _
 dsimp only [List.cons_append, List.nil_append]
 refine XB.bk ?_
 refine XB.next 6 rfl (by kernel_rfl) ?_
 refine dB (zs := [.int .i64 0, .slice none 0 0]) (L := [(0, 1), (1, 1)]) (aM (by kernel_rfl)) (by kernel_rfl) rfl (by simp [aR, aU, Value.cells]; rfl) (by decide) ?_
 refine XB.bk ?_
 refine XB.next 9 rfl (by kernel_rfl) ?_
 refine kd (fJ 1 13) ?_
 refine XB.bt ?_
 refine XB.next 10 rfl (by kernel_rfl) ?_
 refine kC 1 (t := 150) rfl rfl rfl (by kernel_rfl) (by simp [Value.cells, Value.oneCell']) (by simp [Value.cells, cD]) ?_
 dsimp only [List.set, Value.cells, cC, cD]
 refine XB.bt ?_
 refine XB.done (by kernel_rfl) ?_
 refine XK.sN 0 (Φ := cB (An, cn) (v :: IntKind.u32.wrap st :: [])) (hm := cB.le) rfl (fun p hp => hp) ?_
 refine XK.take 2 4 rfl rfl ?_
 dsimp only [List.set]
 refine XK.weak [1, 2, 3, 4] rfl (by decide) (R' := [⟨w, fun b => b < w.heap.size ∧ ¬ F b⟩]) (by simp) ?_
 refine XK.aX 1 4 rfl rfl ?_
 dsimp only [List.set]
 refine XK.oI (h := hL.h) (s := s) (z := { z with h1 := 2, w1 := v :: IntKind.u32.wrap st :: [] }) ⟨a1, a2, a3, a4, x1, x2, x3, y1, y2, y3, b0, (An, cn)⟩ 0 rfl ?_
 dsimp only [List.set]
 refine XK.aX 0 0 rfl rfl ?_
 dsimp only [List.set]
 exact XK.kV (.inr rfl) rfl fun w1 t => ⟨rfl, t.turns hF (by simp) (i := 0) rfl⟩
theorem aG3 (f : Nat) (hL : HL) (s : aC) (z : bN) (x : aT) (hH : s.bO) (aV : fB hL s) (hok : bQ s x) (v : Int) (r : List Int) (hw : z.w0 = v :: r) (hu : bX v 28 4 = 0) (gJ : (bX v 10 8 = 17 ∧ bX v 0 8 = 5) ∨ (bX v 10 8 = 20 ∧ bX v 0 8 = 6) → ∃ i, r = [i] ∧ 0 ≤ i ∧ i < 4294967296) (w : World) (F : Nat → Prop) (hp : (bG f hL s z x).sat F w) (hF : ∀ b, F b → b < w.heap.size) :
  Calls Tryz.prog 76 #[.pointer (some ⟨f, 0, none⟩), .int .i64 0, .int .i32 0] w (fun y w' => y = .returned (.tuple #[]) ∧ ∃ F', (bG f hL s (gR s x z 0 0) x).sat F' w' ∧ bI w w' F F') := by
 have hr : gR s x z 0 0 = { z with h0 := 2, w0 := v :: 0 :: iD s x z.w0 } := by simp [gR, vX, tM, fP, hw]; rfl
 rw [hr]
 refine XK.dD (p := bG f hL s z x) (F := F) (vs := [.pointer (some ⟨f, 0, none⟩), .int .i64 0, .int .i32 0]) Tryz.func76 rfl Tryz.ntmps76 (by simp) hp hF ?_
 refine XK.take 0 0 rfl rfl ?_
 dsimp only [List.set]
 refine XK.lY 0 rfl fun L => ?_
 dsimp only [List.set]
 refine XK.aBU 0 rfl hw fun b off hA hrd => ?_
 obtain ⟨a1, a2, a3, a4, x1, x2, x3, y1, y2, y3, ⟨B0, c0⟩, b1⟩ := L
 dsimp only at hA
 subst hA
 refine XK.take 0 0 rfl rfl ?_
 dsimp only [List.set, cD]
 refine XK.go ?_
 refine kd (fJ 0 11) ?_
 refine XK.go ?_
 refine XK.aX 0 0 rfl rfl ?_
 dsimp only [List.set]
 refine XK.if_ rfl (fun _ => ?_) (fun h => absurd h (by simp [hw]))
 have hlen : z.w0.length = r.length + 1 := by rw [hw]; rfl
 refine XK.go ?_
 refine kd (dat 0 off) ?_
 refine kd (bR rfl hrd) ?_
 refine XK.go ?_
 refine XK.take 1 1 rfl rfl ?_
 dsimp only [List.set]
 refine iY [] (f := 158) (fi := []) (ca := []) (by kernel_rfl) rfl rfl (by decide) (by simp) (fun v w w' => Mb (iD s x z.w0) v w w') (fun w1 t => by
  have hf : rF w1 f hL.h ⟨a1, a2, a3, a4, x1, x2, x3, y1, y2, y3, (some ⟨b, off, none⟩, c0), b1⟩ s z := t.qY 1 rfl
  have hb := hf.b0
  rw [cB, hw] at hb
  have := aBp f _ s z hL x hH hok.dm _ c0 v r w1 hf (t.iW 0 rfl aV hok) hb hu gJ
  rw [← hw] at this
  exact this) ?_
 rintro _ w3 q3 ⟨Am, cm, rfl, cU⟩ wD _ hF3
 have cU := cU.le wD
 refine XK.aX 1 1 rfl rfl ?_
 dsimp only [List.set]
 refine XK.go ?_
 refine XK.take 0 0 rfl rfl ?_
 dsimp only [List.set]
 refine XK.eR [7, 8] ?_
 refine XB.mv 0 ?_
 refine XB.mv 1 ?_
 refine XB.mv 2 ?_
 refine XB.mv 3 ?_
 refine XB.mv 4 ?_
 refine XB.q 7 ?_
 refine XB.q 8 ?_
 refine XB.next 5 rfl (by kernel_rfl) ?_
 refine dZ (f := 159) (fi := []) (ca := []) (by kernel_rfl) rfl rfl (by decide) (yR (v :: 0 :: iD s x z.w0)) (fun w1 t => Fu v 0 0 rfl Am (iD s x z.w0).length cm (iD s x z.w0) w1 (cU.le (t.le (by simp))) rfl (by have := Ec s x z.w0; simp; try omega)) ?_
 rintro _ _ q9 ⟨An, cn, rfl, rfl⟩ _
 dsimp only [List.cons_append, List.nil_append]
 refine XB.bk ?_
 refine XB.next 6 rfl (by kernel_rfl) ?_
 refine dB (zs := [.int .i64 0, .slice none 0 0]) (L := [(0, 1), (1, 1)]) (aM (by kernel_rfl)) (by kernel_rfl) rfl (by simp [aR, aU, Value.cells]; rfl) (by decide) ?_
 refine XB.bk ?_
 refine XB.next 9 rfl (by kernel_rfl) ?_
 refine kd (fJ 0 11) ?_
 refine XB.bt ?_
 refine XB.next 10 rfl (by kernel_rfl) ?_
 refine kC 1 (t := 150) rfl rfl rfl (by kernel_rfl) (by simp [Value.cells, Value.oneCell']) (by simp [Value.cells, cD]) ?_
 dsimp only [List.set, Value.cells, cC, cD]
 refine XB.bt ?_
 refine XB.done (by kernel_rfl) ?_
 refine XK.sN 0 (Φ := cB (An, cn) (v :: 0 :: iD s x z.w0)) (hm := cB.le) rfl (fun p hp => hp) ?_
 refine XK.take 2 3 rfl rfl ?_
 dsimp only [List.set]
 refine XK.weak [1, 2, 3, 4] rfl (by decide) (R' := [⟨w, fun b => b < w.heap.size ∧ ¬ F b⟩]) (by simp) ?_
 refine XK.aX 1 3 rfl rfl ?_
 dsimp only [List.set]
 refine XK.oI (h := hL.h) (s := s) (z := { z with h0 := 2, w0 := v :: 0 :: iD s x z.w0 }) ⟨a1, a2, a3, a4, x1, x2, x3, y1, y2, y3, (An, cn), b1⟩ 0 rfl ?_
 dsimp only [List.set]
 refine XK.aX 0 0 rfl rfl ?_
 dsimp only [List.set]
 exact XK.kV (.inr rfl) rfl fun w1 t => ⟨rfl, t.turns hF (by simp) (i := 0) rfl⟩
theorem aG2 (f : Nat) (hL : HL) (s : aC) (z : bN) (x : aT) (hH : s.bO) (aV : fB hL s) (hok : bQ s x) (v : Int) (r : List Int) (hw : z.w1 = v :: r) (hu : bX v 28 4 = 0) (gJ : (bX v 10 8 = 17 ∧ bX v 0 8 = 5) ∨ (bX v 10 8 = 20 ∧ bX v 0 8 = 6) → ∃ i, r = [i] ∧ 0 ≤ i ∧ i < 4294967296) (w : World) (F : Nat → Prop) (hp : (bG f hL s z x).sat F w) (hF : ∀ b, F b → b < w.heap.size) :
  Calls Tryz.prog 76 #[.pointer (some ⟨f, 0, none⟩), .int .i64 1, .int .i32 0] w (fun y w' => y = .returned (.tuple #[]) ∧ ∃ F', (bG f hL s (gR s x z 1 0) x).sat F' w' ∧ bI w w' F F') := by
 have hr : gR s x z 1 0 = { z with h1 := 2, w1 := v :: 0 :: iD s x z.w1 } := by simp [gR, vX, tM, fP, hw]; rfl
 rw [hr]
 refine XK.dD (p := bG f hL s z x) (F := F) (vs := [.pointer (some ⟨f, 0, none⟩), .int .i64 1, .int .i32 0]) Tryz.func76 rfl Tryz.ntmps76 (by simp) hp hF ?_
 refine XK.take 0 0 rfl rfl ?_
 dsimp only [List.set]
 refine XK.lY 0 rfl fun L => ?_
 dsimp only [List.set]
 refine XK.aBT 0 rfl hw fun b off hA hrd => ?_
 obtain ⟨a1, a2, a3, a4, x1, x2, x3, y1, y2, y3, b0, ⟨B1, c1⟩⟩ := L
 dsimp only at hA
 subst hA
 refine XK.take 0 0 rfl rfl ?_
 dsimp only [List.set, cD]
 refine XK.go ?_
 refine kd (fJ 1 13) ?_
 refine XK.go ?_
 refine XK.aX 0 0 rfl rfl ?_
 dsimp only [List.set]
 refine XK.if_ rfl (fun _ => ?_) (fun h => absurd h (by simp [hw]))
 have hlen : z.w1.length = r.length + 1 := by rw [hw]; rfl
 refine XK.go ?_
 refine kd (dat 0 off) ?_
 refine kd (bR rfl hrd) ?_
 refine XK.go ?_
 refine XK.take 1 1 rfl rfl ?_
 dsimp only [List.set]
 refine iY [] (f := 158) (fi := []) (ca := []) (by kernel_rfl) rfl rfl (by decide) (by simp) (fun v w w' => Mb (iD s x z.w1) v w w') (fun w1 t => by
  have hf : rF w1 f hL.h ⟨a1, a2, a3, a4, x1, x2, x3, y1, y2, y3, b0, (some ⟨b, off, none⟩, c1)⟩ s z := t.qY 1 rfl
  have hb := hf.b1
  rw [cB, hw] at hb
  have := aBp f _ s z hL x hH hok.dm _ c1 v r w1 hf (t.iW 0 rfl aV hok) hb hu gJ
  rw [← hw] at this
  exact this) ?_
 rintro _ w3 q3 ⟨Am, cm, rfl, cU⟩ wD _ hF3
 have cU := cU.le wD
 refine XK.aX 1 1 rfl rfl ?_
 dsimp only [List.set]
 refine XK.go ?_
 refine XK.take 0 0 rfl rfl ?_
 dsimp only [List.set]
 refine XK.eR [7, 8] ?_
 refine XB.mv 0 ?_
 refine XB.mv 1 ?_
 refine XB.mv 2 ?_
 refine XB.mv 3 ?_
 refine XB.mv 4 ?_
 refine XB.q 7 ?_
 refine XB.q 8 ?_
 refine XB.next 5 rfl (by kernel_rfl) ?_
 refine dZ (f := 159) (fi := []) (ca := []) (by kernel_rfl) rfl rfl (by decide) (yR (v :: 0 :: iD s x z.w1)) (fun w1 t => Fu v 0 0 rfl Am (iD s x z.w1).length cm (iD s x z.w1) w1 (cU.le (t.le (by simp))) rfl (by have := Ec s x z.w1; simp; try omega)) ?_
 rintro _ _ q9 ⟨An, cn, rfl, rfl⟩ _
 dsimp only [List.cons_append, List.nil_append]
 refine XB.bk ?_
 refine XB.next 6 rfl (by kernel_rfl) ?_
 refine dB (zs := [.int .i64 0, .slice none 0 0]) (L := [(0, 1), (1, 1)]) (aM (by kernel_rfl)) (by kernel_rfl) rfl (by simp [aR, aU, Value.cells]; rfl) (by decide) ?_
 refine XB.bk ?_
 refine XB.next 9 rfl (by kernel_rfl) ?_
 refine kd (fJ 1 13) ?_
 refine XB.bt ?_
 refine XB.next 10 rfl (by kernel_rfl) ?_
 refine kC 1 (t := 150) rfl rfl rfl (by kernel_rfl) (by simp [Value.cells, Value.oneCell']) (by simp [Value.cells, cD]) ?_
 dsimp only [List.set, Value.cells, cC, cD]
 refine XB.bt ?_
 refine XB.done (by kernel_rfl) ?_
 refine XK.sN 0 (Φ := cB (An, cn) (v :: 0 :: iD s x z.w1)) (hm := cB.le) rfl (fun p hp => hp) ?_
 refine XK.take 2 4 rfl rfl ?_
 dsimp only [List.set]
 refine XK.weak [1, 2, 3, 4] rfl (by decide) (R' := [⟨w, fun b => b < w.heap.size ∧ ¬ F b⟩]) (by simp) ?_
 refine XK.aX 1 4 rfl rfl ?_
 dsimp only [List.set]
 refine XK.oI (h := hL.h) (s := s) (z := { z with h1 := 2, w1 := v :: 0 :: iD s x z.w1 }) ⟨a1, a2, a3, a4, x1, x2, x3, y1, y2, y3, b0, (An, cn)⟩ 0 rfl ?_
 dsimp only [List.set]
 refine XK.aX 0 0 rfl rfl ?_
 dsimp only [List.set]
 exact XK.kV (.inr rfl) rfl fun w1 t => ⟨rfl, t.turns hF (by simp) (i := 0) rfl⟩
theorem Vu (f : Nat) (hL : HL) (s : aC) (z : bN) (x : aT) (hH : s.bO) (aV : fB hL s) (hok : bQ s x) (a : Nat) (ha : a < 2) (st : Int) (hst : st = 0 → tP (fP z a)) (w : World) (F : Nat → Prop) (hp : (bG f hL s z x).sat F w) (hF : ∀ b, F b → b < w.heap.size) :
  Calls Tryz.prog 76 #[.pointer (some ⟨f, 0, none⟩), .int .i64 (a : Int), .int .i32 st] w (fun y w' => y = .returned (.tuple #[]) ∧ ∃ F', (bG f hL s (gR s x z a st) x).sat F' w' ∧ bI w w' F F') := by
 obtain rfl | rfl : a = 0 ∨ a = 1 := by omega
 ·by_cases h0 : st = 0
  ·subst h0
   obtain ⟨v, r, hw, hu, gJ⟩ := (hst rfl).ne
   exact aG3 f hL s z x hH aV hok v r hw hu gJ w F hp hF
  ·cases hw : z.w0 with
   | nil => exact aG5 f hL s z x hH aV hok st hw h0 w F hp hF
   | cons v r => exact aG7 f hL s z x hH aV hok st v r hw h0 w F hp hF
 ·by_cases h0 : st = 0
  ·subst h0
   obtain ⟨v, r, hw, hu, gJ⟩ := (hst rfl).ne
   exact aG2 f hL s z x hH aV hok v r hw hu gJ w F hp hF
  ·cases hw : z.w1 with
   | nil => exact aG4 f hL s z x hH aV hok st hw h0 w F hp hF
   | cons v r => exact aG6 f hL s z x hH aV hok st v r hw h0 w F hp hF
end
section
set_option maxHeartbeats 4000000
set_option maxRecDepth 20000
def xU (z : bN) (a : Nat) : Int := if a = 0 then z.h0 else z.h1
def nY (z : bN) : Option Nat := if xU z (1 - z.last).toNat = 1 then some (1 - z.last).toNat else if xU z z.last.toNat = 1 then some z.last.toNat else none
def iT (s : aC) (x : aT) : List Int := (List.range s.aA.length).map fun i => (iA x.wt i : Int)
theorem aGx (f : Nat) (hL : HL) (s : aC) (z : bN) (x : aT) (hl : z.last = 0 ∨ z.last = 1) (hn : nY z = none) (w : World) (F : Nat → Prop) (hp : (bG f hL s z x).sat F w) (hF : ∀ b, F b → b < w.heap.size) :
  Calls Tryz.prog 74 #[.pointer (some ⟨f, 0, none⟩)] w (fun y w' => y = .returned (.bool false) ∧ ∃ F', (bG f hL s z x).sat F' w' ∧ bI w w' F F') := by
 have hno : z.h0 ≠ 1 ∧ z.h1 ≠ 1 := by
  unfold nY at hn
  rcases hl with h | h <;> rw [h] at hn <;> simp [xU] at hn <;> by_cases p : z.h0 = 1 <;> by_cases q : z.h1 = 1 <;> simp [p, q] at hn ⊢
 refine XK.dD (p := bG f hL s z x) (F := F) (vs := [.pointer (some ⟨f, 0, none⟩)]) Tryz.func74 rfl Tryz.ntmps74 (by simp) hp hF ?_
 refine XK.take 0 0 rfl rfl ?_
 dsimp only [List.set]
 refine XK.Ib 0 rfl fun L => ?_
 dsimp only [List.set, cD]
 rcases hl with hl | hl <;> rw [hl]
 ·refine XK.go ?_
  refine kd (fJ 1 13) ?_
  refine XK.go ?_
  refine XK.if_ rfl (fun _ => ?_) (fun h => absurd h (by simp [hno.2]))
  refine XK.go ?_
  refine kd (fJ 0 11) ?_
  refine XK.go ?_
  refine XK.if_ rfl (fun _ => ?_) (fun h => absurd h (by simp [hno.1]))
  refine XK.go ?_
  rw [← hl]
  refine XK.oI (h := hL.h) (s := s) (z := z) L 0 rfl ?_
  dsimp only [List.set]
  refine XK.aX 0 0 rfl rfl ?_
  dsimp only [List.set]
  exact XK.aI rfl rfl fun w1 t => ⟨rfl, t.turns hF (by simp) (i := 0) rfl⟩
 ·refine XK.go ?_
  refine kd (fJ 0 11) ?_
  refine XK.go ?_
  refine XK.if_ rfl (fun _ => ?_) (fun h => absurd h (by simp [hno.1]))
  refine XK.go ?_
  refine kd (fJ 1 13) ?_
  refine XK.go ?_
  refine XK.if_ rfl (fun _ => ?_) (fun h => absurd h (by simp [hno.2]))
  refine XK.go ?_
  rw [← hl]
  refine XK.oI (h := hL.h) (s := s) (z := z) L 0 rfl ?_
  dsimp only [List.set]
  refine XK.aX 0 0 rfl rfl ?_
  dsimp only [List.set]
  exact XK.aI rfl rfl fun w1 t => ⟨rfl, t.turns hF (by simp) (i := 0) rfl⟩
end
section
set_option maxHeartbeats 4000000
set_option maxRecDepth 20000
def Mc (P : Program) (c : Code) (Q : Exit → Act → World → Prop) : Nat → Act → World → Prop
 | 0 => fun _ _ => False
 | n + 1 => c.wp P (Exit.then (Mc P c Q n) Q)
section
variable {P : Program} {N : cN} {w0 : World} {e : Env} {R : List Piece} {H : List HP} {Q : Exit → Act → World → Prop} {c : Code} {n : Nat}
theorem XK.rounds (n : Nat) (h : XK N w0 (Mc P c Q n) e R H) : XK N w0 ((Code.loop c).wp P Q) e R H := fun a w hr st => by
 refine Qw (Mc P c Q) n (h a w hr st) fun n a w hI => ?_
 cases n with
 | zero => exact absurd hI (fun h => h)
 | succ n =>
  refine wp_mono hI fun x a' w' hq => ?_
  cases x with
  | normal => exact ⟨n, Nat.lt_succ_self n, hq⟩
  | _ => exact hq
theorem XK.Lj {y : Code} {x : Code} (M : Env → List Piece → List HP → Prop) (h : XK N w0 (x.wp P (Exit.then (fun a' w' => ∃ e' R' H', M e' R' H' ∧ cY N e' a' ∧ St w0 R' H' w') Q)) e R H)
  (hy : ∀ e' R' H', M e' R' H' → XK N w0 (y.wp P Q) e' R' H') : XK N w0 (x.wp P (Exit.then (y.wp P Q) Q)) e R H := fun a w hr st =>
 wp_mono (h a w hr st) fun x a' w' hq => by
  cases x with
  | normal =>
   obtain ⟨e', R', H', hm, hr', st'⟩ := hq
   exact hy e' R' H' hm a' w' hr' st'
  | _ => exact hq
theorem XK.Dr (h : XK N w0 (c.wp P (Exit.then (Mc P c Q n) Q)) e R H) : XK N w0 (Mc P c Q (n + 1)) e R H := h
end
theorem aB5 (x y : bE) (ag : Nat) (k id : Int) : (cE x ag k id).d.length = x.d.length ∧ (cE x ag k id).c.length = x.c.length ∧ (cE x ag k id).l.length = x.l.length ∧ (cS y ag k id).d.length = y.d.length ∧ (cS y ag k id).c.length = y.c.length ∧ (cS y ag k id).l.length = y.l.length := by
 have h : ∀ z : bE, (dW z k id).d.length = z.d.length ∧ (dW z k id).c.length = z.c.length ∧ (dW z k id).l.length = z.l.length := fun z => by
  unfold dW
  split
  ·exact ⟨vU _ _ _, rfl, rfl⟩
  ·split
   ·exact ⟨rfl, vU _ _ _, rfl⟩
   ·split
    ·exact ⟨rfl, rfl, vU _ _ _⟩
    ·exact ⟨rfl, rfl, rfl⟩
 unfold cE cS
 split
 ·exact ⟨(h x).1, (h x).2.1, (h x).2.2, rfl, rfl, rfl⟩
 ·exact ⟨rfl, rfl, rfl, (h y).1, (h y).2.1, (h y).2.2⟩
theorem aHd (qx : Piece) (X1 X2 X3 Y1 Y2 Y3 : Option Addr) (qF qE qD pZ pY pX : Nat) (x y : bE) (ag : Nat) (k id : Int) (w : World) (Je : qx.Le (all w)) (hag : ag < 2) (hbx : x.sm) (hby : y.sm) (s0 : aH qx 1 X1 x.d.length (bP x.d)) (s1 : aH qx 1 X2 x.c.length (bP x.c)) (s2 : aH qx 1 X3 x.l.length (bP x.l)) (s3 : aH qx 1 Y1 y.d.length (bP y.d)) (s4 : aH qx 1 Y2 y.c.length (bP y.c)) (s5 : aH qx 1 Y3 y.l.length (bP y.l)) :
  Calls Tryz.prog 151 #[.agg #[.slice X1 x.d.length qF, .slice X2 x.c.length qE, .slice X3 x.l.length qD, .slice Y1 y.d.length pZ, .slice Y2 y.c.length pY, .slice Y3 y.l.length pX], .int .i64 (ag : Int), .agg #[.int .u8 k, .int .i64 id]] w (Ql (fun v w w' => jP (fresh w w') (cE x ag k id) (cS y ag k id) v) w) := by
 obtain ⟨h0, h1, h2⟩ := hbx
 obtain ⟨h3, h4, h5⟩ := hby
 refine XK.enter (vs := [.agg #[.slice X1 x.d.length qF, .slice X2 x.c.length qE, .slice X3 x.l.length qD, .slice Y1 y.d.length pZ, .slice Y2 y.c.length pY, .slice Y3 y.l.length pX], .int .i64 (ag : Int), .agg #[.int .u8 k, .int .i64 id]]) Tryz.func151 rfl Tryz.ntmps151 (by simp) ?_
 refine XK.piece qx (by simp) Je ?_
 refine XK.go ?_
 refine bY rfl (by decide) fun g1 => ?_
 refine bY rfl (by decide) fun g2 => ?_
 dsimp only [Value.cells]
 refine bZ (cs := [.slice none 0 0, .slice none 0 0, .slice none 0 0, .slice none 0 0, .slice none 0 0, .slice none 0 0]) (aM (by kernel_rfl)) (by decide) fun g3 => ?_
 refine XK.go ?_
 refine bZ (cs := [.slice none 0 0, .slice none 0 0, .slice none 0 0, .slice none 0 0, .slice none 0 0, .slice none 0 0]) (aM (by kernel_rfl)) (by decide) fun g4 => ?_
 refine XK.go ?_
 refine XK.rounds 3 ?_
 refine XK.Dr ?_
 refine XK.go ?_
 refine Mm 0 (len := 2) (n := 3) (by kernel_rfl) rfl rfl rfl (by decide) rfl (by decide) ?_
 refine bZ (cs := [.slice none 0 0, .slice none 0 0, .slice none 0 0]) (aM (by kernel_rfl)) (by decide) fun g5 => ?_
 refine XK.go ?_
 refine XK.eR [1, 2, 4, 5, 7, 8, 11] ?_
 refine XB.mv 0 ?_
 refine XB.q 1 ?_
 refine XB.q 2 ?_
 refine XB.q 4 ?_
 refine XB.q 5 ?_
 refine XB.q 7 ?_
 refine XB.q 8 ?_
 refine XB.q 11 ?_
 refine XB.next 3 rfl (by kernel_rfl) ?_
 refine dZ (f := 100) (fi := []) (ca := []) (by kernel_rfl) rfl rfl (by decide) (sH x.d.length (bP x.d)) (fun w1 st => tI _ _ _ _ w1 (s0.le (st.le (by simp))) (tK _) (by have := h0; omega)) ?_
 rintro _ _ q0 ⟨B0, c0, rfl, rfl⟩ _
 dsimp only [List.cons_append, List.nil_append]
 refine XB.bk ?_ (hS := fun _ h => h.aN.tail)
 refine XB.next 6 rfl (by kernel_rfl) ?_
 refine dZ (f := 100) (fi := []) (ca := []) (by kernel_rfl) rfl rfl (by decide) (sH x.c.length (bP x.c)) (fun w1 st => tI _ _ _ _ w1 (s1.le (st.le (by simp))) (tK _) (by have := h1; omega)) ?_
 rintro _ _ q1 ⟨B1, c1, rfl, rfl⟩ _
 dsimp only [List.cons_append, List.nil_append]
 refine XB.bk ?_ (hS := fun _ h => h.aN.aN.tail.tail)
 refine XB.next 9 rfl (by kernel_rfl) ?_
 refine dZ (f := 100) (fi := []) (ca := []) (by kernel_rfl) rfl rfl (by decide) (sH x.l.length (bP x.l)) (fun w1 st => tI _ _ _ _ w1 (s2.le (st.le (by simp))) (tK _) (by have := h2; omega)) ?_
 rintro _ _ q2 ⟨B2, c2, rfl, rfl⟩ _
 dsimp only [List.cons_append, List.nil_append]
 refine XB.bk ?_ (hS := fun _ h => h.aN.aN.aN.tail.tail.tail)
 refine XB.next 10 rfl (by kernel_rfl) ?_
 refine dB (zs := [.slice none 0 0, .slice none 0 0, .slice none 0 0]) (L := [(0, 1), (1, 1), (2, 1)]) (aM (by kernel_rfl)) (by kernel_rfl) rfl (by simp [aR, aU, Value.cells]; rfl) (by decide) ?_
 refine XB.bk ?_ (hS := fun _ h => h.aN.aN.aN.tail.tail.tail)
 refine XB.next 12 rfl (by kernel_rfl) ?_
 refine kd (fJ (sz := 3) 0 0) ?_
 refine XB.bt ?_
 refine XB.next 13 rfl (by kernel_rfl) ?_
 refine eJ rfl rfl ?_; simp only [cC, Value.cells, List.set, List.take, List.drop, List.nil_append, List.append_nil, List.length_cons, List.length_nil, List.cons_append, Nat.reduceAdd]
 refine XB.bt ?_
 refine XB.done (by kernel_rfl) ?_
 refine XK.go ?_
 refine XK.weak [2, 1, 0, 4, 5, 6, 7] rfl (by decide) (R' := [qx, all w]) (by simp) ?_
 refine XK.Dr ?_
 refine XK.go ?_
 refine Mm 1 (len := 2) (n := 3) (by kernel_rfl) rfl rfl rfl (by decide) rfl (by decide) ?_
 refine bZ (cs := [.slice none 0 0, .slice none 0 0, .slice none 0 0]) (aM (by kernel_rfl)) (by decide) fun g6 => ?_
 refine XK.go ?_
 refine XK.eR [1, 2, 4, 5, 7, 8, 11] ?_
 refine XB.mv 0 ?_
 refine XB.q 1 ?_
 refine XB.q 2 ?_
 refine XB.q 4 ?_
 refine XB.q 5 ?_
 refine XB.q 7 ?_
 refine XB.q 8 ?_
 refine XB.q 11 ?_
 refine XB.next 3 rfl (by kernel_rfl) ?_
 refine dZ (f := 100) (fi := []) (ca := []) (by kernel_rfl) rfl rfl (by decide) (sH y.d.length (bP y.d)) (fun w1 st => tI _ _ _ _ w1 (s3.le (st.le (by simp))) (tK _) (by have := h3; omega)) ?_
 rintro _ _ q3 ⟨B3, c3, rfl, rfl⟩ _
 dsimp only [List.cons_append, List.nil_append]
 refine XB.bk ?_ (hS := fun _ h => h.aN.tail)
 refine XB.next 6 rfl (by kernel_rfl) ?_
 refine dZ (f := 100) (fi := []) (ca := []) (by kernel_rfl) rfl rfl (by decide) (sH y.c.length (bP y.c)) (fun w1 st => tI _ _ _ _ w1 (s4.le (st.le (by simp))) (tK _) (by have := h4; omega)) ?_
 rintro _ _ q4 ⟨B4, c4, rfl, rfl⟩ _
 dsimp only [List.cons_append, List.nil_append]
 refine XB.bk ?_ (hS := fun _ h => h.aN.aN.tail.tail)
 refine XB.next 9 rfl (by kernel_rfl) ?_
 refine dZ (f := 100) (fi := []) (ca := []) (by kernel_rfl) rfl rfl (by decide) (sH y.l.length (bP y.l)) (fun w1 st => tI _ _ _ _ w1 (s5.le (st.le (by simp))) (tK _) (by have := h5; omega)) ?_
 rintro _ _ q5 ⟨B5, c5, rfl, rfl⟩ _
 dsimp only [List.cons_append, List.nil_append]
 refine XB.bk ?_ (hS := fun _ h => h.aN.aN.aN.tail.tail.tail)
 refine XB.next 10 rfl (by kernel_rfl) ?_
 refine dB (zs := [.slice none 0 0, .slice none 0 0, .slice none 0 0]) (L := [(0, 1), (1, 1), (2, 1)]) (aM (by kernel_rfl)) (by kernel_rfl) rfl (by simp [aR, aU, Value.cells]; rfl) (by decide) ?_
 refine XB.bk ?_ (hS := fun _ h => h.aN.aN.aN.tail.tail.tail)
 refine XB.next 12 rfl (by kernel_rfl) ?_
 refine kd (fJ (sz := 3) 1 3) ?_
 refine XB.bt ?_
 refine XB.next 13 rfl (by kernel_rfl) ?_
 refine eJ rfl rfl ?_; simp only [cC, Value.cells, List.set, List.take, List.drop, List.nil_append, List.append_nil, List.length_cons, List.length_nil, List.cons_append, Nat.reduceAdd]
 refine XB.bt ?_
 refine XB.done (by kernel_rfl) ?_
 refine XK.go ?_
 refine XK.weak [4, 5, 6, 2, 1, 0, 9, 7, 8] rfl (by decide) (R' := [qx, all w]) (by simp) ?_
 refine XK.Dr ?_
 refine XK.go ?_
 refine bT (t := 33) rfl (fun h => absurd h (by omega)) (fun _ => ?_)
 refine XK.go ?_
 refine XK.if_ rfl (fun h => absurd h (by omega)) (fun _ => ?_)
 refine XK.go ?_
 obtain rfl | rfl : ag = 0 ∨ ag = 1 := by omega
 ·refine XK.eR [1, 2, 3, 4] ?_
  refine XB.mv 0 ?_
  refine XB.q 1 ?_
  refine XB.q 2 ?_ (dN := fJ (sz := 3) 0 0)
  refine XB.q 3 ?_
  refine XB.q 4 ?_
  refine XB.next 5 rfl (by kernel_rfl) ?_
  refine aZ (fun w1 t => Ta g4 0 k (.slice B0 x.d.length c0) (.slice B1 x.c.length c1) (.slice B2 x.l.length c2) w1 (by simpa using (t.box (i := 7) rfl).at_ (j := 0) rfl) (by simpa using (t.box (i := 7) rfl).at_ (j := 1) rfl) (by simpa using (t.box (i := 7) rfl).at_ (j := 2) rfl)) ?_
  refine XB.bt ?_
  refine XB.next 6 rfl (by kernel_rfl) ?_
  refine bJ ?_
  refine XB.bt ?_
  refine XB.done (by kernel_rfl) ?_
  refine XK.norm ?_
  refine XK.weak [0, 1, 2, 3, 4, 5, 6, 7, 8] rfl (by decide) (fun _ h => h) ?_
  refine XK.aK [(10, dK k (.slice B0 x.d.length c0) (.slice B1 x.c.length c1) (.slice B2 x.l.length c2)), (7, .pointer (some ⟨g4, 0, none⟩)), (6, .pointer (some ⟨g3, 0, none⟩)), (5, .pointer (some ⟨g2, 0, none⟩))] ?_
  refine XK.Lj (fun e R H => e = [(7, .pointer (some ⟨g4, 0, none⟩)), (6, .pointer (some ⟨g3, 0, none⟩))] ∧ R = [qx, all w] ∧ ∃ x2 y2 : bE, x2 = cE x 0 k id ∧ y2 = cS y 0 k id ∧ H = [HP.own 4 1 (.slice B0 x.d.length c0) x.d.length (bP x2.d), HP.own 4 1 (.slice B1 x.c.length c1) x.c.length (bP x2.c), HP.own 4 1 (.slice B2 x.l.length c2) x.l.length (bP x2.l), HP.own 4 1 (.slice B3 y.d.length c3) y.d.length (bP y2.d), HP.own 4 1 (.slice B4 y.c.length c4) y.c.length (bP y2.c), HP.own 4 1 (.slice B5 y.l.length c5) y.l.length (bP y2.l), HP.aF g2 63 [.int .u8 k, .int .i64 id], HP.aF g4 71 [.slice B0 x.d.length c0, .slice B1 x.c.length c1, .slice B2 x.l.length c2, .slice B3 y.d.length c3, .slice B4 y.c.length c4, .slice B5 y.l.length c5], HP.aF g3 71 [.slice none 0 0, .slice none 0 0, .slice none 0 0, .slice none 0 0, .slice none 0 0, .slice none 0 0]]) ?_ ?_
  ·by_cases k0 : k = 117 ∨ k = 100 ∨ k = 107
   ·rw [show dK k (.slice B0 x.d.length c0) (.slice B1 x.c.length c1) (.slice B2 x.l.length c2) = .slice B0 x.d.length c0 by rw [dK, if_pos k0]]
    refine XK.go ?_
    refine bT (t := 47) rfl (fun hid => ?_) (fun hid => ?_)
    ·refine XK.go ?_
     refine XK.if_ rfl (fun jO => ?_) (fun jO => ?_)
     ·have hin : 0 ≤ id ∧ id < (x.d.length : Int) := ⟨hid, jO⟩
      have e1 : cE x 0 k id = ⟨dI x.d id (decide (fL k)), x.c, x.l⟩ := by simp [cE, dW, k0]
      have e2 : cS y 0 k id = y := by simp [cS, dW, k0]
      refine XK.Dx 0 rfl (by omega) ?_
      rintro ⟨gb, rfl⟩
      refine XK.vY 0 rfl fun cs eN hct hnc uU => ?_
      dsimp only [List.set]
      have uS : cs.take x.d.length = bP x.d := by simpa using hct
      have Cf : cs.length = c0 := by simpa using eN
      refine XK.eR [1, 2, 3, 4] ?_
      refine XB.mv 0 ?_
      refine XB.q 1 ?_
      refine XB.q 2 ?_
      refine XB.q 3 ?_
      refine XB.q 4 ?_
      refine XB.next 5 rfl (by kernel_rfl) ?_
      refine aZ (fun w1 t => zD k w1) ?_
      refine XB.bk ?_
      refine XB.next 6 rfl (by kernel_rfl) ?_
      refine kd (dat id.toNat id.toNat) ?_
      refine XB.bt ?_
      refine XB.next 7 rfl (by kernel_rfl) ?_
      refine iE rfl rfl ?_
      dsimp only [List.set]
      refine XB.bt ?_
      refine XB.done (by kernel_rfl) ?_
      refine XK.go ?_
      refine XK.vJ 0 (n := x.d.length) (c := c0) (sz := 1) (xs := bP (dI x.d id (decide (fL k)))) rfl (by simpa using eN) (by rw [Nat.mul_one, ← Ft _ hin, ← uS, List.take_set]) hnc uU ?_
      dsimp only [List.set]
      exact XK.weak [0, 1, 2, 3, 4, 5, 6, 7, 8] rfl (by decide) (fun _ h => h) (XK.aK [(7, .pointer (some ⟨g4, 0, none⟩)), (6, .pointer (some ⟨g3, 0, none⟩))] (XK.meet ⟨rfl, rfl, ⟨dI x.d id (decide (fL k)), x.c, x.l⟩, y, e1.symm, e2.symm, rfl⟩))
     ·have hin : ¬ (0 ≤ id ∧ id < (x.d.length : Int)) := fun h => jO h.2
      have e1 : cE x 0 k id = x := by simp [cE, dW, k0, jT _ hin]
      have e2 : cS y 0 k id = y := by simp [cS, dW, k0, jT _ hin]
      refine XK.go ?_
      exact XK.weak [0, 1, 2, 3, 4, 5, 6, 7, 8] rfl (by decide) (fun _ h => h) (XK.aK [(7, .pointer (some ⟨g4, 0, none⟩)), (6, .pointer (some ⟨g3, 0, none⟩))] (XK.meet ⟨rfl, rfl, x, y, e1.symm, e2.symm, rfl⟩))
    ·have hin : ¬ (0 ≤ id ∧ id < (x.d.length : Int)) := fun h => hid h.1
     have e1 : cE x 0 k id = x := by simp [cE, dW, k0, jT _ hin]
     have e2 : cS y 0 k id = y := by simp [cS, dW, k0, jT _ hin]
     refine XK.go ?_
     exact XK.weak [0, 1, 2, 3, 4, 5, 6, 7, 8] rfl (by decide) (fun _ h => h) (XK.aK [(7, .pointer (some ⟨g4, 0, none⟩)), (6, .pointer (some ⟨g3, 0, none⟩))] (XK.meet ⟨rfl, rfl, x, y, e1.symm, e2.symm, rfl⟩))
   by_cases k1 : k = 99 ∨ k = 111
   ·rw [show dK k (.slice B0 x.d.length c0) (.slice B1 x.c.length c1) (.slice B2 x.l.length c2) = .slice B1 x.c.length c1 by rw [dK, if_neg k0, if_pos k1]]
    refine XK.go ?_
    refine bT (t := 47) rfl (fun hid => ?_) (fun hid => ?_)
    ·refine XK.go ?_
     refine XK.if_ rfl (fun jO => ?_) (fun jO => ?_)
     ·have hin : 0 ≤ id ∧ id < (x.c.length : Int) := ⟨hid, jO⟩
      have e1 : cE x 0 k id = ⟨x.d, dI x.c id (decide (fL k)), x.l⟩ := by simp [cE, dW, k0, k1]
      have e2 : cS y 0 k id = y := by simp [cS, dW, k0, k1]
      refine XK.Dx 1 rfl (by omega) ?_
      rintro ⟨gb, rfl⟩
      refine XK.vY 1 rfl fun cs eN hct hnc uU => ?_
      dsimp only [List.set]
      have uS : cs.take x.c.length = bP x.c := by simpa using hct
      have Cf : cs.length = c1 := by simpa using eN
      refine XK.eR [1, 2, 3, 4] ?_
      refine XB.mv 0 ?_
      refine XB.q 1 ?_
      refine XB.q 2 ?_
      refine XB.q 3 ?_
      refine XB.q 4 ?_
      refine XB.next 5 rfl (by kernel_rfl) ?_
      refine aZ (fun w1 t => zD k w1) ?_
      refine XB.bk ?_
      refine XB.next 6 rfl (by kernel_rfl) ?_
      refine kd (dat id.toNat id.toNat) ?_
      refine XB.bt ?_
      refine XB.next 7 rfl (by kernel_rfl) ?_
      refine iE rfl rfl ?_
      dsimp only [List.set]
      refine XB.bt ?_
      refine XB.done (by kernel_rfl) ?_
      refine XK.go ?_
      refine XK.vJ 1 (n := x.c.length) (c := c1) (sz := 1) (xs := bP (dI x.c id (decide (fL k)))) rfl (by simpa using eN) (by rw [Nat.mul_one, ← Ft _ hin, ← uS, List.take_set]) hnc uU ?_
      dsimp only [List.set]
      exact XK.weak [0, 1, 2, 3, 4, 5, 6, 7, 8] rfl (by decide) (fun _ h => h) (XK.aK [(7, .pointer (some ⟨g4, 0, none⟩)), (6, .pointer (some ⟨g3, 0, none⟩))] (XK.meet ⟨rfl, rfl, ⟨x.d, dI x.c id (decide (fL k)), x.l⟩, y, e1.symm, e2.symm, rfl⟩))
     ·have hin : ¬ (0 ≤ id ∧ id < (x.c.length : Int)) := fun h => jO h.2
      have e1 : cE x 0 k id = x := by simp [cE, dW, k0, k1, jT _ hin]
      have e2 : cS y 0 k id = y := by simp [cS, dW, k0, k1, jT _ hin]
      refine XK.go ?_
      exact XK.weak [0, 1, 2, 3, 4, 5, 6, 7, 8] rfl (by decide) (fun _ h => h) (XK.aK [(7, .pointer (some ⟨g4, 0, none⟩)), (6, .pointer (some ⟨g3, 0, none⟩))] (XK.meet ⟨rfl, rfl, x, y, e1.symm, e2.symm, rfl⟩))
    ·have hin : ¬ (0 ≤ id ∧ id < (x.c.length : Int)) := fun h => hid h.1
     have e1 : cE x 0 k id = x := by simp [cE, dW, k0, k1, jT _ hin]
     have e2 : cS y 0 k id = y := by simp [cS, dW, k0, k1, jT _ hin]
     refine XK.go ?_
     exact XK.weak [0, 1, 2, 3, 4, 5, 6, 7, 8] rfl (by decide) (fun _ h => h) (XK.aK [(7, .pointer (some ⟨g4, 0, none⟩)), (6, .pointer (some ⟨g3, 0, none⟩))] (XK.meet ⟨rfl, rfl, x, y, e1.symm, e2.symm, rfl⟩))
   by_cases k2 : k = 114 ∨ k = 97
   ·rw [show dK k (.slice B0 x.d.length c0) (.slice B1 x.c.length c1) (.slice B2 x.l.length c2) = .slice B2 x.l.length c2 by rw [dK, if_neg k0, if_neg k1, if_pos k2]]
    refine XK.go ?_
    refine bT (t := 47) rfl (fun hid => ?_) (fun hid => ?_)
    ·refine XK.go ?_
     refine XK.if_ rfl (fun jO => ?_) (fun jO => ?_)
     ·have hin : 0 ≤ id ∧ id < (x.l.length : Int) := ⟨hid, jO⟩
      have e1 : cE x 0 k id = ⟨x.d, x.c, dI x.l id (decide (fL k))⟩ := by simp [cE, dW, k0, k1, k2]
      have e2 : cS y 0 k id = y := by simp [cS, dW, k0, k1, k2]
      refine XK.Dx 2 rfl (by omega) ?_
      rintro ⟨gb, rfl⟩
      refine XK.vY 2 rfl fun cs eN hct hnc uU => ?_
      dsimp only [List.set]
      have uS : cs.take x.l.length = bP x.l := by simpa using hct
      have Cf : cs.length = c2 := by simpa using eN
      refine XK.eR [1, 2, 3, 4] ?_
      refine XB.mv 0 ?_
      refine XB.q 1 ?_
      refine XB.q 2 ?_
      refine XB.q 3 ?_
      refine XB.q 4 ?_
      refine XB.next 5 rfl (by kernel_rfl) ?_
      refine aZ (fun w1 t => zD k w1) ?_
      refine XB.bk ?_
      refine XB.next 6 rfl (by kernel_rfl) ?_
      refine kd (dat id.toNat id.toNat) ?_
      refine XB.bt ?_
      refine XB.next 7 rfl (by kernel_rfl) ?_
      refine iE rfl rfl ?_
      dsimp only [List.set]
      refine XB.bt ?_
      refine XB.done (by kernel_rfl) ?_
      refine XK.go ?_
      refine XK.vJ 2 (n := x.l.length) (c := c2) (sz := 1) (xs := bP (dI x.l id (decide (fL k)))) rfl (by simpa using eN) (by rw [Nat.mul_one, ← Ft _ hin, ← uS, List.take_set]) hnc uU ?_
      dsimp only [List.set]
      exact XK.weak [0, 1, 2, 3, 4, 5, 6, 7, 8] rfl (by decide) (fun _ h => h) (XK.aK [(7, .pointer (some ⟨g4, 0, none⟩)), (6, .pointer (some ⟨g3, 0, none⟩))] (XK.meet ⟨rfl, rfl, ⟨x.d, x.c, dI x.l id (decide (fL k))⟩, y, e1.symm, e2.symm, rfl⟩))
     ·have hin : ¬ (0 ≤ id ∧ id < (x.l.length : Int)) := fun h => jO h.2
      have e1 : cE x 0 k id = x := by simp [cE, dW, k0, k1, k2, jT _ hin]
      have e2 : cS y 0 k id = y := by simp [cS, dW, k0, k1, k2, jT _ hin]
      refine XK.go ?_
      exact XK.weak [0, 1, 2, 3, 4, 5, 6, 7, 8] rfl (by decide) (fun _ h => h) (XK.aK [(7, .pointer (some ⟨g4, 0, none⟩)), (6, .pointer (some ⟨g3, 0, none⟩))] (XK.meet ⟨rfl, rfl, x, y, e1.symm, e2.symm, rfl⟩))
    ·have hin : ¬ (0 ≤ id ∧ id < (x.l.length : Int)) := fun h => hid h.1
     have e1 : cE x 0 k id = x := by simp [cE, dW, k0, k1, k2, jT _ hin]
     have e2 : cS y 0 k id = y := by simp [cS, dW, k0, k1, k2, jT _ hin]
     refine XK.go ?_
     exact XK.weak [0, 1, 2, 3, 4, 5, 6, 7, 8] rfl (by decide) (fun _ h => h) (XK.aK [(7, .pointer (some ⟨g4, 0, none⟩)), (6, .pointer (some ⟨g3, 0, none⟩))] (XK.meet ⟨rfl, rfl, x, y, e1.symm, e2.symm, rfl⟩))
   rw [show dK k (.slice B0 x.d.length c0) (.slice B1 x.c.length c1) (.slice B2 x.l.length c2) = .slice none 0 0 by rw [dK, if_neg k0, if_neg k1, if_neg k2]]
   have e1 : cE x 0 k id = x := by simp [cE, dW, k0, k1, k2]
   have e2 : cS y 0 k id = y := by simp [cS, dW, k0, k1, k2]
   refine XK.go ?_
   refine bT (t := 47) rfl (fun hid => ?_) (fun hid => ?_)
   ·refine XK.go ?_
    refine XK.if_ rfl (fun h => absurd h (by omega)) (fun _ => ?_)
    refine XK.go ?_
    exact XK.weak [0, 1, 2, 3, 4, 5, 6, 7, 8] rfl (by decide) (fun _ h => h) (XK.aK [(7, .pointer (some ⟨g4, 0, none⟩)), (6, .pointer (some ⟨g3, 0, none⟩))] (XK.meet ⟨rfl, rfl, x, y, e1.symm, e2.symm, rfl⟩))
   ·refine XK.go ?_
    exact XK.weak [0, 1, 2, 3, 4, 5, 6, 7, 8] rfl (by decide) (fun _ h => h) (XK.aK [(7, .pointer (some ⟨g4, 0, none⟩)), (6, .pointer (some ⟨g3, 0, none⟩))] (XK.meet ⟨rfl, rfl, x, y, e1.symm, e2.symm, rfl⟩))
  ·rintro _ _ _ ⟨rfl, rfl, x2, y2, uJ, rP, rfl⟩
   refine XK.weak [7, 8, 0, 1, 2, 3, 4, 5] rfl (by decide) (fun _ h => h) ?_
   refine XK.go ?_
   refine XK.still [] [2, 3, 4, 5, 6, 7] [0, 1] (by simp) rfl (by decide) (by decide) fun q hq _ hfr => ?_
   obtain ⟨F0, Hq, Gl⟩ := hq 2 _ (by simp) rfl
   have hs0 := aH.own (q := q) ⟨F0, Hq, Gl⟩
   obtain ⟨F1, Hp, Gk⟩ := hq 3 _ (by simp) rfl
   have hs1 := aH.own (q := q) ⟨F1, Hp, Gk⟩
   obtain ⟨F2, kF, kB⟩ := hq 4 _ (by simp) rfl
   have fF := aH.own (q := q) ⟨F2, kF, kB⟩
   obtain ⟨F3, Ho, Gj⟩ := hq 5 _ (by simp) rfl
   have kY := aH.own (q := q) ⟨F3, Ho, Gj⟩
   obtain ⟨F4, Hl, Gi⟩ := hq 6 _ (by simp) rfl
   have mB := aH.own (q := q) ⟨F4, Hl, Gi⟩
   obtain ⟨F5, Hj, Gh⟩ := hq 7 _ (by simp) rfl
   have lI := aH.own (q := q) ⟨F5, Hj, Gh⟩
   refine XK.Dt rfl (n := 6) (vs := [.slice B0 x.d.length c0, .slice B1 x.c.length c1, .slice B2 x.l.length c2, .slice B3 y.d.length c3, .slice B4 y.c.length c4, .slice B5 y.l.length c5]) (by kernel_rfl) rfl rfl (aD.whole 1 rfl) fun w1 st => ⟨⟨_, rfl, ?_⟩, st.below (by simp)⟩
   have hle := st.lK (by simp) (hfr (by simp) (by simp))
   have l1 : x2.d.length = x.d.length ∧ x2.c.length = x.c.length ∧ x2.l.length = x.l.length ∧ y2.d.length = y.d.length ∧ y2.c.length = y.c.length ∧ y2.l.length = y.l.length := by
    rw [uJ, rP]
    exact aB5 x y _ k id
   rw [← uJ, ← rP]
   obtain ⟨l1, l2, l3, l4, l5, l6⟩ := l1
   refine ⟨B0, c0, B1, c1, B2, c2, B3, c3, B4, c4, B5, c5, ?_, ?_, ?_, ?_, ?_, ?_, ?_⟩
   ·rw [l1, l2, l3, l4, l5, l6]
   ·rw [l1]; exact hs0.le hle
   ·rw [l2]; exact hs1.le hle
   ·rw [l3]; exact fF.le hle
   ·rw [l4]; exact kY.le hle
   ·rw [l5]; exact mB.le hle
   ·rw [l6]; exact lI.le hle
 ·refine XK.eR [1, 2, 3, 4] ?_
  refine XB.mv 0 ?_
  refine XB.q 1 ?_
  refine XB.q 2 ?_ (dN := fJ (sz := 3) 1 3)
  refine XB.q 3 ?_
  refine XB.q 4 ?_
  refine XB.next 5 rfl (by kernel_rfl) ?_
  refine aZ (fun w1 t => Ta g4 3 k (.slice B3 y.d.length c3) (.slice B4 y.c.length c4) (.slice B5 y.l.length c5) w1 (by simpa using (t.box (i := 7) rfl).at_ (j := 3) rfl) (by simpa using (t.box (i := 7) rfl).at_ (j := 4) rfl) (by simpa using (t.box (i := 7) rfl).at_ (j := 5) rfl)) ?_
  refine XB.bt ?_
  refine XB.next 6 rfl (by kernel_rfl) ?_
  refine bJ ?_
  refine XB.bt ?_
  refine XB.done (by kernel_rfl) ?_
  refine XK.norm ?_
  refine XK.weak [0, 1, 2, 3, 4, 5, 6, 7, 8] rfl (by decide) (fun _ h => h) ?_
  refine XK.aK [(10, dK k (.slice B3 y.d.length c3) (.slice B4 y.c.length c4) (.slice B5 y.l.length c5)), (7, .pointer (some ⟨g4, 0, none⟩)), (6, .pointer (some ⟨g3, 0, none⟩)), (5, .pointer (some ⟨g2, 0, none⟩))] ?_
  refine XK.Lj (fun e R H => e = [(7, .pointer (some ⟨g4, 0, none⟩)), (6, .pointer (some ⟨g3, 0, none⟩))] ∧ R = [qx, all w] ∧ ∃ x2 y2 : bE, x2 = cE x 1 k id ∧ y2 = cS y 1 k id ∧ H = [HP.own 4 1 (.slice B0 x.d.length c0) x.d.length (bP x2.d), HP.own 4 1 (.slice B1 x.c.length c1) x.c.length (bP x2.c), HP.own 4 1 (.slice B2 x.l.length c2) x.l.length (bP x2.l), HP.own 4 1 (.slice B3 y.d.length c3) y.d.length (bP y2.d), HP.own 4 1 (.slice B4 y.c.length c4) y.c.length (bP y2.c), HP.own 4 1 (.slice B5 y.l.length c5) y.l.length (bP y2.l), HP.aF g2 63 [.int .u8 k, .int .i64 id], HP.aF g4 71 [.slice B0 x.d.length c0, .slice B1 x.c.length c1, .slice B2 x.l.length c2, .slice B3 y.d.length c3, .slice B4 y.c.length c4, .slice B5 y.l.length c5], HP.aF g3 71 [.slice none 0 0, .slice none 0 0, .slice none 0 0, .slice none 0 0, .slice none 0 0, .slice none 0 0]]) ?_ ?_
  ·by_cases k0 : k = 117 ∨ k = 100 ∨ k = 107
   ·rw [show dK k (.slice B3 y.d.length c3) (.slice B4 y.c.length c4) (.slice B5 y.l.length c5) = .slice B3 y.d.length c3 by rw [dK, if_pos k0]]
    refine XK.go ?_
    refine bT (t := 47) rfl (fun hid => ?_) (fun hid => ?_)
    ·refine XK.go ?_
     refine XK.if_ rfl (fun jO => ?_) (fun jO => ?_)
     ·have hin : 0 ≤ id ∧ id < (y.d.length : Int) := ⟨hid, jO⟩
      have e1 : cE x 1 k id = x := by simp [cE, dW, k0]
      have e2 : cS y 1 k id = ⟨dI y.d id (decide (fL k)), y.c, y.l⟩ := by simp [cS, dW, k0]
      refine XK.Dx 3 rfl (by omega) ?_
      rintro ⟨gb, rfl⟩
      refine XK.vY 3 rfl fun cs eN hct hnc uU => ?_
      dsimp only [List.set]
      have uS : cs.take y.d.length = bP y.d := by simpa using hct
      have Cf : cs.length = c3 := by simpa using eN
      refine XK.eR [1, 2, 3, 4] ?_
      refine XB.mv 0 ?_
      refine XB.q 1 ?_
      refine XB.q 2 ?_
      refine XB.q 3 ?_
      refine XB.q 4 ?_
      refine XB.next 5 rfl (by kernel_rfl) ?_
      refine aZ (fun w1 t => zD k w1) ?_
      refine XB.bk ?_
      refine XB.next 6 rfl (by kernel_rfl) ?_
      refine kd (dat id.toNat id.toNat) ?_
      refine XB.bt ?_
      refine XB.next 7 rfl (by kernel_rfl) ?_
      refine iE rfl rfl ?_
      dsimp only [List.set]
      refine XB.bt ?_
      refine XB.done (by kernel_rfl) ?_
      refine XK.go ?_
      refine XK.vJ 3 (n := y.d.length) (c := c3) (sz := 1) (xs := bP (dI y.d id (decide (fL k)))) rfl (by simpa using eN) (by rw [Nat.mul_one, ← Ft _ hin, ← uS, List.take_set]) hnc uU ?_
      dsimp only [List.set]
      exact XK.weak [0, 1, 2, 3, 4, 5, 6, 7, 8] rfl (by decide) (fun _ h => h) (XK.aK [(7, .pointer (some ⟨g4, 0, none⟩)), (6, .pointer (some ⟨g3, 0, none⟩))] (XK.meet ⟨rfl, rfl, x, ⟨dI y.d id (decide (fL k)), y.c, y.l⟩, e1.symm, e2.symm, rfl⟩))
     ·have hin : ¬ (0 ≤ id ∧ id < (y.d.length : Int)) := fun h => jO h.2
      have e1 : cE x 1 k id = x := by simp [cE, dW, k0, jT _ hin]
      have e2 : cS y 1 k id = y := by simp [cS, dW, k0, jT _ hin]
      refine XK.go ?_
      exact XK.weak [0, 1, 2, 3, 4, 5, 6, 7, 8] rfl (by decide) (fun _ h => h) (XK.aK [(7, .pointer (some ⟨g4, 0, none⟩)), (6, .pointer (some ⟨g3, 0, none⟩))] (XK.meet ⟨rfl, rfl, x, y, e1.symm, e2.symm, rfl⟩))
    ·have hin : ¬ (0 ≤ id ∧ id < (y.d.length : Int)) := fun h => hid h.1
     have e1 : cE x 1 k id = x := by simp [cE, dW, k0, jT _ hin]
     have e2 : cS y 1 k id = y := by simp [cS, dW, k0, jT _ hin]
     refine XK.go ?_
     exact XK.weak [0, 1, 2, 3, 4, 5, 6, 7, 8] rfl (by decide) (fun _ h => h) (XK.aK [(7, .pointer (some ⟨g4, 0, none⟩)), (6, .pointer (some ⟨g3, 0, none⟩))] (XK.meet ⟨rfl, rfl, x, y, e1.symm, e2.symm, rfl⟩))
   by_cases k1 : k = 99 ∨ k = 111
   ·rw [show dK k (.slice B3 y.d.length c3) (.slice B4 y.c.length c4) (.slice B5 y.l.length c5) = .slice B4 y.c.length c4 by rw [dK, if_neg k0, if_pos k1]]
    refine XK.go ?_
    refine bT (t := 47) rfl (fun hid => ?_) (fun hid => ?_)
    ·refine XK.go ?_
     refine XK.if_ rfl (fun jO => ?_) (fun jO => ?_)
     ·have hin : 0 ≤ id ∧ id < (y.c.length : Int) := ⟨hid, jO⟩
      have e1 : cE x 1 k id = x := by simp [cE, dW, k0, k1]
      have e2 : cS y 1 k id = ⟨y.d, dI y.c id (decide (fL k)), y.l⟩ := by simp [cS, dW, k0, k1]
      refine XK.Dx 4 rfl (by omega) ?_
      rintro ⟨gb, rfl⟩
      refine XK.vY 4 rfl fun cs eN hct hnc uU => ?_
      dsimp only [List.set]
      have uS : cs.take y.c.length = bP y.c := by simpa using hct
      have Cf : cs.length = c4 := by simpa using eN
      refine XK.eR [1, 2, 3, 4] ?_
      refine XB.mv 0 ?_
      refine XB.q 1 ?_
      refine XB.q 2 ?_
      refine XB.q 3 ?_
      refine XB.q 4 ?_
      refine XB.next 5 rfl (by kernel_rfl) ?_
      refine aZ (fun w1 t => zD k w1) ?_
      refine XB.bk ?_
      refine XB.next 6 rfl (by kernel_rfl) ?_
      refine kd (dat id.toNat id.toNat) ?_
      refine XB.bt ?_
      refine XB.next 7 rfl (by kernel_rfl) ?_
      refine iE rfl rfl ?_
      dsimp only [List.set]
      refine XB.bt ?_
      refine XB.done (by kernel_rfl) ?_
      refine XK.go ?_
      refine XK.vJ 4 (n := y.c.length) (c := c4) (sz := 1) (xs := bP (dI y.c id (decide (fL k)))) rfl (by simpa using eN) (by rw [Nat.mul_one, ← Ft _ hin, ← uS, List.take_set]) hnc uU ?_
      dsimp only [List.set]
      exact XK.weak [0, 1, 2, 3, 4, 5, 6, 7, 8] rfl (by decide) (fun _ h => h) (XK.aK [(7, .pointer (some ⟨g4, 0, none⟩)), (6, .pointer (some ⟨g3, 0, none⟩))] (XK.meet ⟨rfl, rfl, x, ⟨y.d, dI y.c id (decide (fL k)), y.l⟩, e1.symm, e2.symm, rfl⟩))
     ·have hin : ¬ (0 ≤ id ∧ id < (y.c.length : Int)) := fun h => jO h.2
      have e1 : cE x 1 k id = x := by simp [cE, dW, k0, k1, jT _ hin]
      have e2 : cS y 1 k id = y := by simp [cS, dW, k0, k1, jT _ hin]
      refine XK.go ?_
      exact XK.weak [0, 1, 2, 3, 4, 5, 6, 7, 8] rfl (by decide) (fun _ h => h) (XK.aK [(7, .pointer (some ⟨g4, 0, none⟩)), (6, .pointer (some ⟨g3, 0, none⟩))] (XK.meet ⟨rfl, rfl, x, y, e1.symm, e2.symm, rfl⟩))
    ·have hin : ¬ (0 ≤ id ∧ id < (y.c.length : Int)) := fun h => hid h.1
     have e1 : cE x 1 k id = x := by simp [cE, dW, k0, k1, jT _ hin]
     have e2 : cS y 1 k id = y := by simp [cS, dW, k0, k1, jT _ hin]
     refine XK.go ?_
     exact XK.weak [0, 1, 2, 3, 4, 5, 6, 7, 8] rfl (by decide) (fun _ h => h) (XK.aK [(7, .pointer (some ⟨g4, 0, none⟩)), (6, .pointer (some ⟨g3, 0, none⟩))] (XK.meet ⟨rfl, rfl, x, y, e1.symm, e2.symm, rfl⟩))
   by_cases k2 : k = 114 ∨ k = 97
   ·rw [show dK k (.slice B3 y.d.length c3) (.slice B4 y.c.length c4) (.slice B5 y.l.length c5) = .slice B5 y.l.length c5 by rw [dK, if_neg k0, if_neg k1, if_pos k2]]
    refine XK.go ?_
    refine bT (t := 47) rfl (fun hid => ?_) (fun hid => ?_)
    ·refine XK.go ?_
     refine XK.if_ rfl (fun jO => ?_) (fun jO => ?_)
     ·have hin : 0 ≤ id ∧ id < (y.l.length : Int) := ⟨hid, jO⟩
      have e1 : cE x 1 k id = x := by simp [cE, dW, k0, k1, k2]
      have e2 : cS y 1 k id = ⟨y.d, y.c, dI y.l id (decide (fL k))⟩ := by simp [cS, dW, k0, k1, k2]
      refine XK.Dx 5 rfl (by omega) ?_
      rintro ⟨gb, rfl⟩
      refine XK.vY 5 rfl fun cs eN hct hnc uU => ?_
      dsimp only [List.set]
      have uS : cs.take y.l.length = bP y.l := by simpa using hct
      have Cf : cs.length = c5 := by simpa using eN
      refine XK.eR [1, 2, 3, 4] ?_
      refine XB.mv 0 ?_
      refine XB.q 1 ?_
      refine XB.q 2 ?_
      refine XB.q 3 ?_
      refine XB.q 4 ?_
      refine XB.next 5 rfl (by kernel_rfl) ?_
      refine aZ (fun w1 t => zD k w1) ?_
      refine XB.bk ?_
      refine XB.next 6 rfl (by kernel_rfl) ?_
      refine kd (dat id.toNat id.toNat) ?_
      refine XB.bt ?_
      refine XB.next 7 rfl (by kernel_rfl) ?_
      refine iE rfl rfl ?_
      dsimp only [List.set]
      refine XB.bt ?_
      refine XB.done (by kernel_rfl) ?_
      refine XK.go ?_
      refine XK.vJ 5 (n := y.l.length) (c := c5) (sz := 1) (xs := bP (dI y.l id (decide (fL k)))) rfl (by simpa using eN) (by rw [Nat.mul_one, ← Ft _ hin, ← uS, List.take_set]) hnc uU ?_
      dsimp only [List.set]
      exact XK.weak [0, 1, 2, 3, 4, 5, 6, 7, 8] rfl (by decide) (fun _ h => h) (XK.aK [(7, .pointer (some ⟨g4, 0, none⟩)), (6, .pointer (some ⟨g3, 0, none⟩))] (XK.meet ⟨rfl, rfl, x, ⟨y.d, y.c, dI y.l id (decide (fL k))⟩, e1.symm, e2.symm, rfl⟩))
     ·have hin : ¬ (0 ≤ id ∧ id < (y.l.length : Int)) := fun h => jO h.2
      have e1 : cE x 1 k id = x := by simp [cE, dW, k0, k1, k2, jT _ hin]
      have e2 : cS y 1 k id = y := by simp [cS, dW, k0, k1, k2, jT _ hin]
      refine XK.go ?_
      exact XK.weak [0, 1, 2, 3, 4, 5, 6, 7, 8] rfl (by decide) (fun _ h => h) (XK.aK [(7, .pointer (some ⟨g4, 0, none⟩)), (6, .pointer (some ⟨g3, 0, none⟩))] (XK.meet ⟨rfl, rfl, x, y, e1.symm, e2.symm, rfl⟩))
    ·have hin : ¬ (0 ≤ id ∧ id < (y.l.length : Int)) := fun h => hid h.1
     have e1 : cE x 1 k id = x := by simp [cE, dW, k0, k1, k2, jT _ hin]
     have e2 : cS y 1 k id = y := by simp [cS, dW, k0, k1, k2, jT _ hin]
     refine XK.go ?_
     exact XK.weak [0, 1, 2, 3, 4, 5, 6, 7, 8] rfl (by decide) (fun _ h => h) (XK.aK [(7, .pointer (some ⟨g4, 0, none⟩)), (6, .pointer (some ⟨g3, 0, none⟩))] (XK.meet ⟨rfl, rfl, x, y, e1.symm, e2.symm, rfl⟩))
   rw [show dK k (.slice B3 y.d.length c3) (.slice B4 y.c.length c4) (.slice B5 y.l.length c5) = .slice none 0 0 by rw [dK, if_neg k0, if_neg k1, if_neg k2]]
   have e1 : cE x 1 k id = x := by simp [cE, dW, k0, k1, k2]
   have e2 : cS y 1 k id = y := by simp [cS, dW, k0, k1, k2]
   refine XK.go ?_
   refine bT (t := 47) rfl (fun hid => ?_) (fun hid => ?_)
   ·refine XK.go ?_
    refine XK.if_ rfl (fun h => absurd h (by omega)) (fun _ => ?_)
    refine XK.go ?_
    exact XK.weak [0, 1, 2, 3, 4, 5, 6, 7, 8] rfl (by decide) (fun _ h => h) (XK.aK [(7, .pointer (some ⟨g4, 0, none⟩)), (6, .pointer (some ⟨g3, 0, none⟩))] (XK.meet ⟨rfl, rfl, x, y, e1.symm, e2.symm, rfl⟩))
   ·refine XK.go ?_
    exact XK.weak [0, 1, 2, 3, 4, 5, 6, 7, 8] rfl (by decide) (fun _ h => h) (XK.aK [(7, .pointer (some ⟨g4, 0, none⟩)), (6, .pointer (some ⟨g3, 0, none⟩))] (XK.meet ⟨rfl, rfl, x, y, e1.symm, e2.symm, rfl⟩))
  ·rintro _ _ _ ⟨rfl, rfl, x2, y2, uJ, rP, rfl⟩
   refine XK.weak [7, 8, 0, 1, 2, 3, 4, 5] rfl (by decide) (fun _ h => h) ?_
   refine XK.go ?_
   refine XK.still [] [2, 3, 4, 5, 6, 7] [0, 1] (by simp) rfl (by decide) (by decide) fun q hq _ hfr => ?_
   obtain ⟨F0, Hq, Gl⟩ := hq 2 _ (by simp) rfl
   have hs0 := aH.own (q := q) ⟨F0, Hq, Gl⟩
   obtain ⟨F1, Hp, Gk⟩ := hq 3 _ (by simp) rfl
   have hs1 := aH.own (q := q) ⟨F1, Hp, Gk⟩
   obtain ⟨F2, kF, kB⟩ := hq 4 _ (by simp) rfl
   have fF := aH.own (q := q) ⟨F2, kF, kB⟩
   obtain ⟨F3, Ho, Gj⟩ := hq 5 _ (by simp) rfl
   have kY := aH.own (q := q) ⟨F3, Ho, Gj⟩
   obtain ⟨F4, Hl, Gi⟩ := hq 6 _ (by simp) rfl
   have mB := aH.own (q := q) ⟨F4, Hl, Gi⟩
   obtain ⟨F5, Hj, Gh⟩ := hq 7 _ (by simp) rfl
   have lI := aH.own (q := q) ⟨F5, Hj, Gh⟩
   refine XK.Dt rfl (n := 6) (vs := [.slice B0 x.d.length c0, .slice B1 x.c.length c1, .slice B2 x.l.length c2, .slice B3 y.d.length c3, .slice B4 y.c.length c4, .slice B5 y.l.length c5]) (by kernel_rfl) rfl rfl (aD.whole 1 rfl) fun w1 st => ⟨⟨_, rfl, ?_⟩, st.below (by simp)⟩
   have hle := st.lK (by simp) (hfr (by simp) (by simp))
   have l1 : x2.d.length = x.d.length ∧ x2.c.length = x.c.length ∧ x2.l.length = x.l.length ∧ y2.d.length = y.d.length ∧ y2.c.length = y.c.length ∧ y2.l.length = y.l.length := by
    rw [uJ, rP]
    exact aB5 x y _ k id
   rw [← uJ, ← rP]
   obtain ⟨l1, l2, l3, l4, l5, l6⟩ := l1
   refine ⟨B0, c0, B1, c1, B2, c2, B3, c3, B4, c4, B5, c5, ?_, ?_, ?_, ?_, ?_, ?_, ?_⟩
   ·rw [l1, l2, l3, l4, l5, l6]
   ·rw [l1]; exact hs0.le hle
   ·rw [l2]; exact hs1.le hle
   ·rw [l3]; exact fF.le hle
   ·rw [l4]; exact kY.le hle
   ·rw [l5]; exact mB.le hle
   ·rw [l6]; exact lI.le hle
end
section
set_option maxHeartbeats 4000000
set_option maxRecDepth 20000
section
variable {P : Program} {N : cN} {w0 w : World} {e : Env} {R : List Piece} {H : List HP} {K : Act → World → Prop} {f h : Nat} {L : eC} {s : aC} {z : bN} {Q : Exit → Act → World → Prop}
theorem Rd.fN (i : Nat) {o : Nat} {v : Value} (hi : H[i]? = some (eE f h L s z)) (hv : (cD h L s z)[o]? = some v) : Rd w0 R H f o v := fun w t => by
 have := ((t.qY i hi).r0.at_ hv).2
 rwa [Nat.zero_add] at this
theorem aD.fN (i : Nat) {o : Nat} {vs : List Value} (hi : H[i]? = some (eE f h L s z)) (hv : ((cD h L s z).drop o).take vs.length = vs) : aD w0 R H f o vs := .of fun _ _ hj => Rd.fN i hi (Wv hv hj)
end
def Ab (L : eC) (b : Nat) : AC := if b = 0 then L.b0 else L.b1
section
variable {h : Nat} {L : eC} {s : aC} {z : bN}
theorem aBq {b : Nat} (hb : b < 2) : (cD h L s z)[11 + b * 2]? = some (.int .i64 (xU z b)) := by
 obtain rfl | rfl : b = 0 ∨ b = 1 := by omega
 ·rfl
 ·rfl
theorem aGE {b : Nat} (hb : b < 2) : (cD h L s z)[12 + b * 2]? = some (.slice (Ab L b).1 (fP z b).length (Ab L b).2) := by
 obtain rfl | rfl : b = 0 ∨ b = 1 := by omega
 ·rfl
 ·rfl
theorem rF.box {w : World} {f : Nat} (k : rF w f h L s z) {b : Nat} (hb : b < 2) : aH (all w) 1 (Ab L b).1 (fP z b).length (kK (fP z b)) := by
 obtain rfl | rfl : b = 0 ∨ b = 1 := by omega
 ·exact k.b0
 ·exact k.b1
theorem rF.Rm {w : World} {f : Nat} (k : rF w f h L s z) : jP (all w) z.x z.y (.agg #[.slice L.x1.1 z.x.d.length L.x1.2, .slice L.x2.1 z.x.c.length L.x2.2, .slice L.x3.1 z.x.l.length L.x3.2, .slice L.y1.1 z.y.d.length L.y1.2, .slice L.y2.1 z.y.c.length L.y2.2, .slice L.y3.1 z.y.l.length L.y3.2]) :=
 ⟨_, _, _, _, _, _, _, _, _, _, _, _, rfl, k.st.1, k.st.2.1, k.st.2.2.1, k.st.2.2.2.1, k.st.2.2.2.2.1, k.st.2.2.2.2.2⟩
end
structure vO (s : aC) (z : bN) : Prop where
 la : z.last = 0 ∨ z.last = 1
 u0 : nM z.w0
 u1 : nM z.w1
 n0 : z.w0.length ≤ 1000000
 n1 : z.w1.length ≤ 1000000
 sx : z.x.sm
 sy : z.y.sm
theorem vO.box {s : aC} {z : bN} (h : vO s z) (b : Nat) : nM (fP z b) ∧ (fP z b).length ≤ 1000000 := by
 unfold fP
 split
 ·exact ⟨h.u0, h.n0⟩
 ·exact ⟨h.u1, h.n1⟩
def iR (s : aC) (x : aT) (z : bN) (a : Nat) : Int × Int × Int := jZ s z.x z.y (iT s x) a (fP z a)
def uC (s : aC) (x : aT) (z : bN) (a : Nat) : bN × Bool :=
 let d := iR s x z a
 if d.2.1 = 0 then (gR s x { z with last := a } a d.1, false)
 else ({ z with last := a, x := cE z.x a d.2.1 d.2.2, y := cS z.y a d.2.1 d.2.2, at_ := a, kind := d.2.1, id := d.2.2 }, true)
def iZ (s : aC) (x : aT) (z : bN) : bN × Bool := match nY z with
 | none => (z, false)
 | some a => uC s x z a
theorem aBk (f : Nat) (hL : HL) (s : aC) (z : bN) (x : aT) (hH : s.bO) (aV : fB hL s) (hok : bQ s x) (hz : vO s z) (l a : Nat) (hl : z.last = (l : Int)) (gB : l ≤ 1) (ha : a < 2) (hab : (xU z (1 - l) = 1 ∧ a = 1 - l) ∨ (xU z (1 - l) ≠ 1 ∧ a = l)) (h1 : xU z a = 1)
  (hst : (iR s x z a).2.1 = 0 → (iR s x z a).1 = 0 → tP (fP z a)) (w : World) (F : Nat → Prop) (hp : (bG f hL s z x).sat F w) (hF : ∀ b, F b → b < w.heap.size) :
  Calls Tryz.prog 74 #[.pointer (some ⟨f, 0, none⟩)] w (fun y w' => y = .returned (.bool (uC s x z a).2) ∧ ∃ F', (bG f hL s (uC s x z a).1 x).sat F' w' ∧ bI w w' F F') := by
 have zI := hH.t.nv
 unfold uC
 generalize zL : iR s x z a = dz at hst ⊢
 obtain ⟨st, k, id⟩ := dz
 dsimp only at hst ⊢
 obtain ⟨hbu, hbn⟩ := hz.box a
 refine XK.dD (p := bG f hL s z x) (F := F) (vs := [.pointer (some ⟨f, 0, none⟩)]) Tryz.func74 rfl Tryz.ntmps74 (by simp) hp hF ?_
 refine XK.take 0 0 rfl rfl ?_
 dsimp only [List.set]
 refine XK.lY 0 rfl fun L => ?_
 dsimp only [List.set]
 have aBb : (cD hL.h L s z)[15]? = some (.int .i64 (l : Int)) := by rw [← hl]; rfl
 refine XK.seq ?_
 refine XK.region ?_
 refine bJ ?_
 refine XK.aE ?_
 refine XK.seq ?_
 refine XK.region ?_
 refine bJ ?_
 refine bJ ?_
 refine bJ ?_
 refine kd (bR rfl (Rd.fN 0 rfl aBb)) ?_
 refine kd (Fi rfl rfl (c := ((1 - l : Nat) : Int)) (by rw [show (1 : Int) - (l : Int) = ((1 - l : Nat) : Int) by omega]; exact bA (by omega))) ?_
 refine bJ ?_
 refine XK.aE ?_
 refine XK.cut (fun e R H => e = [(3, .int .i64 (a : Int)), (0, .pointer (some ⟨f, 0, none⟩))] ∧ R = [⟨w, fun b => b < w.heap.size ∧ ¬ F b⟩] ∧ H = [eE f hL.h L s z, HP.many [HP.emp, cK hL s x]]) ?_ ?_
 ·refine XK.seq ?_
  refine XK.region ?_
  refine bJ ?_
  refine bJ ?_
  refine bJ ?_
  refine bJ ?_
  refine kd (fJ (1 - l) (11 + (1 - l) * 2)) ?_
  refine bJ ?_
  refine kd (bR rfl (Rd.fN 0 rfl (aBq (by omega)))) ?_
  refine bJ ?_
  refine XK.aE ?_
  rcases hab with ⟨h2, rfl⟩ | ⟨h2, rfl⟩
  ·refine XK.if_ rfl (fun h => absurd h2 h) (fun _ => ?_)
   refine XK.skip ?_
   refine XK.norm ?_
   exact XK.aK [(3, .int .i64 ((1 - l : Nat) : Int)), (0, .pointer (some ⟨f, 0, none⟩))] (XK.meet ⟨rfl, rfl, rfl⟩)
  ·refine XK.if_ rfl (fun _ => ?_) (fun h => absurd h2 h)
   refine XK.region ?_
   refine bJ ?_
   refine bJ ?_
   refine bJ ?_
   refine kd (bR rfl (Rd.fN 0 rfl aBb)) ?_
   refine bJ ?_
   refine XK.aE ?_
   exact XK.aK [(3, .int .i64 (a : Int)), (0, .pointer (some ⟨f, 0, none⟩))] (XK.meet ⟨rfl, rfl, rfl⟩)
 rintro _ _ _ ⟨rfl, rfl, rfl⟩
 refine XK.go ?_
 refine kd (fJ a (11 + a * 2)) ?_
 refine XK.go ?_
 refine kd (bR rfl (Rd.fN 0 rfl (aBq ha))) ?_
 refine XK.go ?_
 refine XK.if_ rfl (fun h => absurd h1 h) (fun _ => ?_)
 refine XK.go ?_
 refine XK.take 0 0 rfl rfl ?_
 dsimp only [List.set]
 refine iE rfl rfl ?_ (hs := iG.mk 0 rfl dS.h rfl (by simp [cD]))
 dsimp only [List.set]
 rw [show (cD hL.h L s z).set (0 + 15) (.int .i64 (a : Int)) = cD hL.h L s { z with last := (a : Int) } from rfl]
 refine XK.aX 0 0 rfl rfl ?_
 dsimp only [List.set]
 change XK _ _ _ _ _ [eE f hL.h L s { z with last := (a : Int) }, HP.many [HP.emp, cK hL s x]]
 generalize lH : ({ z with last := (a : Int) } : bN) = z1
 have e1 : z1.x = z.x := by rw [← lH]
 have e2 : z1.y = z.y := by rw [← lH]
 have e3 : fP z1 a = fP z a := by rw [← lH]; rfl
 refine XK.go ?_
 refine kd (bR rfl (Rd.fN 0 rfl rfl)) ?_
 refine XK.go ?_
 refine kD (n := s.aA.length) 8 (el := 3) (z := .int .i64 0) (by kernel_rfl) (by kernel_rfl) rfl rfl rfl (by omega) (by omega) (by decide) fun gm => ?_
 refine XK.go ?_
 refine XK.take 2 1 rfl rfl ?_
 dsimp only [List.set]
 rw [show List.replicate s.aA.length (Value.int .i64 0) = aO (gI (iT s x) ((iT s x).map fun _ => 0) 0) by
  rw [Ih]
  refine List.ext_getElem? fun j => ?_
  simp only [aO, iT, List.map_map, List.getElem?_replicate, List.getElem?_map]
  by_cases h : j < s.aA.length
  ·rw [if_pos h, List.getElem?_range h]; rfl
  ·rw [if_neg h, List.getElem?_eq_none (by simp; omega)]; rfl]
 refine XK.aK [(46, .int .i64 0), (45, .int .i64 s.aA.length), (4, .slice (some ⟨gm, 0, none⟩) s.aA.length s.aA.length), (3, .int .i64 (a : Int)), (0, .pointer (some ⟨f, 0, none⟩))] ?_
 have Ja : (iT s x).length = s.aA.length := by simp [iT]
 refine XK.loop (fun m e R H => ∃ i : Nat, i ≤ s.aA.length ∧ m = s.aA.length - i ∧ e = [(46, .int .i64 i), (45, .int .i64 s.aA.length), (4, .slice (some ⟨gm, 0, none⟩) s.aA.length s.aA.length), (3, .int .i64 (a : Int)), (0, .pointer (some ⟨f, 0, none⟩))] ∧ R = [⟨w, fun b => b < w.heap.size ∧ ¬ F b⟩] ∧ H = [cK hL s x, HP.aF gm 3 (aO (gI (iT s x) ((iT s x).map fun _ => 0) i)), eE f hL.h L s z1, HP.many [HP.emp, HP.emp]]) s.aA.length ⟨0, by omega, rfl, rfl, rfl, rfl⟩ fun m e R H hI => ?_
 obtain ⟨i, hi, rfl, rfl, rfl, rfl⟩ := hI
 have Jp := Ij (vs := iT s x) (old := (iT s x).map fun _ => 0) (n := s.aA.length) Ja (by simp [iT]) hi
 have eN : (aO (gI (iT s x) ((iT s x).map fun _ => 0) i)).length = s.aA.length := by simp [aO, Jp]
 refine XK.go ?_
 refine XK.if_ rfl (fun hlt => ?_) (fun hge => ?_)
 ·have hlt : i < s.aA.length := by omega
  have hwi : (iT s x)[i]? = some (iA x.wt i : Int) := by simp [iT, hlt]
  have eB : (aO (gI (iT s x) ((iT s x).map fun _ => 0) i)).set i (.int .i64 (iA x.wt i : Nat)) = aO (gI (iT s x) ((iT s x).map fun _ => 0) (i + 1)) := by
   rw [← Ii (by simp) hwi, aO, aO, List.map_set]
  refine XK.go ?_
  refine kd (bR rfl (Rd.fN 2 rfl rfl)) ?_
  refine XK.go ?_
  refine aZ (fun w1 t => aFJ hL s x w1 i hlt (t.iW 0 rfl aV hok)) ?_
  refine XK.go ?_
  refine kd (dat i i) ?_
  refine iE rfl rfl ?_
  dsimp only [List.set]
  rw [eB]
  refine XK.go ?_
  refine XK.aK [(46, .int .i64 (i + 1 : Nat)), (45, .int .i64 s.aA.length), (4, .slice (some ⟨gm, 0, none⟩) s.aA.length s.aA.length), (3, .int .i64 (a : Int)), (0, .pointer (some ⟨f, 0, none⟩))] ?_
  exact XK.round (s.aA.length - (i + 1)) (by omega) ⟨i + 1, hlt, rfl, rfl, rfl, rfl⟩
 obtain rfl : i = s.aA.length := by omega
 rw [Ik Ja (by simp [iT])]
 refine XK.aX 2 1 rfl rfl ?_
 dsimp only [List.set]
 refine XK.go ?_
 refine XK.Lj (fun e R H => ∃ g7 : Nat, e = [(7, .pointer (some ⟨g7, 0, none⟩)), (6, .int .i32 st), (3, .int .i64 (a : Int)), (0, .pointer (some ⟨f, 0, none⟩))] ∧ R = [⟨w, fun b => b < w.heap.size ∧ ¬ F b⟩] ∧ H = [HP.aF g7 63 [.int .u8 k, .int .i64 id], eE f hL.h L s z1, HP.many [HP.emp, cK hL s x]]) ?_ ?_
 ·refine XK.eR [1, 2, 3, 5, 6, 7, 12, 13, 14, 15, 16, 19, 20] ?_
  refine XB.mv 0 ?_
  refine XB.mv 4 ?_
  refine XB.mv 8 ?_
  refine XB.mv 9 ?_
  refine XB.mv 10 ?_
  refine XB.mv 11 ?_
  refine XB.q 1 ?_
  refine XB.q 2 ?_
  refine XB.q 3 ?_ (dN := pR rfl (aD.fN 1 rfl (vs := [.slice L.a1.1 s.aB.length L.a1.2, .slice L.a2.1 s.domains.length L.a2.2, .slice L.a3.1 s.aW.length L.a3.2, .slice L.a4.1 s.aA.length L.a4.2]) rfl))
  refine XB.q 5 ?_
  refine XB.q 6 ?_
  refine XB.q 7 ?_ (dN := pR rfl (aD.fN 1 rfl (vs := [.slice L.x1.1 z1.x.d.length L.x1.2, .slice L.x2.1 z1.x.c.length L.x2.2, .slice L.x3.1 z1.x.l.length L.x3.2, .slice L.y1.1 z1.y.d.length L.y1.2, .slice L.y2.1 z1.y.c.length L.y2.2, .slice L.y3.1 z1.y.l.length L.y3.2]) rfl))
  refine XB.q 12 ?_
  refine XB.q 13 ?_
  refine XB.q 14 ?_ (dN := fJ (sz := 2) a (11 + a * 2))
  refine XB.q 15 ?_
  refine XB.q 16 ?_ (dN := bR rfl (Rd.fN 1 rfl (v := .slice (Ab L a).1 (fP z1 a).length (Ab L a).2) (by rw [show 11 + a * 2 + 1 = 12 + a * 2 by omega]; exact aGE ha)))
  have wI : ∀ H : List HP, H[H.length - 2]? = some (eE f hL.h L s z1) → (H.length = 3 ∨ H.length = 4) → H[H.length - 3]? = some (HP.aF gm 3 (aO (iT s x))) → ∀ w1, St w [⟨w, fun b => b < w.heap.size ∧ ¬ F b⟩] H w1 → Calls Tryz.prog 32 #[.agg #[.slice L.a1.1 s.aB.length L.a1.2, .slice L.a2.1 s.domains.length L.a2.2, .slice L.a3.1 s.aW.length L.a3.2, .slice L.a4.1 s.aA.length L.a4.2], .agg #[.slice L.x1.1 z1.x.d.length L.x1.2, .slice L.x2.1 z1.x.c.length L.x2.2, .slice L.x3.1 z1.x.l.length L.x3.2, .slice L.y1.1 z1.y.d.length L.y1.2, .slice L.y2.1 z1.y.c.length L.y2.2, .slice L.y3.1 z1.y.l.length L.y3.2], .slice (some ⟨gm, 0, none⟩) s.aA.length s.aA.length, .int .i64 (a : Int), .slice (Ab L a).1 (fP z1 a).length (Ab L a).2] w1 (Rt (Xb (st, k, id)) w1) := fun H h2 _ h3 w1 t => by
   have kf := t.qY _ h2
   have := aHz (all w1) (all w1) s _ _ _ _ _ L.a1.2 _ L.a2.2 _ L.a3.2 _ L.a4.2 _ _ _ _ _ _ _ L.x1.2 _ L.x2.2 _ L.x3.2 _ L.y1.2 _ L.y2.2 _ L.y3.2 z1.x z1.y (some ⟨gm, 0, none⟩) s.aA.length s.aA.length (iT s x) a _ _ (Ab L a).2 (fP z1 a) w1 kf.so hH.t (Piece.Le.refl _) kf.Rm (Piece.Le.refl _) (t.uF h3 (by simp [aO, Ja])) Ja.symm ha (kf.box ha) rfl (by rw [e3]; exact hbn) (by rw [e3]; exact hbu)
   rw [show jZ s z1.x z1.y (iT s x) a (fP z1 a) = (st, k, id) by rw [e1, e2, e3]; exact zL] at this
   exact this
  refine XB.either 17 21 rfl rfl (by kernel_rfl) ?_ ?_
  ·refine aZ (fun w1 t => wI _ rfl (.inl rfl) rfl w1 t) ?_
   refine XB.bk ?_
   refine XB.mv 18 ?_
   refine XB.q 19 ?_
   refine XB.q 20 ?_
   refine XB.next 21 rfl (by kernel_rfl) ?_
   refine bZ (cs := [.int .u8 0, .int .i64 0]) (aM (by kernel_rfl)) (by decide) fun g7 => ?_
   refine XB.bk ?_
   refine XB.next 22 rfl (by kernel_rfl) ?_
   refine bJ ?_
   refine XB.bk ?_
   refine XB.next 23 rfl (by kernel_rfl) ?_
   refine zH 0 rfl ?_
   dsimp only [List.set]
   refine XB.bt ?_
   refine XB.done (by kernel_rfl) ?_
   refine XK.norm ?_
   refine XK.weak [0, 2, 3] rfl (by decide) (fun _ h => h) ?_
   exact XK.aK [(7, .pointer (some ⟨g7, 0, none⟩)), (6, .int .i32 st), (3, .int .i64 (a : Int)), (0, .pointer (some ⟨f, 0, none⟩))] (XK.meet ⟨g7, rfl, rfl, rfl⟩)
  ·refine bZ (cs := [.int .u8 0, .int .i64 0]) (aM (by kernel_rfl)) (by decide) fun g7 => ?_
   refine XB.bk ?_
   refine XB.next 17 rfl (by kernel_rfl) ?_
   refine aZ (fun w1 t => wI _ rfl (.inr rfl) rfl w1 t) ?_
   refine XB.bk ?_
   refine XB.mv 18 ?_
   refine XB.q 19 ?_
   refine XB.q 20 ?_
   refine XB.next 22 rfl (by kernel_rfl) ?_
   refine bJ ?_
   refine XB.bk ?_
   refine XB.next 23 rfl (by kernel_rfl) ?_
   refine zH 0 rfl ?_
   dsimp only [List.set]
   refine XB.bt ?_
   refine XB.done (by kernel_rfl) ?_
   refine XK.norm ?_
   refine XK.weak [0, 2, 3] rfl (by decide) (fun _ h => h) ?_
   exact XK.aK [(7, .pointer (some ⟨g7, 0, none⟩)), (6, .int .i32 st), (3, .int .i64 (a : Int)), (0, .pointer (some ⟨f, 0, none⟩))] (XK.meet ⟨g7, rfl, rfl, rfl⟩)
 rintro _ _ _ ⟨g7, rfl, rfl, rfl⟩
 refine XK.go ?_
 refine XK.if_ rfl (fun hk => ?_) (fun hk => ?_)
 ·have hk : k = 0 := hk
  rw [if_pos hk]
  refine XK.jJ 1 (f := fun L : eC => eE f hL.h L s z1) L rfl ?_
  dsimp only [List.set]
  refine XK.weak [1, 0, 2] rfl (by decide) (fun _ h => h) ?_
  refine XK.aX 1 0 rfl rfl ?_
  dsimp only [List.set]
  refine XK.go ?_
  refine fE 1 (bG f hL s (gR s x z1 a st) x) (fun w1 F1 t h1 h2 h3 => Vu f hL s z1 x hH aV hok a ha st (fun h0 => by rw [e3]; exact hst hk h0) w1 F1 h1 h2) ?_
  dsimp only [List.set]
  refine XK.go ?_
  exact XK.aI rfl rfl fun w1 t => ⟨rfl, t.turns hF (by simp) (i := 1) rfl⟩
 ·rw [if_neg hk]
  rw [show ({ z with last := (a : Int), x := cE z.x a k id, y := cS z.y a k id, at_ := (a : Int), kind := k, id := id } : bN) = { z1 with x := cE z1.x a k id, y := cS z1.y a k id, at_ := (a : Int), kind := k, id := id } by rw [← lH]]
  refine XK.go ?_
  refine XK.eR [2, 3, 4, 6] ?_
  refine XB.mv 0 ?_
  refine XB.mv 1 ?_
  refine XB.mv 5 ?_
  refine XB.q 2 ?_
  refine XB.q 3 ?_
  refine XB.q 4 ?_ (dN := pR rfl (aD.fN 1 rfl (vs := [.slice L.x1.1 z1.x.d.length L.x1.2, .slice L.x2.1 z1.x.c.length L.x2.2, .slice L.x3.1 z1.x.l.length L.x3.2, .slice L.y1.1 z1.y.d.length L.y1.2, .slice L.y2.1 z1.y.c.length L.y2.2, .slice L.y3.1 z1.y.l.length L.y3.2]) rfl))
  refine XB.q 6 ?_
  refine XB.next 7 rfl (by kernel_rfl) ?_
  refine iY [] (f := 151) (fi := []) (ca := []) (by kernel_rfl) rfl rfl (by decide) (by simp) (fun v w w' => jP (fresh w w') (cE z1.x a k id) (cS z1.y a k id) v) (fun w1 t => by
   have kf := t.qY 1 rfl
   exact aHd (all w1) _ _ _ _ _ _ _ _ _ _ _ _ z1.x z1.y a k id w1 (Piece.Le.refl _) ha (by rw [e1]; exact hz.sx) (by rw [e2]; exact hz.sy) kf.st.1 kf.st.2.1 kf.st.2.2.1 kf.st.2.2.2.1 kf.st.2.2.2.2.1 kf.st.2.2.2.2.2) ?_
  rintro _ w2 q2 Tt jW _ zO
  have zO := zO (by simp)
  obtain ⟨x1, x2, x3, y1, y2, y3, rfl, Bq⟩ := Tt.P
  have Bq := lP.le _ _ jW (Bq L.a1 L.a2 L.a3 L.a4 L.b0 L.b1)
  refine XK.Ni (Φ := lP ⟨L.a1, L.a2, L.a3, L.a4, x1, x2, x3, y1, y2, y3, L.b0, L.b1⟩ (cE z1.x a k id) (cS z1.y a k id)) (hm := lP.le) zO (fun p hp b hb => by simp at hp; subst hp; exact hb.1) Bq ?_
  refine XB.bt ?_
  refine XB.next 8 rfl (by kernel_rfl) ?_
  refine bJ ?_
  refine XB.bt ?_
  refine XB.next 9 rfl (by kernel_rfl) ?_
  refine bJ ?_
  refine XB.bt ?_
  refine XB.next 10 rfl (by kernel_rfl) ?_
  refine XK.take 2 0 rfl rfl ?_
  dsimp only [List.set]
  refine kC 0 (t := 150) rfl rfl rfl (by kernel_rfl) (by simp [Value.cells, Value.oneCell', rK]) (by simp [Value.cells, cD]) ?_
  dsimp only [List.set]
  rw [show cC (cD hL.h L s z1) (0 + 5) (Value.agg #[rK x1 (cE z1.x a k id).d.length, rK x2 (cE z1.x a k id).c.length, rK x3 (cE z1.x a k id).l.length, rK y1 (cS z1.y a k id).d.length, rK y2 (cS z1.y a k id).c.length, rK y3 (cS z1.y a k id).l.length]).cells.toList = cD hL.h ⟨L.a1, L.a2, L.a3, L.a4, x1, x2, x3, y1, y2, y3, L.b0, L.b1⟩ s { z1 with x := cE z1.x a k id, y := cS z1.y a k id } from rfl]
  refine XB.bt ?_
  refine XB.done (by kernel_rfl) ?_
  refine XK.norm ?_
  refine XK.take 3 2 rfl rfl ?_
  dsimp only [List.set]
  refine XK.weak [1, 2, 3, 4, 5] rfl (by decide) (R' := [⟨w, fun b => b < w.heap.size ∧ ¬ F b⟩]) (by simp) ?_
  refine XK.weak [1, 0, 2, 3, 4] rfl (by decide) (fun _ h => h) ?_
  refine XK.aX 2 2 rfl rfl ?_
  dsimp only [List.set]
  generalize lG : ({ z1 with x := cE z1.x a k id, y := cS z1.y a k id } : bN) = z2
  rw [show ({ z1 with x := cE z1.x a k id, y := cS z1.y a k id, at_ := (a : Int), kind := k, id := id } : bN) = { z2 with at_ := (a : Int), kind := k, id := id } by rw [← lG]]
  generalize hL2 : (⟨L.a1, L.a2, L.a3, L.a4, x1, x2, x3, y1, y2, y3, L.b0, L.b1⟩ : eC) = L2
  refine XK.seq ?_
  refine XK.Lj (fun e R H => e = [(0, .pointer (some ⟨f, 0, none⟩))] ∧ R = [⟨w, fun b => b < w.heap.size ∧ ¬ F b⟩] ∧ H = [HP.aF f 150 (cD hL.h L2 s { z2 with at_ := (a : Int), kind := k, id := id }), HP.aF g7 63 [.int .u8 k, .int .i64 id], HP.many [HP.emp, HP.dV (pW L s) (pW.le (L := L) (s := s)), HP.dV (lP L2 (cE z1.x a k id) (cS z1.y a k id)) (lP.le (L := L2) (x := cE z1.x a k id) (y := cS z1.y a k id)), HP.dV (cB L.b0 z1.w0) (cB.le (a := L.b0) (l := z1.w0)), HP.dV (cB L.b1 z1.w1) (cB.le (a := L.b1) (l := z1.w1))], HP.many [HP.emp, cK hL s x]]) ?_ ?_
  ·refine XK.eR [] ?_
   refine XB.mv 0 ?_
   refine XB.mv 1 ?_
   refine XB.mv 2 ?_
   refine XB.either 3 4 rfl rfl (by kernel_rfl) ?_ ?_
   ·refine bJ ?_
    refine XB.bt ?_
    refine XB.next 4 rfl (by kernel_rfl) ?_
    refine bJ ?_
    refine XB.bt ?_
    refine XB.next 5 rfl (by kernel_rfl) ?_
    refine bJ ?_
    refine XB.bt ?_
    refine XB.next 6 rfl (by kernel_rfl) ?_
    refine iE rfl rfl ?_ (hs := iG.mk 0 rfl dS.h rfl (by simp [cD]))
    dsimp only [List.set]
    rw [show (cD hL.h L2 s z2).set (0 + 16) (.int .i64 (a : Int)) = cD hL.h L2 s { z2 with at_ := (a : Int) } from rfl]
    refine XB.bt ?_
    refine XB.next 7 rfl (by kernel_rfl) ?_
    refine bJ ?_
    refine XB.bt ?_
    refine XB.next 8 rfl (by kernel_rfl) ?_
    refine bJ ?_
    refine XB.bt ?_
    refine XB.next 9 rfl (by kernel_rfl) ?_
    refine kC 0 (t := 150) rfl rfl rfl (by kernel_rfl) (by simp [Value.cells, Value.oneCell']) (by simp [Value.cells, cD]) ?_
    dsimp only [List.set]
    rw [show cC (cD hL.h L2 s { z2 with at_ := (a : Int) }) (0 + 17) (Value.agg #[.int .u8 k, .int .i64 id]).cells.toList = cD hL.h L2 s { z2 with at_ := (a : Int), kind := k, id := id } from rfl]
    refine XB.bt ?_
    refine XB.done (by kernel_rfl) ?_
    refine XK.norm ?_
    exact XK.aK [(0, .pointer (some ⟨f, 0, none⟩))] (XK.meet ⟨rfl, rfl, rfl⟩)
   ·refine bJ ?_
    refine XB.bt ?_
    refine XB.either 3 5 rfl rfl (by kernel_rfl) ?_ ?_
    ·refine bJ ?_
     refine XB.bt ?_
     refine XB.next 5 rfl (by kernel_rfl) ?_
     refine bJ ?_
     refine XB.bt ?_
     refine XB.next 6 rfl (by kernel_rfl) ?_
     refine iE rfl rfl ?_ (hs := iG.mk 0 rfl dS.h rfl (by simp [cD]))
     dsimp only [List.set]
     rw [show (cD hL.h L2 s z2).set (0 + 16) (.int .i64 (a : Int)) = cD hL.h L2 s { z2 with at_ := (a : Int) } from rfl]
     refine XB.bt ?_
     refine XB.next 7 rfl (by kernel_rfl) ?_
     refine bJ ?_
     refine XB.bt ?_
     refine XB.next 8 rfl (by kernel_rfl) ?_
     refine bJ ?_
     refine XB.bt ?_
     refine XB.next 9 rfl (by kernel_rfl) ?_
     refine kC 0 (t := 150) rfl rfl rfl (by kernel_rfl) (by simp [Value.cells, Value.oneCell']) (by simp [Value.cells, cD]) ?_
     dsimp only [List.set]
     rw [show cC (cD hL.h L2 s { z2 with at_ := (a : Int) }) (0 + 17) (Value.agg #[.int .u8 k, .int .i64 id]).cells.toList = cD hL.h L2 s { z2 with at_ := (a : Int), kind := k, id := id } from rfl]
     refine XB.bt ?_
     refine XB.done (by kernel_rfl) ?_
     refine XK.norm ?_
     exact XK.aK [(0, .pointer (some ⟨f, 0, none⟩))] (XK.meet ⟨rfl, rfl, rfl⟩)
    ·refine bJ ?_
     refine XB.bt ?_
     refine XB.either 3 6 rfl rfl (by kernel_rfl) ?_ ?_
     ·refine bJ ?_
      refine XB.bt ?_
      refine XB.next 6 rfl (by kernel_rfl) ?_
      refine iE rfl rfl ?_ (hs := iG.mk 0 rfl dS.h rfl (by simp [cD]))
      dsimp only [List.set]
      rw [show (cD hL.h L2 s z2).set (0 + 16) (.int .i64 (a : Int)) = cD hL.h L2 s { z2 with at_ := (a : Int) } from rfl]
      refine XB.bt ?_
      refine XB.next 7 rfl (by kernel_rfl) ?_
      refine bJ ?_
      refine XB.bt ?_
      refine XB.next 8 rfl (by kernel_rfl) ?_
      refine bJ ?_
      refine XB.bt ?_
      refine XB.next 9 rfl (by kernel_rfl) ?_
      refine kC 0 (t := 150) rfl rfl rfl (by kernel_rfl) (by simp [Value.cells, Value.oneCell']) (by simp [Value.cells, cD]) ?_
      dsimp only [List.set]
      rw [show cC (cD hL.h L2 s { z2 with at_ := (a : Int) }) (0 + 17) (Value.agg #[.int .u8 k, .int .i64 id]).cells.toList = cD hL.h L2 s { z2 with at_ := (a : Int), kind := k, id := id } from rfl]
      refine XB.bt ?_
      refine XB.done (by kernel_rfl) ?_
      refine XK.norm ?_
      exact XK.aK [(0, .pointer (some ⟨f, 0, none⟩))] (XK.meet ⟨rfl, rfl, rfl⟩)
     ·refine iE rfl rfl ?_ (hs := iG.mk 0 rfl dS.h rfl (by simp [cD]))
      dsimp only [List.set]
      rw [show (cD hL.h L2 s z2).set (0 + 16) (.int .i64 (a : Int)) = cD hL.h L2 s { z2 with at_ := (a : Int) } from rfl]
      refine XB.bt ?_
      refine XB.next 3 rfl (by kernel_rfl) ?_
      refine bJ ?_
      refine XB.bt ?_
      refine XB.next 7 rfl (by kernel_rfl) ?_
      refine bJ ?_
      refine XB.bt ?_
      refine XB.next 8 rfl (by kernel_rfl) ?_
      refine bJ ?_
      refine XB.bt ?_
      refine XB.next 9 rfl (by kernel_rfl) ?_
      refine kC 0 (t := 150) rfl rfl rfl (by kernel_rfl) (by simp [Value.cells, Value.oneCell']) (by simp [Value.cells, cD]) ?_
      dsimp only [List.set]
      rw [show cC (cD hL.h L2 s { z2 with at_ := (a : Int) }) (0 + 17) (Value.agg #[.int .u8 k, .int .i64 id]).cells.toList = cD hL.h L2 s { z2 with at_ := (a : Int), kind := k, id := id } from rfl]
      refine XB.bt ?_
      refine XB.done (by kernel_rfl) ?_
      refine XK.norm ?_
      exact XK.aK [(0, .pointer (some ⟨f, 0, none⟩))] (XK.meet ⟨rfl, rfl, rfl⟩)
  rintro _ _ _ ⟨rfl, rfl, rfl⟩
  refine XK.aX 1 0 rfl rfl ?_
  dsimp only [List.set]
  subst hL2
  subst lG
  refine XK.jJ 1 (f := fun L : eC => eE f hL.h L s { ({ z1 with x := cE z1.x a k id, y := cS z1.y a k id } : bN) with at_ := (a : Int), kind := k, id := id }) ⟨L.a1, L.a2, L.a3, L.a4, x1, x2, x3, y1, y2, y3, L.b0, L.b1⟩ rfl ?_
  dsimp only [List.set]
  refine XK.weak [1, 0, 2] rfl (by decide) (fun _ h => h) ?_
  refine XK.aX 1 0 rfl rfl ?_
  dsimp only [List.set]
  refine XK.go ?_
  exact XK.aI rfl rfl fun w1 t => ⟨rfl, t.turns hF (by simp) (i := 1) rfl⟩
theorem aBl (f : Nat) (hL : HL) (s : aC) (z : bN) (x : aT) (hH : s.bO) (aV : fB hL s) (hok : bQ s x) (hz : vO s z) (hst : ∀ a, nY z = some a → (iR s x z a).2.1 = 0 → (iR s x z a).1 = 0 → tP (fP z a)) (w : World) (F : Nat → Prop) (hp : (bG f hL s z x).sat F w) (hF : ∀ b, F b → b < w.heap.size) :
  Calls Tryz.prog 74 #[.pointer (some ⟨f, 0, none⟩)] w (fun y w' => y = .returned (.bool (iZ s x z).2) ∧ ∃ F', (bG f hL s (iZ s x z).1 x).sat F' w' ∧ bI w w' F F') := by
 unfold iZ
 cases hn : nY z with
 | none => exact aGx f hL s z x hz.la hn w F hp hF
 | some a =>
  obtain ⟨l, hl, gB⟩ : ∃ l : Nat, z.last = (l : Int) ∧ l ≤ 1 := by
   rcases hz.la with h | h
   ·exact ⟨0, h, by omega⟩
   ·exact ⟨1, h, by omega⟩
  have hn2 := hn
  unfold nY at hn
  rw [show (1 - z.last).toNat = 1 - l by omega, show z.last.toNat = l by omega] at hn
  by_cases h2 : xU z (1 - l) = 1
  ·rw [if_pos h2] at hn
   obtain rfl := Option.some.inj hn
   exact aBk f hL s z x hH aV hok hz l _ hl gB (by omega) (.inl ⟨h2, rfl⟩) h2 (hst _ hn2) w F hp hF
  ·rw [if_neg h2] at hn
   by_cases h3 : xU z l = 1
   ·rw [if_pos h3] at hn
    obtain rfl := Option.some.inj hn
    exact aBk f hL s z x hH aV hok hz l _ hl gB (by omega) (.inr ⟨h2, rfl⟩) h3 (hst _ hn2) w F hp hF
   ·rw [if_neg h3] at hn
    cases hn
end
section
set_option maxHeartbeats 4000000
set_option maxRecDepth 20000
section
variable {P : Program} {N : cN} {w0 w : World} {K : Act → World → Prop} {e : Env} {R : List Piece} {H H' : List HP}
theorem XK.Vz {nn : Nat} {F : Nat → Prop} {p : HP} {f : FuncId} {fn : Func} {c : Code} {vs : List Value} {Post : Ending → World → Prop} (hf : P.funcs[f]? = some fn) (hb : fn.body = some c) (hN : fn.ntmps = nn) (hl : vs.length ≤ nn) (hp : p.sat F w) (hF : ∀ b, F b → b < w.heap.size)
  (h : XK ⟨nn, []⟩ w (c.wp P (bodyPostD P fn Post)) (yO 0 vs) [⟨w, fun b => b < w.heap.size ∧ ¬ F b⟩] [p]) : Calls P f vs.toArray w Post := by
 refine calls_of_wp_defers hf hb (h _ _ ⟨?_, rfl, fun t v hv => ?_⟩ (St.Zd hp hF))
 ·simp; omega
 ·obtain ⟨_, h2⟩ := Lt vs 0 t v hv
  rw [Nat.sub_zero] at h2
  have hlt : t < vs.length := by
   rcases Nat.lt_or_ge t vs.length with h | h
   ·exact h
   ·rw [List.getElem?_eq_none h] at h2; cases h2
  rw [Array.getElem?_append_left (by simpa using hlt)]
  simpa using h2
theorem XK.Ir {nn : Nat} {f : FuncId} {fi ca : List Value} {fn : Func} {Post : Ending → World → Prop} {x : Exit} (hx : x = .ret ∨ x = .normal) (hf : fK P f = true)
  (eN : ∀ w, CallsD P f (fi ++ ca).toArray .returning w fun y u' w' => y = .returned (.tuple #[]) ∧ u' = .returning ∧ w' = w) (hr : fn.results = #[])
  (h : ∀ w, St w0 R H w → Post (.returned (.tuple #[])) w) : XK ⟨nn, [zY f fi ca]⟩ w0 (bodyPostD P fn Post x) e R H := by
 have key : XK ⟨nn, [zY f fi ca]⟩ w0 (bodyPostD P fn Post .ret) e R H := XK.aFf (H' := H) hf (fun w1 st => (eN w1).mono fun y u' w' h => by
  obtain ⟨h1, h2, rfl⟩ := h
  exact ⟨⟨_, h1⟩, h2, st⟩) fun a w1 _ st => ⟨.tuple #[], results_none hr _ _ _, h w1 st⟩
 rcases hx with rfl | rfl
 ·exact key
 ·exact key
end
theorem Km (w : World) : CallsD Tryz.prog 73 #[] .returning w fun e u' w' => e = .returned (.tuple #[]) ∧ u' = .returning ∧ w' = w := by
 refine callsD_of_wpS Tryz.func73 rfl fun c₀ cs hu => ?_
 apply wpS_region
 simp [wpOpsS, go_sem, recoverD, hu, Tryz.ntmps73, Exit.thenS]
 cases c₀
 simp_all [bodyPostS, results, Tryz.results73]
section
variable {N : cN} {w0 w : World} {e : Env} {R : List Piece} {H : List HP} {K : Act → World → Prop} {f : Nat} {hL : HL} {s : aC} {z : bN} {x : aT}
theorem Rd.xH (i : Nat) {o : Nat} {v : Value} (hi : H[i]? = some (bG f hL s z x)) (hv : ∀ L, (cD hL.h L s z)[o]? = some v) : Rd w0 R H f o v := fun w t => by
 obtain ⟨F, ⟨G, g1, g2, _⟩, h2, _⟩ := t.chunk hi
 obtain ⟨L, hL'⟩ := g1 0 _ rfl
 have := ((eE.reads hL' fun b hb => h2 b (g2 0 b hb)).r0.at_ (hv L)).2
 rwa [Nat.zero_add] at this
end
theorem aBm (f : Nat) (hL : HL) (s : aC) (z : bN) (x : aT) (hH : s.bO) (aV : fB hL s) (hok : bQ s x) (hz : vO s z) (hst : ∀ a, nY z = some a → (iR s x z a).2.1 = 0 → (iR s x z a).1 = 0 → tP (fP z a)) (kQ : z.at_ < 0) (hno : (iZ s x z).2 = false) (w : World) (F : Nat → Prop) (hp : (bG f hL s z x).sat F w) (hF : ∀ b, F b → b < w.heap.size) :
  Calls Tryz.prog 20 #[.pointer (some ⟨f, 0, none⟩)] w (fun y w' => y = .returned (.tuple #[]) ∧ ∃ F', (bG f hL s (iZ s x z).1 x).sat F' w' ∧ bI w w' F F') := by
 refine XK.Vz (vs := [.pointer (some ⟨f, 0, none⟩)]) (p := bG f hL s z x) Tryz.func20 rfl Tryz.ntmps20 (by simp) hp hF ?_
 refine XK.go ?_
 refine Qs (f := 73) (fi := []) (ca := []) rfl ?_
 refine XK.go ?_
 refine kd (bR rfl (Rd.xH 0 rfl fun _ => rfl)) ?_
 refine XK.go ?_
 refine bT (t := 8) rfl (fun _ => ?_) (fun h => absurd kQ h)
 refine XK.go ?_
 refine fE 0 (bG f hL s (iZ s x z).1 x) (fun w1 F1 t h1 h2 h3 => aBl f hL s z x hH aV hok hz hst w1 F1 h1 h2) ?_
 dsimp only [List.set]
 rw [hno]
 refine XK.go ?_
 exact XK.Ir (.inl rfl) (by kernel_rfl) Km rfl fun w1 t => ⟨rfl, t.turns hF (by simp) (i := 0) rfl⟩
end
section
theorem aEr (a b : Int) : 0 ≤ Nl a b ∧ Nl a b < 4294967296 := Yt _
theorem aDS (w low many v : Int) : 0 ≤ (eU w low many v).1 ∧ (eU w low many v).1 < 4294967296 := by
 unfold eU
 split
 ·exact ⟨by decide, by decide⟩
 ·split
  ·exact ⟨by decide, by decide⟩
  ·unfold Bh
   split
   ·exact ⟨by decide, by decide⟩
   ·exact aEr _ _
theorem aEc (m t p k : Int) : 0 ≤ (eF m t p k).1 ∧ (eF m t p k).1 < 4294967296 := by
 unfold eF
 split
 ·exact ⟨by dsimp only; decide, by dsimp only; decide⟩
 ·split
  ·exact ⟨by dsimp only; decide, by dsimp only; decide⟩
  ·split
   ·exact ⟨by dsimp only; decide, by dsimp only; decide⟩
   ·split
    ·exact ⟨by dsimp only; decide, by dsimp only; decide⟩
    ·exact aDS _ _ _ _
theorem nM.snoc {l : List Int} {x : Int} (h : nM l) (hx : 0 ≤ x ∧ x < 4294967296) : nM (l ++ [x]) := by
 intro y hy
 rcases List.mem_append.1 hy with hy | hy
 ·exact h y hy
 ·simp at hy; subst hy; exact hx
theorem nM.set {l : List Int} {x : Int} {i : Nat} (h : nM l) (hx : 0 ≤ x ∧ x < 4294967296) : nM (l.set i x) := by
 intro y hy
 rcases List.mem_or_eq_of_mem_set hy with hy | hy
 ·exact h y hy
 ·subst hy; exact hx
theorem nM.take {l : List Int} {n : Nat} (h : nM l) : nM (l.take n) := fun y hy => h y (List.mem_of_mem_take hy)
end
section
theorem Tl {s : aC} (h : s.bO) : bQ s (hw0 s) := by
 refine ⟨⟨by simp [hw0], fun x hx => ?_⟩, ⟨by simp [hw0], fun x hx => ?_, fun x hx => ?_⟩, ⟨by simp [hw0], fun x hx => ?_⟩, by simp [hw0], fun i d p hd hp => ?_, by simp [hw0]⟩
 ·obtain ⟨c, hc, rfl⟩ := List.mem_map.1 hx
  obtain ⟨i, hi⟩ := List.getElem?_of_mem hc
  have := (h.t.aB i c hi).2
  unfold sC
  dsimp only
  split
  ·omega
  ·omega
 ·obtain ⟨c, hc, rfl⟩ := List.mem_map.1 hx
  simp [sA]
 ·obtain ⟨c, hc, rfl⟩ := List.mem_map.1 hx
  simp [sA]
 ·obtain ⟨c, hc, rfl⟩ := List.mem_map.1 hx
  simp [mO]
 ·simp only [hw0, List.getElem?_map, hd, Option.map_some] at hp
  cases hp
  have hf := h.t.aA i d hd
  refine ⟨⟨by simp [wN], by simp [wN], fun v hv => ?_, fun v hv => ?_⟩, by simp [vM, Dw]⟩
  ·obtain ⟨r, hr, rfl⟩ := List.mem_map.1 hv
   have := hf.2.2.2.2.2.2.2.2.2.1 r hr
   omega
  ·simp only [wN, List.mem_map] at hv
   obtain ⟨r, _, rfl⟩ := hv
   omega
theorem Mj {s : aC} (h : s.rM) : (dY s).sm := by
 have h1 := h.nc
 have h2 := h.nd
 have h3 := h.nr
 exact ⟨by simp [dY]; omega, by simp [dY]; omega, by simp [dY]; omega⟩
def gQ : aC := ⟨[], [], [], []⟩
theorem Zh : gQ.small := ⟨by decide, by decide, by decide, by decide, (fun c hc => by cases hc), (fun c hc => by cases hc)⟩
theorem Ro : gQ.rM := ⟨fun _ _ h => by simp [gQ] at h, fun _ _ h => by simp [gQ] at h, by decide, by decide, by decide, by decide, by rfl, Zh⟩
theorem Mt : gQ.bO := ⟨Ro, fun _ _ h => by simp [gQ] at h, by simp [gQ]⟩
theorem Zi (w : World) : fA w gQ none 0 none 0 none 0 none 0 :=
 ⟨⟨[], trivial, rfl, aH.nil _ _⟩, ⟨[], trivial, rfl, aH.nil _ _⟩, ⟨[], trivial, rfl, aH.nil _ _⟩, ⟨[], trivial, rfl, aH.nil _ _⟩, Zh⟩
end
section
def hB (o : Option Nat) : Int := if o.isSome then 1 else 0
def vZ : List Int := [(eF 0 0 16 5).1]
def zE : bN := { zR gQ with h0 := 1, w0 := vZ }
theorem Ig : (eF 0 0 16 5).2 = 0 ∧ bX (eF 0 0 16 5).1 28 4 = 0 ∧ bX (eF 0 0 16 5).1 10 8 = 16 ∧ bX (eF 0 0 16 5).1 0 8 = 0 ∧ 0 ≤ (eF 0 0 16 5).1 ∧ (eF 0 0 16 5).1 < 4294967296 := by decide +kernel
theorem aCw : (mZ (zR gQ) 0 vZ) = (0, zE) := by simp [mZ, zR, cF, zE]
theorem Yd : nY zE = some 0 := rfl
theorem aCy : vO gQ zE := ⟨.inr rfl, fun x hx => by simp [zE, vZ] at hx; subst hx; exact Ig.2.2.2.2, fun x hx => by simp [zE, zR] at hx, by simp [zE, vZ], by simp [zE, zR], Mj Ro, Mj Ro⟩
theorem aCz (x : aT) : iR gQ x zE 0 = (0, 0, 0) := by
 have h : dX gQ vZ = (0, 0, 0) := by decide +kernel
 unfold iR jZ
 rw [show fP zE 0 = vZ from rfl, h]
 rfl
theorem Yc (x : aT) : iZ gQ x zE = ({ zE with last := 0, h0 := 2, w0 := [(eF 0 0 16 5).1, 0, 131072] }, false) := by
 unfold iZ
 rw [Yd]
 dsimp only
 unfold uC
 dsimp only
 rw [aCz]
 have hm : iD gQ x vZ = [131072] := by
  unfold iD
  dsimp only
  rw [if_pos (show bX (vZ.headD 0) 0 8 = 0 from Ig.2.2.2.1)]
 have hw : IntKind.u32.wrap 0 = 0 := by decide +kernel
 simp [gR, vX, tM, fP, zE, hm, hw]
 rfl
theorem aCx : tP (fP zE 0) := ⟨⟨_, _, rfl, Ig.2.1, fun h => by
 obtain ⟨_, _, h3, h4, _⟩ := Ig
 rw [h3, h4] at h
 omega⟩⟩
end
section
section
variable {P : Program} {N : cN} {w0 : World} {e : Env} {R : List Piece} {H : List HP} {Q : Exit → Act → World → Prop} {ops : Array Oper} {rest : List Oper}
variable {d : Nat} {ty : TypeId} {pos : String} {aJ : Array Edge}
theorem sK {α : Type} (i : Nat) {f : FuncId} {x : Operand} {args : List Operand} {fi ca vs : List Value} {tys : Array TypeId} {p : HP} (v : α → Value) (q : α → HP) (G : α → Prop) (hf : fK P f = true) (hx : e.ev x = some (.func (.func f) fi.toArray ca.toArray)) (ha : e.cV args = some vs) (hi : H[i]? = some p) (hd : d < N.n)
  (hc : ∀ w F, St w0 R H w → p.sat F w → (∀ b, F b → b < w.heap.size) → (∀ q ∈ R, q.Le ⟨w, fun b => b < w.heap.size ∧ ¬ F b⟩) → Calls P f (fi ++ vs ++ ca).toArray w fun y w' => ∃ a, y = .returned (v a) ∧ G a ∧ ∃ F', (q a).sat F' w' ∧ bI w w' F F')
  (k : ∀ a, G a → XK N w0 (wpList P ops Q rest) ((d, v a) :: e) R (H.set i (q a))) : XK N w0 (wpList P ops Q (⟨some d, .call { callee := .value x, args := args.toArray, argTypes := tys }, ty, pos, aJ, none⟩ :: rest)) e R H := fun a w hr st => wpList_plain rfl fun K hK => by
 unfold fK at hf
 cases hq : P.funcs[f]? with
 | none => simp [hq] at hf
 | some fn =>
  simp [hq] at hf
  obtain ⟨fG, fZ⟩ := hf
  have hrun : (execOp a.eval (⟨some d, .call { callee := .value x, args := args.toArray, argTypes := tys }, ty, pos, aJ, none⟩ : Oper)).run P w = .ok (.enter f (fi ++ vs ++ ca).toArray) w := by
   cases hb : fn.body with
   | none => simp [hb] at fZ
   | some c => simp [execOp, resolve, hr.ev hx, Deferred.ofValue, invoke, callFunc, hq, fG, hb, hr.cV ha]
  obtain ⟨F, hp, hlt, hle, eB⟩ := st.chunk hi
  unfold Oper.wp
  rw [hrun]
  refine (hc w F st hp hlt hle).mono fun y w' hy => ?_
  obtain ⟨a', rfl, hG, F', hs, ht⟩ := hy
  exact hK _ _ (k a' hG _ _ (hr.put hd (v a')) (eB w' F' (q a') hs ht))
end
end
section
set_option maxHeartbeats 4000000
set_option maxRecDepth 20000
theorem aDc (w : World) : Calls Tryz.prog 13 #[] w (Rt (.bool true) w) := by
 refine XK.enter (vs := []) Tryz.func13 rfl Tryz.ntmps13 (by simp) ?_
 refine XK.go ?_
 refine bZ (cs := [.slice none 0 0, .slice none 0 0, .slice none 0 0, .slice none 0 0]) (aM (by kernel_rfl)) (by decide) fun g1 => ?_
 refine XK.go ?_
 refine dZ (f := 15) (fi := []) (ca := []) (by kernel_rfl) rfl rfl (by decide) (Xl gQ) (fun w1 t => aBd gQ Mt none none none none 0 0 0 0 0 0 0 0 w1 (Zi w1)) ?_
 rintro _ _ q1 ⟨hL, rfl, rfl, gB, oF⟩ _
 dsimp only [List.cons_append, List.nil_append]
 refine XK.go ?_
 refine dZ (f := 16) (fi := []) (ca := []) (by kernel_rfl) rfl rfl (by decide) (Xn hL.h gQ) (fun w1 t => aBt hL.h gQ Mt none none none none 0 0 0 0 0 0 0 0 w1 (Zi w1)) ?_
 rintro _ _ q2 ⟨f, rfl, rfl⟩ _
 dsimp only [List.cons_append, List.nil_append]
 refine XK.go ?_
 refine dB (zs := [.int .i64 0, .int .i64 0, .int .i64 0, .int .i64 0]) (L := [(0, 1), (1, 1), (2, 1), (3, 1)]) (aM (by kernel_rfl)) (by kernel_rfl) rfl (by simp [aR, aU, Value.cells]; rfl) (by decide) ?_
 refine iY [] (f := 18) (fi := []) (ca := []) (by kernel_rfl) rfl rfl (by decide) (by simp) (Gc ((eF 0 0 16 5).1 :: [])) (fun w1 t => Ll 0 0 16 5 none 0 0 [] w1 (aH.nil _ _) rfl (by omega) Ig.1) ?_
 rintro _ w1 q3 ⟨Al, cl, rfl, hl⟩ hf _ _
 have hl := hl.le hf
 clear hf
 refine XK.weak [0, 1] rfl (by decide) (R' := [q3, all w]) (by simp) ?_
 refine XK.go ?_
 refine fE 0 (oM f hL.h gQ zE) (fun w1 F1 t h1 h2 h3 => by
  have := aBn f hL.h gQ (zR gQ) 0 Al _ cl vZ w1 F1 h1 h2 (hl.le (h3 _ (by simp))) rfl (by decide)
  rw [aCw] at this
  exact this) ?_
 dsimp only [List.set]
 refine XK.go ?_
 refine XK.pair ?_
 refine fE 0 (bG f hL gQ (iZ gQ (hw0 gQ) zE).1 (hw0 gQ)) (fun w1 F1 t h1 h2 h3 => aBm f hL gQ zE (hw0 gQ) Mt ⟨gB, oF⟩ (Tl Mt) aCy (fun a ha _ _ => by cases ha.symm.trans Yd; exact aCx) (by decide) (by rw [Yc]) w1 F1 h1 h2) ?_
 dsimp only [List.set]
 rw [Yc]
 refine XK.go ?_
 refine XK.take 0 0 rfl rfl ?_
 dsimp only [List.set]
 refine sK (α := AC) 0 (f := 21) (fi := []) (ca := []) (fun c => .tuple #[.slice c.1 3 c.2, .bool true]) (fun c => xD f hL.h gQ { zE with last := 0, h0 := 0, w0 := [] } [(eF 0 0 16 5).1, 0, 131072] c) (fun _ => True) (by kernel_rfl) rfl rfl rfl (by decide) (fun w1 F1 t h1 h2 h3 => Vv f hL.h gQ { zE with last := 0, h0 := 2, w0 := [(eF 0 0 16 5).1, 0, 131072] } 0 w1 F1 h1 h2) ?_
 rintro ⟨Ar, cr⟩ _
 dsimp only [List.set]
 refine XK.take 0 1 rfl rfl ?_
 dsimp only [List.set]
 refine XK.still [] [0] [] (by simp) rfl (by decide) (by decide) fun q hq _ hfr => ?_
 obtain ⟨F2, kF, kB⟩ := hq 0 _ (by simp) rfl
 have hr : cB (Ar, cr) [(eF 0 0 16 5).1, 0, 131072] q := cB.le ⟨q.w, F2⟩ q (fun b hb => ⟨kB b hb, rfl⟩) kF
 unfold vZ at hl
 generalize (eF 0 0 16 5).1 = hd at hr hl ⊢
 obtain ⟨b, off, rfl, hb, hc⟩ := hr.2 (by simp)
 obtain ⟨lb, lo, rfl, hlb, hlc⟩ := hl.2 (by simp)
 have r0 : Rd w [q, q3, all w] [] b off (.int .u32 hd) := Rd.ro (p := q) (by simp) hb (hc 0 _ rfl)
 have r1 : Rd w [q, q3, all w] [] b (off + 1) (.int .u32 0) := Rd.ro (p := q) (by simp) hb (hc 1 _ rfl)
 have r2 : Rd w [q, q3, all w] [] b (off + 2) (.int .u32 131072) := Rd.ro (p := q) (by simp) hb (hc 2 _ rfl)
 have l0 : Rd w [q, q3, all w] [] lb lo (.int .u32 hd) := Rd.ro (p := q3) (by simp) hlb (hlc 0 _ rfl)
 refine XK.go ?_
 refine XK.jD ?_
 refine XQ.go ?_
 refine XQ.kd (dat 0 off) ?_
 refine XQ.go ?_
 refine XQ.kd (dat 0 lo (hlt := by simp)) ?_
 refine XQ.go ?_
 refine XQ.split 65 rfl (fun _ => ?_) (fun h => absurd rfl h)
 refine XQ.go ?_
 refine XQ.kd (dat 1 (off + 1)) ?_
 refine XQ.go ?_
 refine XQ.kd (dat 2 (off + 2)) ?_
 refine XQ.end_ ?_
 refine XK.go ?_
 exact XK.bU (by simp) rfl
end
end Go.Proofs.YticjkhagldkejaaGreatDoor
