/- table.Chain and plan.Wants, of a chip that is made. -/
import Derived.Tactics2
import Derived.Test.YticjkhagldkejaaGreatDoorFirmWordsK4
namespace Go.Proofs.YticjkhagldkejaaGreatDoor
set_option linter.all false
open Go.RowKit
section
def Di (l : List Nat) (v : Value) (w w' : World) : Prop := ∃ A c, v = .slice A l.length c ∧ aI (fresh w w') 1 A l.length (aR (gJ l))
theorem Sz (q : Piece) (s : aD) (A1 A2 A3 A4 : Option Addr) (n1 k1 n2 k2 n3 k3 n4 k4 : Nat) (c : Nat) (w : World) (mZ : oZ q s A1 n1 A2 n2 A3 n3 A4 n4) (hm : s.iS) (hq : q.Le (all w)) (hc : c < s.aB.length) :
  Calls Tryz.prog 89 #[.agg #[.slice A1 n1 k1, .slice A2 n2 k2, .slice A3 n3 k3, .slice A4 n4 k4], .int .i64 (c : Int)] w (Ms (Di (iH s c)) w) := by
 obtain ⟨rfl, rfl, rfl, rfl⟩ := mZ.len
 refine XK.enter (vs := [.agg #[.slice A1 s.aB.length k1, .slice A2 s.domains.length k2, .slice A3 s.aU.length k3, .slice A4 s.aG.length k4], .int .i64 (c : Int)]) Tryz.func89 rfl Tryz.ntmps89 (by simp) ?_
 refine XK.piece q (by simp) hq ?_
 refine XK.seq ?_
 refine XK.region ?_
 refine bY rfl (by decide) fun g1 => ?_
 refine aH rfl (by decide) ?_
 refine XK.aA ?_
 refine XK.seq ?_
 refine XK.region ?_
 refine aH rfl (by decide) ?_
 refine XK.aA ?_
 refine XK.seq ?_
 refine XK.kA 3 1 ?_
 refine XK.aL [(1, .int .i64 (c : Int)), (5, .slice none 0 0), (2, .pointer (some ⟨g1, 0, none⟩))] ?_
 refine XK.block ?_
 refine XK.loop (fun m e R H => ∃ (cur : Nat) (l : List Nat) (A : Option Addr) (k : Nat), cur < s.aB.length ∧ l.length ≤ s.aB.length ∧ m = s.aB.length - l.length ∧ iH s c = l ++ lU s (s.aB.length - l.length) cur ∧ e = [(1, .int .i64 (cur : Int)), (5, .slice A l.length k), (2, .pointer (some ⟨g1, 0, none⟩))] ∧ R = [q, all w] ∧ H = [HP.own 3 1 (.slice A l.length k) l.length (aR (gJ l)), HP.aE g1 29 [.slice A1 s.aB.length k1, .slice A2 s.domains.length k2, .slice A3 s.aU.length k3, .slice A4 s.aG.length k4]]) s.aB.length ⟨c, [], none, 0, hc, by simp, rfl, rfl, rfl, rfl, rfl⟩ fun m e R H hI => ?_
 obtain ⟨cur, l, A, k, aEQ, tL, rfl, fX, rfl, rfl, rfl⟩ := hI
 refine XK.seq ?_
 refine XK.sK 22 (l.length < s.aB.length) ?_ ?_
 ·skip
  refine XK.region ?_
  refine aF rfl (by decide) ?_
  refine uK rfl rfl (by decide) ?_
  refine aF rfl (by decide) ?_
  refine bO (t := 8) rfl (fun hg => ?_) (fun hg => ?_)
  ·
   refine aO rfl rfl ?_; refine aF rfl (by decide) ?_
   refine aO rfl rfl ?_; refine aW (off := 0) (by kernel_rfl) rfl (by decide) ?_
   refine aO rfl rfl ?_; refine aZ rfl ?_
   refine aO rfl rfl ?_; refine cY (el := 118) (by kernel_rfl) rfl (by decide) ?_
   refine aO rfl rfl ?_; refine fB rfl rfl (by decide) ?_
   (first | refine bJ rfl rfl (by decide) ?_ | refine bK rfl rfl (by decide) ?_)
   refine aF rfl (by decide) ?_
   refine bO (t := 15) rfl (fun hg => ?_) (fun hg => ?_)
   ·
    refine aO rfl rfl ?_; refine aF rfl (by decide) ?_
    refine aO rfl rfl ?_; refine cY (el := 3) (by kernel_rfl) rfl (by decide) ?_
    refine aO rfl rfl ?_; refine aW (off := 0) (by kernel_rfl) rfl (by decide) ?_
    refine aO rfl rfl ?_; refine aZ rfl ?_
    refine aO rfl rfl ?_; refine cY (el := 118) (by kernel_rfl) rfl (by decide) ?_
    refine aO rfl rfl ?_; refine fB rfl rfl (by decide) ?_
    (first | refine bJ rfl rfl (by decide) ?_ | refine bK rfl rfl (by decide) ?_)
    refine XK.aA ?_
    exact XK.rW (by repeat (first | exact trivial | refine ⟨rfl, ?_⟩)) (uA rfl (by omega))
   ·
    refine aN rfl rfl rfl (by decide) ?_
    refine aN rfl rfl rfl (by decide) ?_
    refine aN rfl rfl rfl (by decide) ?_
    refine aN rfl rfl rfl (by decide) ?_
    refine aN rfl rfl rfl (by decide) ?_
    refine aN rfl rfl rfl (by decide) ?_
    (first | refine bJ rfl rfl (by decide) ?_ | refine bK rfl rfl (by decide) ?_)
    refine XK.aA ?_
    exact XK.rW (by repeat (first | exact trivial | refine ⟨rfl, ?_⟩)) (uY rfl (by omega))
  ·
   refine aN rfl rfl rfl (by decide) ?_
   refine aN rfl rfl rfl (by decide) ?_
   refine aN rfl rfl rfl (by decide) ?_
   refine aN rfl rfl rfl (by decide) ?_
   refine aN rfl rfl rfl (by decide) ?_
   (first | refine bJ rfl rfl (by decide) ?_ | refine bK rfl rfl (by decide) ?_)
   refine aF rfl (by decide) ?_
   refine aN rfl rfl rfl (by decide) ?_
   refine aN rfl rfl rfl (by decide) ?_
   refine aN rfl rfl rfl (by decide) ?_
   refine aN rfl rfl rfl (by decide) ?_
   refine aN rfl rfl rfl (by decide) ?_
   refine aN rfl rfl rfl (by decide) ?_
   (first | refine bJ rfl rfl (by decide) ?_ | refine bK rfl rfl (by decide) ?_)
   refine XK.aA ?_
   exact XK.rW (by repeat (first | exact trivial | refine ⟨rfl, ?_⟩)) (uY rfl (by omega))
 refine XK.if_ rfl (fun h => ?_) (fun h => ?_)
 ·
  refine XK.skip ?_
  refine XK.norm ?_
  refine XK.block ?_
  refine XK.seq ?_
  have hlt : l.length < s.aB.length := h
  obtain ⟨x, hx⟩ : ∃ x, s.aB[cur]? = some x := ⟨_, List.getElem?_eq_getElem aEQ⟩
  obtain ⟨k0, xM⟩ : ∃ k0, s.aB.length - l.length = k0 + 1 := ⟨s.aB.length - l.length - 1, by omega⟩
  rw [xM, aGK hx] at fX
  have hn9 := hm.nc
  have hfit := (hm.aB cur x hx).1
  refine XK.region ?_
  refine aF rfl (by decide) ?_
  refine aF rfl (by decide) ?_
  refine eZ (el := 3) (sz := 1) (zs := [.int .i64 0]) (by kernel_rfl) (aM (by kernel_rfl)) (by kernel_rfl) rfl (by decide) (by decide) rfl (by simp [aS, aT, Value.cells, List.range_succ, List.set]; rfl) (by decide) fun g2 => ?_
  refine fA 1 1 8 1 (n' := l.length + 1) (el := 3) (by kernel_rfl) (by kernel_rfl) (by decide) rfl rfl rfl (jY 0 rfl rfl) (by simp [Value.oneCell']) rfl (by omega) (by omega) (by decide) fun A' k' => ?_
  dsimp only [List.set]
  rw [show aR (gJ l) ++ [Value.int .i64 (cur : Int)] = aR (gJ (l ++ [cur])) by simp [aR, gJ]]
  refine XK.weak [1, 2] rfl (by decide) (R' := [q, all w]) (by simp) ?_
  refine aH rfl (by decide) ?_
  refine XK.aA ?_
  refine XK.seq ?_
  refine XK.seq ?_
  obtain ⟨bC, oC, rC, rfl, Xr, _, hR, Zi⟩ := mZ.gX.vM hx
  obtain ⟨As, ns, ks, rfl, rfl, Fp⟩ := hR
  refine XK.region ?_
  refine aW (off := 0) (by kernel_rfl) rfl (by decide) ?_
  refine aZ rfl ?_
  refine aF rfl (by decide) ?_
  refine dB (cur) (oC + cur * 6) (el := 118) (sz := 6) (by kernel_rfl) (by kernel_rfl) rfl rfl (by omega) (by omega) (by omega) (by decide) ?_
  refine aW (off := 1) (by kernel_rfl) rfl (by decide) ?_
  refine fI (by kernel_rfl) rfl (Rd.ro (p := q) (by simp) Xr (Zi 1 _ rfl)) (by decide) ?_
  refine cY (el := 3) (by kernel_rfl) rfl (by decide) ?_
  refine eH rfl rfl (by decide) ?_
  refine XK.aA ?_
  refine XK.if_ rfl (fun h0 => ?_) (fun h0 => ?_)
  ·
   refine XK.exit ?_
   refine XK.norm ?_
   refine XK.seq ?_
   refine XK.region ?_
   refine aF rfl (by decide) ?_
   refine aH rfl (by decide) ?_
   refine XK.aA ?_
   refine XK.ret ?_
   refine XK.norm ?_
   have hs0 : x.src = [] := List.eq_nil_of_length_eq_zero (by have : ((x.src.length : Nat) : Int) = 0 := h0; omega)
   rw [hs0] at fX
   have tN : (l ++ [cur]) = iH s c := fX.symm
   refine XK.still [] [0] [] (by simp) rfl (by decide) (by decide) fun qf qV _ hfr => ?_
   obtain ⟨Ff, sf, zf⟩ := qV 0 _ (by simp) rfl
   obtain ⟨Av, cv, hv, zD⟩ := aI.qS (Y := qf.Z) sf zf
   exact XK.aK rfl rfl fun w1 st => ⟨⟨_, rfl, by
    rw [← tN]
    unfold Di
    rw [hv]
    exact ⟨Av, cv, by simp, by simpa using aI.le zD (st.kX (by simp) (hfr (by simp) (by simp)))⟩⟩, st.below (by simp)⟩
  ·
   refine XK.skip ?_
   refine XK.norm ?_
   obtain ⟨f, fs, hs0⟩ : ∃ f fs, x.src = f :: fs := by
    cases hs0 : x.src with
    | nil => exact absurd (by rw [hs0]; rfl) h0
    | cons f fs => exact ⟨f, fs, rfl⟩
   have hf := hfit f (by rw [hs0]; simp)
   obtain ⟨f', rfl⟩ : ∃ f' : Nat, f = (f' : Int) := ⟨f.toNat, by omega⟩
   rw [hs0] at fX
   obtain ⟨bS, oS, rfl, hzS, hcS⟩ := Fp.2 (by rw [hs0]; simp)
   refine XK.region ?_
   refine aW (off := 0) (by kernel_rfl) rfl (by decide) ?_
   refine aZ rfl ?_
   refine aF rfl (by decide) ?_
   refine dB (cur) (oC + cur * 6) (el := 118) (sz := 6) (by kernel_rfl) (by kernel_rfl) rfl rfl (by omega) (by omega) (by omega) (by decide) ?_
   refine aW (off := 1) (by kernel_rfl) rfl (by decide) ?_
   refine fI (by kernel_rfl) rfl (Rd.ro (p := q) (by simp) Xr (Zi 1 _ rfl)) (by decide) ?_
   refine dB 0 oS (el := 3) (sz := 1) (by kernel_rfl) (by kernel_rfl) rfl rfl rfl (by rw [hs0]; simp) (by omega) (by decide) ?_
   refine fI (by kernel_rfl) rfl (Rd.ro (p := q) (by simp) hzS (hcS 0 _ (by rw [hs0]; rfl))) (by decide) ?_
   refine aH rfl (by decide) ?_
   refine XK.aA ?_
   exact XK.aL [(1, .int .i64 (f' : Int)), (5, .slice A' (l.length + 1) k'), (2, .pointer (some ⟨g1, 0, none⟩))] (XK.round (s.aB.length - (l.length + 1)) (by omega) ⟨f', l ++ [cur], A', k', by omega, by simp; omega, by simp, by rw [fX]; simp [show s.aB.length - (l.length + 1) = k0 by omega], by simp, rfl, by simp⟩)
 ·
  refine XK.exit ?_
  refine XK.norm ?_
  refine XK.seq ?_
  refine XK.region ?_
  refine aF rfl (by decide) ?_
  refine aH rfl (by decide) ?_
  refine XK.aA ?_
  refine XK.ret ?_
  refine XK.norm ?_
  have hge : ¬ l.length < s.aB.length := h
  rw [show s.aB.length - l.length = 0 by omega] at fX
  have tN : l = iH s c := by rw [fX]; simp [lU]
  refine XK.still [] [0] [] (by simp) rfl (by decide) (by decide) fun qf qV _ hfr => ?_
  obtain ⟨Ff, sf, zf⟩ := qV 0 _ (by simp) rfl
  obtain ⟨Av, cv, hv, zD⟩ := aI.qS (Y := qf.Z) sf zf
  exact XK.aK rfl rfl fun w1 st => ⟨⟨_, rfl, by
   rw [← tN]
   unfold Di
   rw [hv]
   exact ⟨Av, cv, rfl, aI.le zD (st.kX (by simp) (hfr (by simp) (by simp)))⟩⟩, st.below (by simp)⟩
end
section
def zB (l : List Int) (x : Int) : Int := if x ∈ l then (l.idxOf x : Int) else -1
theorem aEs {l : List Int} {x : Int} {i : Nat} (hno : ∀ j y, j < i → l[j]? = some y → y ≠ x) (h : l[i]? = some x) : zB l x = i := by
 have hm : x ∈ l := List.mem_of_getElem? h
 rw [zB, if_pos hm]
 have h2 : l.idxOf x = i := by
  induction l generalizing i with
  | nil => simp at h
  | cons a r ih =>
   cases i with
   | zero => simp at h; subst h; simp
   | succ i =>
    have ha : a ≠ x := hno 0 a (by omega) rfl
    simp at h
    have hmr : x ∈ r := List.mem_of_getElem? h
    have hi := ih (fun j y hj hy => hno (j + 1) y (by omega) (by simpa using hy)) h hmr
    have hb : (a == x) = false := by simpa using ha
    rw [List.idxOf_cons, hb]
    simp [hi]
 rw [h2]
theorem aEq {l : List Int} {x : Int} (hno : ∀ (j : Nat) (y : Int), l[j]? = some y → y ≠ x) : zB l x = -1 := by
 rw [zB, if_neg]
 intro hm
 obtain ⟨j, hj⟩ := List.getElem?_of_mem hm
 exact hno j x hj rfl
theorem aEr (l : List Int) (x : Int) : decide (0 ≤ zB l x) = decide (x ∈ l) := by
 unfold zB
 by_cases h : x ∈ l <;> simp [h]
def vF (s : aD) (c id : Int) : Bool := decide (id ∈ gJ (iH s c.toNat))
def vZ (s : aD) (k id : Int) (d : bN) : Bool :=
 if k = 100 ∨ k = 107 then decide (d.domain = id) else if k = 111 then vF s d.clock id else if k = 97 then decide (d.reset = id) else false
def nU (s : aD) (wt : List Int) (k id : Int) (i : Nat) : Bool := decide (0 < (wt[i]?).getD 0) && ((s.aG[i]?).any fun d => vZ s k id d)
def Db (s : aD) (wt : List Int) (k id : Int) : Bool := (List.range s.aG.length).any (nU s wt k id)
theorem Te {s : aD} {wt : List Int} {k id : Int} {i : Nat} (hi : i < s.aG.length) (h : nU s wt k id i = true) : Db s wt k id = true := by
 rw [Db, List.any_eq_true]; exact ⟨i, List.mem_range.2 hi, h⟩
theorem aGT {s : aD} {wt : List Int} {k id : Int} (h : ∀ i, i < s.aG.length → nU s wt k id i = false) : Db s wt k id = false := by
 rw [Db, List.any_eq_false]; intro i hi; simp [h i (List.mem_range.1 hi)]
def lN (s : aD) (x y : bR) (k id : Int) (i : Nat) : Bool :=
 if k = 100 ∨ k = 107 then ((s.domains[i]?).any fun d => decide (d.above = id)) && lW x y k i
 else decide ((i : Int) ≠ id) && (lW x y k i && vF s i id)
def wE (s : aD) (k : Int) : Nat := if k = 100 ∨ k = 107 then s.domains.length else if k = 111 then s.aB.length else 0
def Ch (s : aD) (x y : bR) (k id : Int) : Bool := (List.range (wE s k)).any (lN s x y k id)
theorem Zo {s : aD} {x y : bR} {k id : Int} {i : Nat} (hi : i < wE s k) (h : lN s x y k id i = true) : Ch s x y k id = true := by
 rw [Ch, List.any_eq_true]; exact ⟨i, List.mem_range.2 hi, h⟩
theorem Rk {s : aD} {x y : bR} {k id : Int} (h : ∀ i, i < wE s k → lN s x y k id i = false) : Ch s x y k id = false := by
 rw [Ch, List.any_eq_false]; intro i hi; simp [h i (List.mem_range.1 hi)]
def Hf (s : aD) (x y : bR) (ag : Nat) (k id : Int) : Bool := kF (if ag = 0 then y else x) k id || Ch s x y k id
def fT (s : aD) (x y : bR) (wt : List Int) (ag : Nat) (l : List Int) : Int × Int × Int :=
 if (dV s l).1 ≠ 0 ∨ (dV s l).2.1 = 0 ∨ kF (if ag = 0 then x else y) (dV s l).2.1 (dV s l).2.2 = decide (fJ (dV s l).2.1) then ((dV s l).1, 0, 0)
 else if fJ (dV s l).2.1 then
  (if (dV s l).2.1 = 117 ∧ (s.domains[(dV s l).2.2.toNat]?).any (fun d => decide (d.above ≠ -1) && !lW x y 117 d.above) = true then (-3, 0, 0) else (0, (dV s l).2))
 else if Hf s x y ag (dV s l).2.1 (dV s l).2.2 then (-3, 0, 0)
 else if Db s wt (dV s l).2.1 (dV s l).2.2 then (-6, 0, 0)
 else (0, (dV s l).2)
def vV (k : Int) : Int := if k = 117 ∨ k = 100 ∨ k = 107 then 17 else if k = 99 ∨ k = 111 then 20 else 22
def Kg (k : Int) : Prop := k = 117 ∨ k = 100 ∨ k = 107 ∨ k = 99 ∨ k = 111 ∨ k = 114 ∨ k = 97
theorem aFr (p m : Int) (v : Int) (h0 : 0 ≤ v) (hv : v < (cQ p m).m) : vV ((cQ p m).act v) = p ∧ Kg ((cQ p m).act v) := by
 have h1 : ∀ f : jE, lO p m = some f → v < f.m → vV (f.act v) = p ∧ Kg (f.act v) := by
  intro f hf hv
  unfold lO at hf
  have hv3 : f.m ≤ 3 := by
   have := (aAa p m).2.2.1
   unfold cQ lO at this
   rw [hf] at this
   exact this
  rcases (by omega : v = 0 ∨ v = 1 ∨ v = 2) with rfl | rfl | rfl <;>
  ·repeat' split at hf
   all_goals first
    | (cases hf; done)
    | (cases hf; simp at hv; done)
    | (cases hf; simp_all [vV, Kg, jE.act])
 unfold cQ at hv ⊢
 cases h : lO p m with
 | none => rw [h] at hv; simp at hv; omega
 | some f => rw [h] at hv; exact h1 f h hv
theorem Wc {s : aD} {l : List Int} (hu : fO l) : ((dV s l).2.1 = 0 ∧ (dV s l).2.2 = 0) ∨ ((dV s l).1 = 0 ∧ Kg (dV s l).2.1 ∧ 0 ≤ (dV s l).2.2 ∧ (dV s l).2.2 < (oH s (vV (dV s l).2.1) : Int) ∧
  ((dV s l).2.1 = 107 → El s (dV s l).2.2.toNat = true) ∧ (vV (dV s l).2.1 = 20 → gO s (dV s l).2.2.toNat)) := by
 unfold dV
 split
 ·exact .inl ⟨rfl, rfl⟩
 ·rename_i w r
  split
  ·exact .inl ⟨rfl, rfl⟩
  ·split
   ·exact .inl ⟨rfl, rfl⟩
   ·split
    ·exact .inl ⟨rfl, rfl⟩
    ·split
     ·exact .inl ⟨rfl, rfl⟩
     ·have hd : ∀ i, 0 ≤ r.getD i 0 := fun i => by
       rw [List.getD_eq_getElem?_getD]
       cases hi : r[i]? with
       | none => exact Int.le_refl _
       | some x => exact (hu x (List.mem_cons_of_mem _ (List.mem_of_getElem? hi))).1
      have hid := hd 0
      have hv := hd ((cQ (cB w) (cI w)).n.toNat - 1)
      generalize r.getD 0 0 = id at *
      generalize r.getD ((cQ (cB w) (cI w)).n.toNat - 1) 0 = v at *
      unfold wQ
      split
      ·exact .inl ⟨rfl, rfl⟩
      ·split
       ·exact .inl ⟨rfl, rfl⟩
       ·split
        ·exact .inl ⟨rfl, rfl⟩
        ·split
         ·exact .inl ⟨rfl, rfl⟩
         ·rename_i h1 h2 h3 h4
          obtain ⟨a1, a2⟩ := aFr (cB w) (cI w) v hv (by omega)
          refine .inr ⟨rfl, a2, hid, by dsimp only; rw [a1]; omega, fun h5 => ?_, fun h5 => ?_⟩
          ·dsimp only at h5 ⊢
           cases hr : El s id.toNat with
           | true => rfl
           | false => exact absurd (.inl ⟨h5, hr⟩) h4
          ·dsimp only at h5 ⊢
           rw [a1] at h5
           exact Decidable.byContradiction fun hs => h4 (.inr ⟨h5, hs⟩)
theorem aI.int {w : World} {A : Option Addr} {n : Nat} {l : List Int} (h : aI (all w) 1 A n (aR l)) (hn : 0 < n) : ∃ b off, A = some ⟨b, off, none⟩ ∧ ∀ (i : Nat) (x : Int), l[i]? = some x → eK w b (off + i) (.int .i64 x) := by
 obtain ⟨b, off, hA, hb, hc⟩ := h.2 hn
 refine ⟨b, off, hA, fun i x hx => ⟨hb, hc i _ ?_⟩⟩
 simp only [aR, List.getElem?_map, hx, Option.map_some]
theorem eO.P {w : World} {s : aD} {A1 A2 A3 A4 : Option Addr} {n1 n2 n3 n4 : Nat} (h : eO w s A1 n1 A2 n2 A3 n3 A4 n4) : oZ (all w) s A1 n1 A2 n2 A3 n3 A4 n4 := ⟨h.gX, h.dom, h.nZ, h.dev⟩
end
section
set_option maxHeartbeats 4000000
set_option maxRecDepth 20000
theorem aEo (A : Option Addr) (n c : Nat) (l : List Int) (x : Int) (w : World) (hs : aI (all w) 1 A n (aR l)) (hn : n = l.length) (hn2 : n ≤ 1000000) :
  Calls Tryz.prog 231 #[.slice A n c, .int .i64 x] w (Rt (.int .i64 (zB l x)) w) := by
 refine XK.enter (vs := [.slice A n c, .int .i64 x]) Tryz.func231 rfl Tryz.ntmps231 (by simp) ?_
 refine XK.go ?_
 refine XK.aL [(8, .int .i64 0), (7, .int .i64 n), (1, .int .i64 x), (0, .slice A n c)] ?_
 refine XK.go ?_
 refine XK.loop (fun m e R H => ∃ (i : Nat), i ≤ n ∧ m = n - i ∧ (∀ (j : Nat) (y : Int), j < i → l[j]? = some y → y ≠ x) ∧ e = [(8, .int .i64 i), (7, .int .i64 n), (1, .int .i64 x), (0, .slice A n c)] ∧ R = [all w] ∧ H = []) n ⟨0, by omega, rfl, (fun j y hj => absurd hj (Nat.not_lt_zero j)), rfl, rfl, rfl⟩ fun m e R H hI => ?_
 obtain ⟨i, hi, rfl, hno, rfl, rfl, rfl⟩ := hI
 refine XK.go ?_
 refine XK.if_ rfl (fun h => ?_) (fun h => ?_)
 ·
  refine XK.go ?_
  have hil : i < n := by have h' : (i : Int) < (n : Int) := h; omega
  obtain ⟨y, hy⟩ : ∃ y, l[i]? = some y := ⟨l[i]'(by omega), List.getElem?_eq_getElem _⟩
  obtain ⟨b, off, rfl, hc⟩ := hs.int (by omega)
  have hcy := hc i y hy
  refine XK.go ?_
  refine dB (i) (off + i) (el := 3) (sz := 1) (by kernel_rfl) (by kernel_rfl) rfl rfl (by omega) (by omega) (by omega) (by decide) ?_
  refine XK.go ?_
  refine XK.if_ rfl (fun h2 => ?_) (fun h2 => ?_)
  ·
   refine XK.go ?_
   exact XK.aK rfl rfl fun w1 st => ⟨by rw [aEs (i := i) hno (h2 ▸ hy)], st.below (by simp)⟩
  ·
   refine XK.go ?_
   exact XK.aL [(8, .int .i64 ((i : Int) + 1)), (7, .int .i64 n), (1, .int .i64 x), (0, .slice (some ⟨b, off, none⟩) n c)] (XK.round (n - (i + 1)) (by omega) ⟨i + 1, by omega, rfl, (fun j y' hj hy' => by
    rcases Nat.lt_or_ge j i with h1 | h1
    ·exact hno j y' h1 hy'
    ·have hji : j = i := by omega
     subst hji
     rw [hy] at hy'
     cases hy'
     exact fun h => h2 h.symm), rfl, rfl, rfl⟩)
 ·
  refine XK.go ?_
  have hin : i = n := by have h' : ¬ (i : Int) < (n : Int) := h; omega
  subst hin
  exact XK.aK rfl rfl fun w1 st => ⟨by rw [aEq (fun j y hy => hno j y (by have := (List.getElem?_eq_some_iff.1 hy).1; omega) hy)], st.below (by simp)⟩
theorem aA9 (A : Option Addr) (n c : Nat) (l : List Int) (x : Int) (w : World) (hs : aI (all w) 1 A n (aR l)) (hn : n = l.length) (hn2 : n ≤ 1000000) :
  Calls Tryz.prog 180 #[.slice A n c, .int .i64 x] w (Rt (.bool (decide (x ∈ l))) w) := by
 refine XK.enter (vs := [.slice A n c, .int .i64 x]) Tryz.func180 rfl Tryz.ntmps180 (by simp) ?_
 refine XK.go ?_
 refine bA (f := 231) (fi := []) (ca := []) (by kernel_rfl) rfl rfl (by decide) (fun w1 st => aEo A n c l x w1 (hs.le (st.le (by simp))) hn hn2) ?_
 refine XK.go ?_
 exact XK.aK rfl rfl fun w1 st => ⟨by rw [← aEr], st.below (by simp)⟩
theorem aGS (q : Piece) (s : aD) (A1 A2 A3 A4 : Option Addr) (n1 k1 n2 k2 n3 k3 n4 k4 : Nat) (Aw : Option Addr) (nw cw : Nat) (wt : List Int) (k id : Int) (w : World) (mZ : oZ q s A1 n1 A2 n2 A3 n3 A4 n4) (hm : s.iS) (hq : q.Le (all w)) (hw : aI (all w) 1 Aw nw (aR wt)) (Kx : nw = wt.length) :
  Calls Tryz.prog 99 #[.agg #[.slice A1 n1 k1, .slice A2 n2 k2, .slice A3 n3 k3, .slice A4 n4 k4], .slice Aw nw cw, .agg #[.int .u8 k, .int .i64 id]] w (Rt (.bool (Db s wt k id)) w) := by
 refine XK.enter (vs := [.agg #[.slice A1 n1 k1, .slice A2 n2 k2, .slice A3 n3 k3, .slice A4 n4 k4], .slice Aw nw cw, .agg #[.int .u8 k, .int .i64 id]]) Tryz.func99 rfl Tryz.ntmps99 (by simp) ?_
 refine XK.seq ?_
 refine XK.piece q (by simp) hq ?_
 obtain ⟨rfl, rfl, rfl, rfl⟩ := mZ.len
 refine XK.region ?_
 refine bY rfl (by decide) fun g1 => ?_
 refine bY rfl (by decide) fun g2 => ?_
 refine aH rfl (by decide) ?_
 refine XK.aA ?_
 refine XK.seq ?_
 refine XK.seq ?_
 refine XK.region ?_
 refine aW (off := 3) (by kernel_rfl) rfl (by decide) ?_
 refine aZ rfl ?_
 refine cY (el := 78) (by kernel_rfl) rfl (by decide) ?_
 refine aF rfl (by decide) ?_
 refine XK.aA ?_
 refine XK.aL [(12, .int .i64 0), (11, .int .i64 s.aG.length), (10, .slice A4 s.aG.length k4), (5, .pointer (some ⟨g2, 0, none⟩)), (3, .pointer (some ⟨g1, 0, none⟩)), (1, .slice Aw nw cw)] ?_
 refine XK.block ?_
 refine XK.loop (fun m e R H => ∃ (i : Nat), i ≤ s.aG.length ∧ m = s.aG.length - i ∧ (∀ j, j < i → nU s wt k id j = false) ∧ e = [(12, .int .i64 i), (11, .int .i64 s.aG.length), (10, .slice A4 s.aG.length k4), (5, .pointer (some ⟨g2, 0, none⟩)), (3, .pointer (some ⟨g1, 0, none⟩)), (1, .slice Aw nw cw)] ∧ R = [q, all w] ∧ H = [HP.aE g2 63 [.int .u8 k, .int .i64 id], HP.aE g1 29 [.slice A1 s.aB.length k1, .slice A2 s.domains.length k2, .slice A3 s.aU.length k3, .slice A4 s.aG.length k4]]) s.aG.length ⟨0, by omega, rfl, (fun j hj => absurd hj (Nat.not_lt_zero j)), rfl, rfl, rfl⟩ fun m e R H hI => ?_
 obtain ⟨i, hi, rfl, hno, rfl, rfl, rfl⟩ := hI
 refine XK.seq ?_
 refine XK.region ?_
 refine fB rfl rfl (by decide) ?_
 refine XK.aA ?_
 refine XK.seq ?_
 refine XK.if_ rfl (fun h => ?_) (fun h => ?_)
 ·
  refine XK.skip ?_
  refine XK.norm ?_
  refine XK.seq ?_
  refine XK.block ?_
  refine XK.seq ?_
  have hil : i < s.aG.length := by have h' : (i : Int) < (s.aG.length : Int) := h; omega
  obtain ⟨d, hd⟩ : ∃ d, s.aG[i]? = some d := ⟨_, List.getElem?_eq_getElem hil⟩
  obtain ⟨hx1, xL, hx3, Pv, hx5, hx6, _⟩ := hm.aG i d hd
  have hnc := hm.nc
  have hnd := hm.nd
  have Fu := hm.nv
  obtain ⟨bV, oV, rV, rfl, hzV, _, hR, Zh⟩ := mZ.dev.vM hd
  obtain ⟨Ar, nr, kr, An, nn, kn, rfl, _⟩ := hR
  obtain ⟨xc, hxc⟩ : ∃ xc : Nat, d.clock = (xc : Int) := ⟨d.clock.toNat, by omega⟩
  have rA : nU s wt k id i = false → ∀ j, j < i + 1 → nU s wt k id j = false := fun h j hj => by
   rcases Nat.lt_or_ge j i with h1 | h1
   ·exact hno j h1
   ·have hji : j = i := by omega
    subst hji; exact h
  rw [hxc] at Zh
  have wD : nU s wt k id i = (decide (0 < (wt[i]?).getD 0) && vZ s k id d) := by rw [nU, hd]; rfl
  refine XK.region ?_
  refine aF rfl (by decide) ?_
  refine dB (i) (oV + i * 6) (el := 78) (sz := 6) (by kernel_rfl) (by kernel_rfl) rfl rfl (by omega) (by omega) (by omega) (by decide) ?_
  refine tC 6 (by kernel_rfl) rfl (aC.of (vs := [.int .i64 (xc : Int), .int .i64 d.domain, .int .i64 d.reset, .int .u32 d.eX, .slice Ar nr kr, .slice An nn kn]) fun f v hf => Rd.ro (p := q) (by simp) hzV (Zh f v hf)) rfl (by decide) ?_
  refine cD (cs := [.int .i64 0, .int .i64 0, .int .i64 0, .int .u32 0, .slice none 0 0, .slice none 0 0]) (aM (by kernel_rfl)) (by decide) fun g3 => ?_
  refine aH rfl (by decide) ?_
  refine eA rfl rfl ?_; simp only [bZ, Value.cells, List.set, List.take, List.drop, List.nil_append, List.append_nil, List.length_cons, List.length_nil, List.cons_append, Nat.reduceAdd]
  refine XK.aA ?_
  refine XK.seq ?_
  refine XK.sK 27 ((nw : Int) ≤ i ∨ (wt[i]?).getD 0 ≤ 0) ?_ ?_
  ·skip
   refine XK.region ?_
   refine aF rfl (by decide) ?_
   refine aF rfl (by decide) ?_
   refine cY (el := 3) (by kernel_rfl) rfl (by decide) ?_
   refine uK rfl rfl (by decide) ?_
   refine aF rfl (by decide) ?_
   (first | refine bO (t := 21) rfl (fun hg => ?_) (fun hg => ?_) | refine iX (t := 21) rfl (fun hg => ?_) (fun hg => ?_))
   ·
    refine aN rfl rfl rfl (by decide) ?_
    refine aN rfl rfl rfl (by decide) ?_
    refine aN rfl rfl rfl (by decide) ?_
    refine aN rfl rfl rfl (by decide) ?_
    refine aN rfl rfl rfl (by decide) ?_
    (first | refine bJ rfl rfl (by decide) ?_ | refine bK rfl rfl (by decide) ?_)
    refine XK.aA ?_
    exact XK.lY
   ·
    have hiw : i < nw := by omega
    obtain ⟨y, hy⟩ : ∃ y, wt[i]? = some y := ⟨wt[i]'(by omega), List.getElem?_eq_getElem _⟩
    obtain ⟨bW, oW, rfl, hcW⟩ := hw.int (by omega)
    have hcy := hcW i y hy
    have hgy : (wt[i]?).getD 0 = y := by rw [hy]; rfl
    refine aO rfl rfl ?_; refine aF rfl (by decide) ?_
    refine aO rfl rfl ?_; refine aF rfl (by decide) ?_
    refine aO rfl rfl ?_; refine dB (i) (oW + i) (el := 3) (sz := 1) (by kernel_rfl) (by kernel_rfl) rfl rfl (by omega) (by omega) (by omega) (by decide) ?_
    refine aO rfl rfl ?_; refine aZ rfl ?_
    refine aO rfl rfl ?_; refine Nc rfl rfl (by decide) ?_
    (first | refine bJ rfl rfl (by decide) ?_ | refine bK rfl rfl (by decide) ?_)
    refine XK.aA ?_
    exact XK.lY
  refine XK.if_ rfl (fun h4 => ?_) (fun h4 => ?_)
  ·
   refine XK.exit ?_
   refine XK.norm ?_
   refine XK.region ?_
   refine dD rfl rfl (aY (by omega)) (by decide) ?_
   refine aF rfl (by decide) ?_
   refine XK.aA ?_
   have fM : nU s wt k id i = false := by
    rw [wD]
    have h5 : (wt[i]?).getD 0 ≤ 0 := by
     rcases h4 with h4 | h4
     ·rw [List.getElem?_eq_none (by omega)]; exact Int.le_refl _
     ·exact h4
    simp [show ¬ 0 < (wt[i]?).getD 0 by omega]
   exact XK.weak [1, 2] rfl (by decide) (by simp) (XK.aL [(12, .int .i64 ((i : Int) + 1)), (11, .int .i64 s.aG.length), (10, .slice (some ⟨bV, oV, none⟩) s.aG.length k4), (5, .pointer (some ⟨g2, 0, none⟩)), (3, .pointer (some ⟨g1, 0, none⟩)), (1, .slice Aw nw cw)] (XK.round (s.aG.length - (i + 1)) (by omega) ⟨i + 1, by omega, rfl, rA fM, rfl, rfl, rfl⟩))
  ·
   have h5 : 0 < (wt[i]?).getD 0 := by have h' := fun h => h4 (.inr h); omega
   rw [show decide (0 < (wt[i]?).getD 0) = true from decide_eq_true h5, Bool.true_and] at wD
   refine XK.skip ?_
   refine XK.norm ?_
   refine XK.seq ?_
   refine XK.region ?_
   refine aW (off := 0) (by kernel_rfl) rfl (by decide) ?_
   refine aZ rfl ?_
   refine XK.aA ?_
   refine XK.block ?_
   refine XK.sK 30 (k = 100 ∨ k = 107) ?_ ?_
   ·skip
    refine XK.seq ?_
    refine XK.region ?_
    refine eH rfl rfl (by decide) ?_
    refine aH rfl (by decide) ?_
    refine XK.aA ?_
    refine XK.if_ rfl (fun h => ?_) (fun h => ?_)
    ·
     refine XK.skip ?_
     refine XK.norm ?_
     exact XK.lY
    ·
     refine XK.region ?_
     refine eH rfl rfl (by decide) ?_
     refine aH rfl (by decide) ?_
     refine XK.aA ?_
     exact XK.lY
   refine XK.if_ rfl (fun h => ?_) (fun h => ?_)
   ·
    refine XK.seq ?_
    refine XK.region ?_
    refine aW (off := 1) (by kernel_rfl) rfl (by decide) ?_
    refine aZ rfl ?_
    refine aW (off := 1) (by kernel_rfl) rfl (by decide) ?_
    refine aZ rfl ?_
    refine eH rfl rfl (by decide) ?_
    refine XK.aA ?_
    refine XK.if_ rfl (fun h => ?_) (fun h => ?_)
    ·
     refine XK.seq ?_
     refine XK.region ?_
     refine aH rfl (by decide) ?_
     refine XK.aA ?_
     refine XK.ret ?_
     refine XK.norm ?_
     have ht : nU s wt k id i = true := by
      rw [wD]; unfold vZ vF; first | (simp_all; done) | (simp_all; omega)
     exact XK.aK rfl rfl fun w9 st => ⟨by rw [Te hil ht], st.below (by simp)⟩
    ·
     refine XK.skip ?_
     refine XK.norm ?_
     refine XK.region ?_
     refine dD rfl rfl (aY (by omega)) (by decide) ?_
     refine aF rfl (by decide) ?_
     refine XK.aA ?_
     have fM : nU s wt k id i = false := by
      rw [wD]; unfold vZ vF; first | (simp_all; done) | (simp_all; omega)
     exact XK.weak [1, 2] rfl (by decide) (by simp) (XK.aL [(12, .int .i64 ((i : Int) + 1)), (11, .int .i64 s.aG.length), (10, .slice (some ⟨bV, oV, none⟩) s.aG.length k4), (5, .pointer (some ⟨g2, 0, none⟩)), (3, .pointer (some ⟨g1, 0, none⟩)), (1, .slice Aw nw cw)] (XK.round (s.aG.length - (i + 1)) (by omega) ⟨i + 1, by omega, rfl, rA fM, rfl, rfl, rfl⟩))
   ·
    refine XK.seq ?_
    refine XK.region ?_
    refine eH rfl rfl (by decide) ?_
    refine aH rfl (by decide) ?_
    refine XK.aA ?_
    refine XK.if_ rfl (fun h => ?_) (fun h => ?_)
    ·
     refine XK.seq ?_
     refine XK.draw 6 (by kernel_rfl) (by kernel_rfl) ?_
     refine XA.dA 0 rfl rfl rfl (Ct 4 rfl) ?_
     refine XA.dA 1 rfl rfl rfl (iV (off := 0) (by kernel_rfl) rfl) ?_
     refine XA.dA 2 rfl rfl rfl (qF rfl) ?_
     refine XA.dA 4 rfl rfl rfl (iV (off := 1) (by kernel_rfl) rfl) ?_
     refine XA.dA 5 rfl rfl rfl (qF rfl) ?_
     refine XA.next 3 rfl (by kernel_rfl) ?_
     refine jX [q] (f := 89) (fi := []) (ca := []) (by kernel_rfl) rfl rfl (by decide) (by simp) (Di (iH s xc)) (fun w2 st => Sz q s _ _ _ _ _ k1 _ k2 _ k3 _ k4 xc w2 mZ hm (st.le (by simp)) (by omega)) ?_
     rintro _ w2 q1 ⟨Ac, cc, rfl, fX⟩ hf hle _
     have fX := fX.le hf
     have aES := Ta s s.aB.length xc
     refine XA.bk ?_
     refine XA.next 6 rfl (by kernel_rfl) ?_
     refine bA (f := 180) (fi := []) (ca := []) (by kernel_rfl) rfl rfl (by decide) (fun w3 st => aA9 Ac _ cc (gJ (iH s xc)) id w3 (fX.le (st.le (by simp))) (by simp [gJ]) (by unfold iH; omega)) ?_
     refine XA.bt ?_
     refine XA.done (by kernel_rfl) ?_
     refine XK.norm ?_
     refine XK.if_ rfl (fun h => ?_) (fun h => ?_)
     ·
      refine XK.seq ?_
      refine XK.region ?_
      refine aH rfl (by decide) ?_
      refine XK.aA ?_
      refine XK.ret ?_
      refine XK.norm ?_
      have ht : nU s wt k id i = true := by
       rw [wD]; unfold vZ vF; first | (simp_all; done) | (simp_all; omega)
      exact XK.aK rfl rfl fun w9 st => ⟨by rw [Te hil ht], st.below (by simp)⟩
     ·
      refine XK.skip ?_
      refine XK.norm ?_
      refine XK.region ?_
      refine dD rfl rfl (aY (by omega)) (by decide) ?_
      refine aF rfl (by decide) ?_
      refine XK.aA ?_
      have fM : nU s wt k id i = false := by
       rw [wD]; unfold vZ vF; first | (simp_all; done) | (simp_all; omega)
      exact XK.weak [1, 2] rfl (by decide) (by simp) (XK.aL [(12, .int .i64 ((i : Int) + 1)), (11, .int .i64 s.aG.length), (10, .slice (some ⟨bV, oV, none⟩) s.aG.length k4), (5, .pointer (some ⟨g2, 0, none⟩)), (3, .pointer (some ⟨g1, 0, none⟩)), (1, .slice Aw nw cw)] (XK.round (s.aG.length - (i + 1)) (by omega) ⟨i + 1, by omega, rfl, rA fM, rfl, rfl, rfl⟩))
    ·
     refine XK.seq ?_
     refine XK.region ?_
     refine eH rfl rfl (by decide) ?_
     refine aH rfl (by decide) ?_
     refine XK.aA ?_
     refine XK.if_ rfl (fun h => ?_) (fun h => ?_)
     ·
      refine XK.seq ?_
      refine XK.region ?_
      refine aW (off := 2) (by kernel_rfl) rfl (by decide) ?_
      refine aZ rfl ?_
      refine aW (off := 1) (by kernel_rfl) rfl (by decide) ?_
      refine aZ rfl ?_
      refine eH rfl rfl (by decide) ?_
      refine XK.aA ?_
      refine XK.if_ rfl (fun h => ?_) (fun h => ?_)
      ·
       refine XK.seq ?_
       refine XK.region ?_
       refine aH rfl (by decide) ?_
       refine XK.aA ?_
       refine XK.ret ?_
       refine XK.norm ?_
       have ht : nU s wt k id i = true := by
        rw [wD]; unfold vZ vF; first | (simp_all; done) | (simp_all; omega)
       exact XK.aK rfl rfl fun w9 st => ⟨by rw [Te hil ht], st.below (by simp)⟩
      ·
       refine XK.skip ?_
       refine XK.norm ?_
       refine XK.region ?_
       refine dD rfl rfl (aY (by omega)) (by decide) ?_
       refine aF rfl (by decide) ?_
       refine XK.aA ?_
       have fM : nU s wt k id i = false := by
        rw [wD]; unfold vZ vF; first | (simp_all; done) | (simp_all; omega)
       exact XK.weak [1, 2] rfl (by decide) (by simp) (XK.aL [(12, .int .i64 ((i : Int) + 1)), (11, .int .i64 s.aG.length), (10, .slice (some ⟨bV, oV, none⟩) s.aG.length k4), (5, .pointer (some ⟨g2, 0, none⟩)), (3, .pointer (some ⟨g1, 0, none⟩)), (1, .slice Aw nw cw)] (XK.round (s.aG.length - (i + 1)) (by omega) ⟨i + 1, by omega, rfl, rA fM, rfl, rfl, rfl⟩))
     ·
      refine XK.skip ?_
      refine XK.norm ?_
      refine XK.region ?_
      refine dD rfl rfl (aY (by omega)) (by decide) ?_
      refine aF rfl (by decide) ?_
      refine XK.aA ?_
      have fM : nU s wt k id i = false := by
       rw [wD]; unfold vZ vF; first | (simp_all; done) | (simp_all; omega)
      exact XK.weak [1, 2] rfl (by decide) (by simp) (XK.aL [(12, .int .i64 ((i : Int) + 1)), (11, .int .i64 s.aG.length), (10, .slice (some ⟨bV, oV, none⟩) s.aG.length k4), (5, .pointer (some ⟨g2, 0, none⟩)), (3, .pointer (some ⟨g1, 0, none⟩)), (1, .slice Aw nw cw)] (XK.round (s.aG.length - (i + 1)) (by omega) ⟨i + 1, by omega, rfl, rA fM, rfl, rfl, rfl⟩))
 ·
  refine XK.exit ?_
  refine XK.norm ?_
  refine XK.seq ?_
  refine XK.region ?_
  refine aH rfl (by decide) ?_
  refine XK.aA ?_
  refine XK.ret ?_
  refine XK.norm ?_
  have hin : i = s.aG.length := by have h' : ¬ (i : Int) < (s.aG.length : Int) := h; omega
  subst hin
  exact XK.aK rfl rfl fun w9 st => ⟨by rw [aGT hno], st.below (by simp)⟩
theorem iN.box {q : Piece} {x y : bR} {A1 A2 A3 B1 B2 B3 : Option Addr} {n1 k1 n2 k2 n3 k3 m1 l1 m2 l2 m3 l3 : Nat} {w : World} {g : Nat}
  (hx : iN q x y (.agg #[.slice A1 n1 k1, .slice A2 n2 k2, .slice A3 n3 k3, .slice B1 m1 l1, .slice B2 m2 l2, .slice B3 m3 l3])) (hq : q.Le (all w)) (hg : cX w g 0 [.slice A1 n1 k1, .slice A2 n2 k2, .slice A3 n3 k3, .slice B1 m1 l1, .slice B2 m2 l2, .slice B3 m3 l3]) : Ib w g x y := by
 obtain ⟨C1, j1, C2, j2, C3, j3, D1, i1, D2, i2, D3, i3, he, s1, s2, s3, s4, s5, s6⟩ := hx
 simp only [Value.agg.injEq, Array.mk.injEq, List.cons.injEq, Value.slice.injEq] at he
 obtain ⟨⟨rfl, rfl, rfl⟩, ⟨rfl, rfl, rfl⟩, ⟨rfl, rfl, rfl⟩, ⟨rfl, rfl, rfl⟩, ⟨rfl, rfl, rfl⟩, ⟨rfl, rfl, rfl⟩, _⟩ := he
 intro i hi
 rcases (by omega : i = 0 ∨ i = 1) with rfl | rfl
 ·exact ⟨A1, k1, A2, k2, A3, k3, by simpa using hg.at_ (j := 0) rfl, by simpa using hg.at_ (j := 1) rfl, by simpa using hg.at_ (j := 2) rfl, s1.le hq, s2.le hq, s3.le hq⟩
 ·exact ⟨B1, l1, B2, l2, B3, l3, by simpa using hg.at_ (j := 3) rfl, by simpa using hg.at_ (j := 4) rfl, by simpa using hg.at_ (j := 5) rfl, s4.le hq, s5.le hq, s6.le hq⟩
theorem aGm (q qx : Piece) (s : aD) (A1 A2 A3 A4 : Option Addr) (n1 k1 n2 k2 n3 k3 n4 k4 : Nat) (X1 X2 X3 Y1 Y2 Y3 : Option Addr) (tB pQ tA pP sZ pO sY pK sX pJ sW pI : Nat) (x y : bR) (ag : Nat) (k id : Int) (w : World) (mZ : oZ q s A1 n1 A2 n2 A3 n3 A4 n4) (hm : s.iS) (hq : q.Le (all w)) (Aa : iN qx x y (.agg #[.slice X1 tB pQ, .slice X2 tA pP, .slice X3 sZ pO, .slice Y1 sY pK, .slice Y2 sX pJ, .slice Y3 sW pI])) (Fq : qx.Le (all w)) (hag : ag < 2) :
  Calls Tryz.prog 98 #[.agg #[.slice A1 n1 k1, .slice A2 n2 k2, .slice A3 n3 k3, .slice A4 n4 k4], .agg #[.slice X1 tB pQ, .slice X2 tA pP, .slice X3 sZ pO, .slice Y1 sY pK, .slice Y2 sX pJ, .slice Y3 sW pI], .int .i64 (ag : Int), .agg #[.int .u8 k, .int .i64 id]] w (Rt (.bool (Hf s x y ag k id)) w) := by
 refine XK.enter (vs := [.agg #[.slice A1 n1 k1, .slice A2 n2 k2, .slice A3 n3 k3, .slice A4 n4 k4], .agg #[.slice X1 tB pQ, .slice X2 tA pP, .slice X3 sZ pO, .slice Y1 sY pK, .slice Y2 sX pJ, .slice Y3 sW pI], .int .i64 (ag : Int), .agg #[.int .u8 k, .int .i64 id]]) Tryz.func98 rfl Tryz.ntmps98 (by simp) ?_
 refine XK.seq ?_
 refine XK.piece qx (by simp) Fq ?_
 refine XK.piece q (by simp) hq ?_
 obtain ⟨rfl, rfl, rfl, rfl⟩ := mZ.len
 have hnc := hm.nc
 have hnd := hm.nd
 refine XK.region ?_
 refine bY rfl (by decide) fun g1 => ?_
 refine bY rfl (by decide) fun g2 => ?_
 refine bY rfl (by decide) fun g3 => ?_
 refine aH rfl (by decide) ?_
 refine XK.aA ?_
 refine XK.seq ?_
 refine XK.seq ?_
 refine XK.region ?_
 refine aF rfl (by decide) ?_
 refine XK.aA ?_
 refine XK.aL [(13, .int .i64 0), (7, .pointer (some ⟨g3, 0, none⟩)), (5, .pointer (some ⟨g2, 0, none⟩)), (4, .pointer (some ⟨g1, 0, none⟩)), (2, .int .i64 (ag : Int))] ?_
 refine XK.block ?_
 refine XK.loop (fun m e R H => ∃ (i : Nat), i ≤ 2 ∧ m = 2 - i ∧ (∀ j : Nat, j < i → ¬ (j : Int) = ag → kF (if j = 0 then x else y) k id = false) ∧ e = [(13, .int .i64 i), (7, .pointer (some ⟨g3, 0, none⟩)), (5, .pointer (some ⟨g2, 0, none⟩)), (4, .pointer (some ⟨g1, 0, none⟩)), (2, .int .i64 (ag : Int))] ∧ R = [q, qx, all w] ∧ H = [HP.aE g3 63 [.int .u8 k, .int .i64 id], HP.aE g2 71 [.slice X1 tB pQ, .slice X2 tA pP, .slice X3 sZ pO, .slice Y1 sY pK, .slice Y2 sX pJ, .slice Y3 sW pI], HP.aE g1 29 [.slice A1 s.aB.length k1, .slice A2 s.domains.length k2, .slice A3 s.aU.length k3, .slice A4 s.aG.length k4]]) 2 ⟨0, by omega, rfl, (fun j hj => absurd hj (Nat.not_lt_zero j)), rfl, rfl, rfl⟩ fun m e R H hI => ?_
 obtain ⟨i, hi, rfl, hno, rfl, rfl, rfl⟩ := hI
 refine XK.seq ?_
 refine XK.region ?_
 refine fB rfl rfl (by decide) ?_
 refine XK.aA ?_
 refine XK.seq ?_
 refine XK.if_ rfl (fun h => ?_) (fun h => ?_)
 ·
  refine XK.skip ?_
  refine XK.norm ?_
  refine XK.seq ?_
  refine XK.block ?_
  refine XK.seq ?_
  have hi2 : i < 2 := by have h' : (i : Int) < 2 := h; omega
  refine XK.region ?_
  refine aF rfl (by decide) ?_
  refine aH rfl (by decide) ?_
  refine XK.aA ?_
  refine XK.sK 26 (¬ (i : Int) = ag ∧ kF (if i = 0 then x else y) k id = true) ?_ ?_
  ·skip
   refine XK.region ?_
   refine aF rfl (by decide) ?_
   refine aF rfl (by decide) ?_
   refine mQ rfl rfl (by decide) ?_
   refine aF rfl (by decide) ?_
   (first | refine bO (t := 19) rfl (fun hg => ?_) (fun hg => ?_) | refine iX (t := 19) rfl (fun hg => ?_) (fun hg => ?_))
   ·
    refine aO rfl rfl ?_; refine aF rfl (by decide) ?_
    refine aO rfl rfl ?_; refine aW (off := 0) (by kernel_rfl) rfl (by decide) ?_
    refine aO rfl rfl ?_; refine aZ rfl ?_
    refine aO rfl rfl ?_; refine aW (off := 1) (by kernel_rfl) rfl (by decide) ?_
    refine aO rfl rfl ?_; refine aZ rfl ?_
    refine aO rfl rfl ?_; refine bA (f := 95) (fi := []) (ca := []) (by kernel_rfl) rfl rfl (by decide) (fun w1 st => Np g2 i (if i = 0 then x else y) k id w1 hi2 (iN.box Aa (st.le (by simp)) (st.box (i := 1) rfl) i hi2)) ?_
    (first | refine bJ rfl rfl (by decide) ?_ | refine bK rfl rfl (by decide) ?_)
    refine XK.aA ?_
    exact XK.lY
   ·
    refine aN rfl rfl rfl (by decide) ?_
    refine aN rfl rfl rfl (by decide) ?_
    refine aN rfl rfl rfl (by decide) ?_
    refine aN rfl rfl rfl (by decide) ?_
    refine aN rfl rfl rfl (by decide) ?_
    refine aN rfl rfl rfl (by decide) ?_
    (first | refine bJ rfl rfl (by decide) ?_ | refine bK rfl rfl (by decide) ?_)
    refine XK.aA ?_
    exact XK.lY
  refine XK.if_ rfl (fun h4 => ?_) (fun h4 => ?_)
  ·
   refine XK.seq ?_
   refine XK.region ?_
   refine aH rfl (by decide) ?_
   refine XK.aA ?_
   refine XK.ret ?_
   refine XK.norm ?_
   have Kw : kF (if ag = 0 then y else x) k id = true := by
    have h5 := h4.2
    rcases (by omega : ag = 0 ∨ ag = 1) with rfl | rfl <;> rcases (by omega : i = 0 ∨ i = 1) with rfl | rfl <;> simp_all
   exact XK.aK rfl rfl fun w9 st => ⟨by rw [Hf, Kw]; rfl, st.below (by simp)⟩
  ·
   refine XK.skip ?_
   refine XK.norm ?_
   refine XK.region ?_
   refine dD rfl rfl (aY (by omega)) (by decide) ?_
   refine aF rfl (by decide) ?_
   refine XK.aA ?_
   have rA : ∀ j : Nat, j < i + 1 → ¬ (j : Int) = ag → kF (if j = 0 then x else y) k id = false := fun j hj Yt => by
    rcases Nat.lt_or_ge j i with h1 | h1
    ·exact hno j h1 Yt
    ·have hji : j = i := by omega
     subst hji
     cases hb : kF (if j = 0 then x else y) k id with
     | false => rfl
     | true => exact absurd ⟨Yt, hb⟩ h4
   exact XK.aL [(13, .int .i64 ((i : Int) + 1)), (7, .pointer (some ⟨g3, 0, none⟩)), (5, .pointer (some ⟨g2, 0, none⟩)), (4, .pointer (some ⟨g1, 0, none⟩)), (2, .int .i64 (ag : Int))] (XK.round (2 - (i + 1)) (by omega) ⟨i + 1, by omega, rfl, rA, rfl, rfl, rfl⟩)
 ·
  refine XK.exit ?_
  refine XK.norm ?_
  refine XK.seq ?_
  refine XK.seq ?_
  have Kw : kF (if ag = 0 then y else x) k id = false := by
   have hi2 : i = 2 := by have h' : ¬ (i : Int) < 2 := h; omega
   subst hi2
   rcases (by omega : ag = 0 ∨ ag = 1) with rfl | rfl
   ·exact hno 1 (by omega) (by decide)
   ·exact hno 0 (by omega) (by decide)
  have Gg : Hf s x y ag k id = Ch s x y k id := by rw [Hf, Kw, Bool.false_or]
  clear hno Kw
  refine XK.region ?_
  refine aW (off := 0) (by kernel_rfl) rfl (by decide) ?_
  refine aZ rfl ?_
  refine XK.aA ?_
  refine XK.block ?_
  refine XK.sK 30 (k = 100 ∨ k = 107) ?_ ?_
  ·skip
   refine XK.seq ?_
   refine XK.region ?_
   refine eH rfl rfl (by decide) ?_
   refine aH rfl (by decide) ?_
   refine XK.aA ?_
   refine XK.if_ rfl (fun h => ?_) (fun h => ?_)
   ·
    refine XK.skip ?_
    refine XK.norm ?_
    exact XK.lY
   ·
    refine XK.region ?_
    refine eH rfl rfl (by decide) ?_
    refine aH rfl (by decide) ?_
    refine XK.aA ?_
    exact XK.lY
  refine XK.if_ rfl (fun h => ?_) (fun h => ?_)
  ·
   refine XK.seq ?_
   have zK : k = 100 ∨ k = 107 := by first | assumption | simp_all
   have zM : wE s k = s.domains.length := by rw [wE, if_pos zK]
   refine XK.region ?_
   refine aW (off := 1) (by kernel_rfl) rfl (by decide) ?_
   refine aZ rfl ?_
   refine cY (el := 75) (by kernel_rfl) rfl (by decide) ?_
   refine aF rfl (by decide) ?_
   refine XK.aA ?_
   refine XK.aL [(36, .int .i64 0), (35, .int .i64 s.domains.length), (34, .slice A2 s.domains.length k2), (7, .pointer (some ⟨g3, 0, none⟩)), (5, .pointer (some ⟨g2, 0, none⟩)), (4, .pointer (some ⟨g1, 0, none⟩)), (2, .int .i64 (ag : Int))] ?_
   refine XK.block ?_
   refine XK.loop (fun m e R H => ∃ (i : Nat), i ≤ s.domains.length ∧ m = s.domains.length - i ∧ (∀ j, j < i → lN s x y k id j = false) ∧ e = [(36, .int .i64 i), (35, .int .i64 s.domains.length), (34, .slice A2 s.domains.length k2), (7, .pointer (some ⟨g3, 0, none⟩)), (5, .pointer (some ⟨g2, 0, none⟩)), (4, .pointer (some ⟨g1, 0, none⟩)), (2, .int .i64 (ag : Int))] ∧ R = [q, qx, all w] ∧ H = [HP.aE g3 63 [.int .u8 k, .int .i64 id], HP.aE g2 71 [.slice X1 tB pQ, .slice X2 tA pP, .slice X3 sZ pO, .slice Y1 sY pK, .slice Y2 sX pJ, .slice Y3 sW pI], HP.aE g1 29 [.slice A1 s.aB.length k1, .slice A2 s.domains.length k2, .slice A3 s.aU.length k3, .slice A4 s.aG.length k4]]) s.domains.length ⟨0, by omega, rfl, (fun j hj => absurd hj (Nat.not_lt_zero j)), rfl, rfl, rfl⟩ fun m e R H hI => ?_
   obtain ⟨i, hi, rfl, hno, rfl, rfl, rfl⟩ := hI
   refine XK.seq ?_
   refine XK.region ?_
   refine fB rfl rfl (by decide) ?_
   refine XK.aA ?_
   refine XK.seq ?_
   refine XK.if_ rfl (fun h => ?_) (fun h => ?_)
   ·
    refine XK.skip ?_
    refine XK.norm ?_
    refine XK.seq ?_
    refine XK.block ?_
    refine XK.seq ?_
    have hil : i < s.domains.length := by have h' : (i : Int) < (s.domains.length : Int) := h; omega
    obtain ⟨d, hd⟩ : ∃ d, s.domains[i]? = some d := ⟨_, List.getElem?_eq_getElem hil⟩
    obtain ⟨bD, oD, rD, rfl, Pu, _, rfl, Lh⟩ := mZ.dom.vM hd
    have rA : lN s x y k id i = false → ∀ j, j < i + 1 → lN s x y k id j = false := fun h j hj => by
     rcases Nat.lt_or_ge j i with h1 | h1
     ·exact hno j h1
     ·have hji : j = i := by omega
      subst hji; exact h
    have iF : lN s x y k id i = (decide (d.above = id) && lW x y k i) := by rw [lN, if_pos zK, hd]; rfl
    refine XK.region ?_
    refine aF rfl (by decide) ?_
    refine dB (i) (oD + i * 3) (el := 75) (sz := 3) (by kernel_rfl) (by kernel_rfl) rfl rfl (by omega) (by omega) (by omega) (by decide) ?_
    refine tC 3 (by kernel_rfl) rfl (aC.of (vs := [.int .i64 d.above, .int .i64 d.delay, .bool d.ret]) fun f v hf => Rd.ro (p := q) (by simp) Pu (Lh f v hf)) rfl (by decide) ?_
    refine cD (cs := [.int .i64 0, .int .i64 0, .bool false]) (aM (by kernel_rfl)) (by decide) fun g4 => ?_
    refine aH rfl (by decide) ?_
    refine eA rfl rfl ?_; simp only [bZ, Value.cells, List.set, List.take, List.drop, List.nil_append, List.append_nil, List.length_cons, List.length_nil, List.cons_append, Nat.reduceAdd]
    refine XK.aA ?_
    refine XK.sK 51 (d.above = id ∧ lW x y k i = true) ?_ ?_
    ·skip
     refine XK.region ?_
     refine aW (off := 0) (by kernel_rfl) rfl (by decide) ?_
     refine aZ rfl ?_
     refine aW (off := 1) (by kernel_rfl) rfl (by decide) ?_
     refine aZ rfl ?_
     refine eH rfl rfl (by decide) ?_
     refine aF rfl (by decide) ?_
     (first | refine bO (t := 46) rfl (fun hg => ?_) (fun hg => ?_) | refine iX (t := 46) rfl (fun hg => ?_) (fun hg => ?_))
     ·
      refine aO rfl rfl ?_; refine aW (off := 0) (by kernel_rfl) rfl (by decide) ?_
      refine aO rfl rfl ?_; refine aZ rfl ?_
      refine aO rfl rfl ?_; refine aF rfl (by decide) ?_
      refine aO rfl rfl ?_; refine bA (f := 97) (fi := []) (ca := []) (by kernel_rfl) rfl rfl (by decide) (fun w1 st => Nq g2 x y k i w1 (iN.box Aa (st.le (by simp)) (st.box (i := 2) rfl))) ?_
      (first | refine bJ rfl rfl (by decide) ?_ | refine bK rfl rfl (by decide) ?_)
      refine XK.aA ?_
      exact XK.lY
     ·
      refine aN rfl rfl rfl (by decide) ?_
      refine aN rfl rfl rfl (by decide) ?_
      refine aN rfl rfl rfl (by decide) ?_
      refine aN rfl rfl rfl (by decide) ?_
      (first | refine bJ rfl rfl (by decide) ?_ | refine bK rfl rfl (by decide) ?_)
      refine XK.aA ?_
      exact XK.lY
    refine XK.if_ rfl (fun h4 => ?_) (fun h4 => ?_)
    ·
     refine XK.seq ?_
     refine XK.region ?_
     refine aH rfl (by decide) ?_
     refine XK.aA ?_
     refine XK.ret ?_
     refine XK.norm ?_
     have ht : lN s x y k id i = true := by rw [iF]; simp [h4.1, h4.2]
     exact XK.aK rfl rfl fun w9 st => ⟨by rw [Gg, Zo (by rw [zM]; exact hil) ht], st.below (by simp)⟩
    ·
     refine XK.skip ?_
     refine XK.norm ?_
     refine XK.region ?_
     refine dD rfl rfl (aY (by omega)) (by decide) ?_
     refine aF rfl (by decide) ?_
     refine XK.aA ?_
     have fM : lN s x y k id i = false := by
      rw [iF]
      by_cases h5 : d.above = id
      ·have h6 : lW x y k i = false := by cases hb : lW x y k i with
        | false => rfl
        | true => exact absurd ⟨h5, hb⟩ h4
       rw [h6, Bool.and_false]
      ·simp [h5]
     exact XK.weak [1, 2, 3] rfl (by decide) (by simp) (XK.aL [(36, .int .i64 ((i : Int) + 1)), (35, .int .i64 s.domains.length), (34, .slice (some ⟨bD, oD, none⟩) s.domains.length k2), (7, .pointer (some ⟨g3, 0, none⟩)), (5, .pointer (some ⟨g2, 0, none⟩)), (4, .pointer (some ⟨g1, 0, none⟩)), (2, .int .i64 (ag : Int))] (XK.round (s.domains.length - (i + 1)) (by omega) ⟨i + 1, by omega, rfl, rA fM, rfl, rfl, rfl⟩))
   ·
    refine XK.exit ?_
    refine XK.norm ?_
    refine XK.seq ?_
    refine XK.region ?_
    refine aH rfl (by decide) ?_
    refine XK.aA ?_
    refine XK.ret ?_
    refine XK.norm ?_
    have hin : i = s.domains.length := by have h' : ¬ (i : Int) < (s.domains.length : Int) := h; omega
    subst hin
    exact XK.aK rfl rfl fun w9 st => ⟨by rw [Gg, Rk (by rw [zM]; exact hno)], st.below (by simp)⟩
  ·
   refine XK.seq ?_
   refine XK.region ?_
   refine eH rfl rfl (by decide) ?_
   refine aH rfl (by decide) ?_
   refine XK.aA ?_
   refine XK.if_ rfl (fun Qv => ?_) (fun Qv => ?_)
   ·
    refine XK.seq ?_
    have zK : ¬ (k = 100 ∨ k = 107) := by first | assumption | simp_all
    have zM : wE s k = s.aB.length := by rw [wE, if_neg zK, if_pos Qv]
    refine XK.region ?_
    refine aW (off := 0) (by kernel_rfl) rfl (by decide) ?_
    refine aZ rfl ?_
    refine cY (el := 118) (by kernel_rfl) rfl (by decide) ?_
    refine aF rfl (by decide) ?_
    refine XK.aA ?_
    refine XK.aL [(58, .int .i64 0), (57, .int .i64 s.aB.length), (7, .pointer (some ⟨g3, 0, none⟩)), (5, .pointer (some ⟨g2, 0, none⟩)), (4, .pointer (some ⟨g1, 0, none⟩)), (2, .int .i64 (ag : Int))] ?_
    refine XK.block ?_
    refine XK.loop (fun m e R H => ∃ (i : Nat), i ≤ s.aB.length ∧ m = s.aB.length - i ∧ (∀ j, j < i → lN s x y k id j = false) ∧ e = [(58, .int .i64 i), (57, .int .i64 s.aB.length), (7, .pointer (some ⟨g3, 0, none⟩)), (5, .pointer (some ⟨g2, 0, none⟩)), (4, .pointer (some ⟨g1, 0, none⟩)), (2, .int .i64 (ag : Int))] ∧ R = [q, qx, all w] ∧ H = [HP.aE g3 63 [.int .u8 k, .int .i64 id], HP.aE g2 71 [.slice X1 tB pQ, .slice X2 tA pP, .slice X3 sZ pO, .slice Y1 sY pK, .slice Y2 sX pJ, .slice Y3 sW pI], HP.aE g1 29 [.slice A1 s.aB.length k1, .slice A2 s.domains.length k2, .slice A3 s.aU.length k3, .slice A4 s.aG.length k4]]) s.aB.length ⟨0, by omega, rfl, (fun j hj => absurd hj (Nat.not_lt_zero j)), rfl, rfl, rfl⟩ fun m e R H hI => ?_
    obtain ⟨i, hi, rfl, hno, rfl, rfl, rfl⟩ := hI
    refine XK.seq ?_
    refine XK.region ?_
    refine fB rfl rfl (by decide) ?_
    refine XK.aA ?_
    refine XK.seq ?_
    refine XK.if_ rfl (fun h => ?_) (fun h => ?_)
    ·
     refine XK.skip ?_
     refine XK.norm ?_
     refine XK.seq ?_
     refine XK.block ?_
     refine XK.seq ?_
     have hil : i < s.aB.length := by have h' : (i : Int) < (s.aB.length : Int) := h; omega
     have rA : lN s x y k id i = false → ∀ j, j < i + 1 → lN s x y k id j = false := fun h j hj => by
      rcases Nat.lt_or_ge j i with h1 | h1
      ·exact hno j h1
      ·have hji : j = i := by omega
       subst hji; exact h
     have iF : lN s x y k id i = (decide ((i : Int) ≠ id) && (lW x y k i && decide (id ∈ gJ (iH s i)))) := by rw [lN, if_neg zK, vF, Int.toNat_natCast]
     refine XK.region ?_
     refine aF rfl (by decide) ?_
     refine aH rfl (by decide) ?_
     refine XK.aA ?_
     refine XK.seq ?_
     refine XK.draw 16 (by kernel_rfl) (by kernel_rfl) ?_
     refine XA.dA 0 rfl rfl rfl (cE rfl) ?_
     refine XA.dA 1 rfl rfl rfl (iV (off := 1) (by kernel_rfl) rfl) ?_
     refine XA.dA 2 rfl rfl rfl (qF rfl) ?_
     refine XA.dA 3 rfl rfl rfl (Cs rfl rfl) ?_
     refine XA.dA 4 rfl rfl rfl (cE rfl) ?_
     (first | refine XA.split (t := 65) rfl (fun hg => ?_) (fun hg => ?_) | refine XA.Ed (t := 65) rfl (fun hg => ?_) (fun hg => ?_))
     ·
      refine XA.dT 5 rfl rfl rfl (iV (off := 0) (by kernel_rfl) rfl) ?_
      refine XA.dT 6 rfl rfl rfl (qF rfl) ?_
      refine XA.dT 7 rfl rfl rfl (cE rfl) ?_
      refine XA.next 8 rfl (by kernel_rfl) ?_
      refine aO rfl rfl ?_; refine bA (f := 97) (fi := []) (ca := []) (by kernel_rfl) rfl rfl (by decide) (fun w1 st => Nq g2 x y k i w1 (iN.box Aa (st.le (by simp)) (st.box (i := 1) rfl))) ?_
      refine XA.bk ?_
      refine XA.dA 9 rfl rfl rfl (by first | exact xW rfl rfl | exact xX rfl rfl) ?_
      refine XA.dA 10 rfl rfl rfl (cE rfl) ?_
      (first | refine XA.split (t := 71) rfl (fun hg => ?_) (fun hg => ?_) | refine XA.Ed (t := 71) rfl (fun hg => ?_) (fun hg => ?_))
      ·
       refine XA.dT 11 rfl rfl rfl (Ct 4 rfl) ?_
       refine XA.dT 12 rfl rfl rfl (cE rfl) ?_
       refine XA.dT 14 rfl rfl rfl (iV (off := 1) (by kernel_rfl) rfl) ?_
       refine XA.dT 15 rfl rfl rfl (qF rfl) ?_
       refine XA.next 13 rfl (by kernel_rfl) ?_
       refine aO rfl rfl ?_; refine jX [q] (f := 89) (fi := []) (ca := []) (by kernel_rfl) rfl rfl (by decide) (by simp) (Di (iH s i)) (fun w2 st => Sz q s _ _ _ _ _ k1 _ k2 _ k3 _ k4 i w2 mZ hm (st.le (by simp)) (by omega)) ?_
       rintro _ w2 q1 ⟨Ac, cc, rfl, fX⟩ hf hle _
       have fX := fX.le hf
       have aES := Ta s s.aB.length i
       refine XA.bk ?_
       refine XA.next 16 rfl (by kernel_rfl) ?_
       refine aO rfl rfl ?_; refine bA (f := 180) (fi := []) (ca := []) (by kernel_rfl) rfl rfl (by decide) (fun w3 st => aA9 Ac _ cc (gJ (iH s i)) id w3 (fX.le (st.le (by simp))) (by simp [gJ]) (by unfold iH; omega)) ?_
       refine XA.bt ?_
       refine XA.next 17 rfl (by kernel_rfl) ?_
       (first | refine bJ rfl rfl (by decide) ?_ | refine bK rfl rfl (by decide) ?_)
       refine XA.bt ?_
       refine XA.done (by kernel_rfl) ?_
       refine XK.norm ?_
       refine XK.if_ rfl (fun h => ?_) (fun h => ?_)
       ·
        refine XK.seq ?_
        refine XK.region ?_
        refine aH rfl (by decide) ?_
        refine XK.aA ?_
        refine XK.ret ?_
        refine XK.norm ?_
        have ht : lN s x y k id i = true := by
         rw [iF]; first | (simp_all; done) | (simp_all; omega)
        exact XK.aK rfl rfl fun w9 st => ⟨by rw [Gg, Zo (by rw [zM]; exact hil) ht], st.below (by simp)⟩
       ·
        refine XK.skip ?_
        refine XK.norm ?_
        refine XK.region ?_
        refine dD rfl rfl (aY (by omega)) (by decide) ?_
        refine aF rfl (by decide) ?_
        refine XK.aA ?_
        have fM : lN s x y k id i = false := by
         rw [iF]; first | (simp_all; done) | (simp_all; omega)
        refine XK.Bj (R' := [q, qx, all w]) (by simp) ?_
        exact XK.aL [(58, .int .i64 ((i : Int) + 1)), (57, .int .i64 s.aB.length), (7, .pointer (some ⟨g3, 0, none⟩)), (5, .pointer (some ⟨g2, 0, none⟩)), (4, .pointer (some ⟨g1, 0, none⟩)), (2, .int .i64 (ag : Int))] (XK.round (s.aB.length - (i + 1)) (by omega) ⟨i + 1, by omega, rfl, rA fM, rfl, rfl, rfl⟩)
      ·
       refine XA.dF 11 rfl rfl rfl rfl ?_
       refine XA.dF 12 rfl rfl rfl rfl ?_
       refine XA.dF 13 rfl rfl rfl rfl ?_
       refine XA.dF 14 rfl rfl rfl rfl ?_
       refine XA.dF 15 rfl rfl rfl rfl ?_
       refine XA.next 16 rfl (by kernel_rfl) ?_
       refine aN rfl rfl rfl (by decide) ?_
       refine XA.bt ?_
       refine XA.next 17 rfl (by kernel_rfl) ?_
       (first | refine bJ rfl rfl (by decide) ?_ | refine bK rfl rfl (by decide) ?_)
       refine XA.bt ?_
       refine XA.done (by kernel_rfl) ?_
       refine XK.norm ?_
       refine XK.cond rfl (fun h => by cases h) (fun _ => ?_)
       refine XK.skip ?_
       refine XK.norm ?_
       refine XK.region ?_
       refine dD rfl rfl (aY (by omega)) (by decide) ?_
       refine aF rfl (by decide) ?_
       refine XK.aA ?_
       have fM : lN s x y k id i = false := by
        rw [iF]; first | (simp_all; done) | (simp_all; omega)
       refine XK.Bj (R' := [q, qx, all w]) (by simp) ?_
       exact XK.aL [(58, .int .i64 ((i : Int) + 1)), (57, .int .i64 s.aB.length), (7, .pointer (some ⟨g3, 0, none⟩)), (5, .pointer (some ⟨g2, 0, none⟩)), (4, .pointer (some ⟨g1, 0, none⟩)), (2, .int .i64 (ag : Int))] (XK.round (s.aB.length - (i + 1)) (by omega) ⟨i + 1, by omega, rfl, rA fM, rfl, rfl, rfl⟩)
     ·
      refine XA.dF 5 rfl rfl rfl rfl ?_
      refine XA.dF 6 rfl rfl rfl rfl ?_
      refine XA.dF 7 rfl rfl rfl rfl ?_
      refine XA.dF 8 rfl rfl rfl rfl ?_
      refine XA.dA 9 rfl rfl rfl (by first | exact xW rfl rfl | exact xX rfl rfl) ?_
      refine XA.dA 10 rfl rfl rfl (cE rfl) ?_
      refine XA.dF 11 rfl rfl rfl rfl ?_
      refine XA.dF 12 rfl rfl rfl rfl ?_
      refine XA.dF 13 rfl rfl rfl rfl ?_
      refine XA.dF 14 rfl rfl rfl rfl ?_
      refine XA.dF 15 rfl rfl rfl rfl ?_
      refine XA.next 16 rfl (by kernel_rfl) ?_
      refine aN rfl rfl rfl (by decide) ?_
      refine XA.bt ?_
      refine XA.next 17 rfl (by kernel_rfl) ?_
      (first | refine bJ rfl rfl (by decide) ?_ | refine bK rfl rfl (by decide) ?_)
      refine XA.bt ?_
      refine XA.done (by kernel_rfl) ?_
      refine XK.norm ?_
      refine XK.cond rfl (fun h => by cases h) (fun _ => ?_)
      refine XK.skip ?_
      refine XK.norm ?_
      refine XK.region ?_
      refine dD rfl rfl (aY (by omega)) (by decide) ?_
      refine aF rfl (by decide) ?_
      refine XK.aA ?_
      have fM : lN s x y k id i = false := by
       rw [iF]; first | (simp_all; done) | (simp_all; omega)
      refine XK.Bj (R' := [q, qx, all w]) (by simp) ?_
      exact XK.aL [(58, .int .i64 ((i : Int) + 1)), (57, .int .i64 s.aB.length), (7, .pointer (some ⟨g3, 0, none⟩)), (5, .pointer (some ⟨g2, 0, none⟩)), (4, .pointer (some ⟨g1, 0, none⟩)), (2, .int .i64 (ag : Int))] (XK.round (s.aB.length - (i + 1)) (by omega) ⟨i + 1, by omega, rfl, rA fM, rfl, rfl, rfl⟩)
    ·
     refine XK.exit ?_
     refine XK.norm ?_
     refine XK.seq ?_
     refine XK.region ?_
     refine aH rfl (by decide) ?_
     refine XK.aA ?_
     refine XK.ret ?_
     refine XK.norm ?_
     have hin : i = s.aB.length := by have h' : ¬ (i : Int) < (s.aB.length : Int) := h; omega
     subst hin
     exact XK.aK rfl rfl fun w9 st => ⟨by rw [Gg, Rk (by rw [zM]; exact hno)], st.below (by simp)⟩
   ·
    refine XK.skip ?_
    refine XK.norm ?_
    refine XK.seq ?_
    refine XK.region ?_
    refine aH rfl (by decide) ?_
    refine XK.aA ?_
    refine XK.ret ?_
    refine XK.norm ?_
    have zK : ¬ (k = 100 ∨ k = 107) := by first | assumption | simp_all
    have zM : wE s k = 0 := by rw [wE, if_neg zK, if_neg Qv]
    exact XK.aK rfl rfl fun w9 st => ⟨by rw [Gg, Rk (by rw [zM]; exact fun j hj => absurd hj (Nat.not_lt_zero j))], st.below (by simp)⟩
end
section
theorem Mh (q qx : Piece) (s : aD) (A1 A2 A3 A4 : Option Addr) (n1 k1 n2 k2 n3 k3 n4 k4 : Nat) (X1 X2 X3 Y1 Y2 Y3 : Option Addr) (tB pQ tA pP sZ pO sY pK sX pJ sW pI : Nat) (x y : bR) (Aw : Option Addr) (nw cw : Nat) (wt : List Int) (ag : Nat) (Al : Option Addr) (nl cl : Nat) (l : List Int) (w : World) (mZ : oZ q s A1 n1 A2 n2 A3 n3 A4 n4) (hm : s.iS) (hq : q.Le (all w)) (Aa : iN qx x y (.agg #[.slice X1 tB pQ, .slice X2 tA pP, .slice X3 sZ pO, .slice Y1 sY pK, .slice Y2 sX pJ, .slice Y3 sW pI])) (Fq : qx.Le (all w)) (hw : aI (all w) 1 Aw nw (aR wt)) (Kx : nw = wt.length) (hag : ag < 2) (hl : aI (all w) 1 Al nl (iI l)) (iT : nl = l.length) (aE3 : nl ≤ 1000000) (hu : fO l) :
  Calls Tryz.prog 32 #[.agg #[.slice A1 n1 k1, .slice A2 n2 k2, .slice A3 n3 k3, .slice A4 n4 k4], .agg #[.slice X1 tB pQ, .slice X2 tA pP, .slice X3 sZ pO, .slice Y1 sY pK, .slice Y2 sX pJ, .slice Y3 sW pI], .slice Aw nw cw, .int .i64 (ag : Int), .slice Al nl cl] w (Rt (Df (fT s x y wt ag l)) w) := by
 generalize hrd : dV s l = rd
 obtain ⟨st, k, id⟩ := rd
 refine XK.enter (vs := [.agg #[.slice A1 n1 k1, .slice A2 n2 k2, .slice A3 n3 k3, .slice A4 n4 k4], .agg #[.slice X1 tB pQ, .slice X2 tA pP, .slice X3 sZ pO, .slice Y1 sY pK, .slice Y2 sX pJ, .slice Y3 sW pI], .slice Aw nw cw, .int .i64 (ag : Int), .slice Al nl cl]) Tryz.func32 rfl Tryz.ntmps32 (by simp) ?_
 refine XK.seq ?_
 refine XK.piece qx (by simp) Fq ?_
 refine XK.piece q (by simp) hq ?_
 refine XK.region ?_
 refine bY rfl (by decide) fun g1 => ?_
 refine bY rfl (by decide) fun g2 => ?_
 refine aH rfl (by decide) ?_
 refine cD (cs := [.int .u8 0, .int .i64 0]) (aM (by kernel_rfl)) (by decide) fun g3 => ?_
 refine XK.aA ?_
 refine XK.seq ?_
 refine XK.sK 25 (False) ?_ ?_
 ·skip
  refine XK.region ?_
  refine aF rfl (by decide) ?_
  refine fB rfl rfl (by decide) ?_
  refine aF rfl (by decide) ?_
  (first | refine bO (t := 17) rfl (fun hg => ?_) (fun hg => ?_) | refine iX (t := 17) rfl (fun hg => ?_) (fun hg => ?_))
  ·
   refine aN rfl rfl rfl (by decide) ?_
   refine aN rfl rfl rfl (by decide) ?_
   (first | refine bJ rfl rfl (by decide) ?_ | refine bK rfl rfl (by decide) ?_)
   refine aF rfl (by decide) ?_
   refine aN rfl rfl rfl (by decide) ?_
   refine aN rfl rfl rfl (by decide) ?_
   refine aN rfl rfl rfl (by decide) ?_
   (first | refine bJ rfl rfl (by decide) ?_ | refine bK rfl rfl (by decide) ?_)
   refine XK.aA ?_
   exact XK.lY
  ·
   refine aO rfl rfl ?_; refine aF rfl (by decide) ?_
   refine aO rfl rfl ?_; refine uK rfl rfl (by decide) ?_
   (first | refine bJ rfl rfl (by decide) ?_ | refine bK rfl rfl (by decide) ?_)
   refine aF rfl (by decide) ?_
   (first | refine bO (t := 21) rfl (fun hg => ?_) (fun hg => ?_) | refine iX (t := 21) rfl (fun hg => ?_) (fun hg => ?_))
   ·
    refine aN rfl rfl rfl (by decide) ?_
    refine aN rfl rfl rfl (by decide) ?_
    refine aN rfl rfl rfl (by decide) ?_
    (first | refine bJ rfl rfl (by decide) ?_ | refine bK rfl rfl (by decide) ?_)
    refine XK.aA ?_
    exact XK.lY
   ·
    refine aO rfl rfl ?_; refine gB 4 rfl ?_
    refine aO rfl rfl ?_; refine bA (f := 59) (fi := []) (ca := []) (by kernel_rfl) rfl rfl (by decide) (v0 := .int .i64 0) (fun w1 st => (aAE s A1 A2 A3 A4 n1 k1 n2 k2 n3 k3 n4 k4 w1 (mZ.W (st.le (by simp)) hm.small)).mono fun _ _ h => Rt.conv h (by rw [hm.Da])) ?_
    refine aO rfl rfl ?_; refine mQ rfl rfl (by decide) ?_
    (first | refine bJ rfl rfl (by decide) ?_ | refine bK rfl rfl (by decide) ?_)
    refine XK.aA ?_
    exact XK.lY
 refine XK.cond rfl (fun h => by simp at h) (fun h => ?_)
 ·
  refine XK.skip ?_
  refine XK.norm ?_
  refine XK.seq ?_
  refine XK.region ?_
  refine gB 4 rfl ?_
  refine aF rfl (by decide) ?_
  refine bA (f := 94) (fi := []) (ca := []) (by kernel_rfl) rfl rfl (by decide) (v0 := .tuple #[.int .i32 st, .agg #[.int .u8 k, .int .i64 id]]) (fun w1 st => (aCN s A1 A2 A3 A4 n1 k1 n2 k2 n3 k3 n4 k4 Al nl cl l w1 (mZ.W (st.le (by simp)) hm.small) (hl.le (st.le (by simp))) iT aE3 hu).mono fun _ _ h => Rt.conv h (by rw [hrd]; rfl)) ?_
  refine aF rfl (by decide) ?_
  refine nG rfl rfl (by decide) ?_
  refine nG rfl rfl (by decide) ?_
  refine cD (cs := [.int .u8 0, .int .i64 0]) (aM (by kernel_rfl)) (by decide) fun g4 => ?_
  refine aH rfl (by decide) ?_
  refine eA rfl rfl ?_; simp only [bZ, Value.cells, List.set, List.take, List.drop, List.nil_append, List.append_nil, List.length_cons, List.length_nil, List.cons_append, Nat.reduceAdd]
  refine XK.aA ?_
  refine XK.seq ?_
  refine XK.sK 51 (st ≠ 0 ∨ k = 0 ∨ kF (if ag = 0 then x else y) k id = decide (fJ k)) ?_ ?_
  ·skip
   refine XK.draw 16 (by kernel_rfl) (by kernel_rfl) ?_
   refine XA.dA 0 rfl rfl rfl (cE rfl) ?_
   refine XA.dA 1 rfl rfl rfl (Cs rfl rfl) ?_
   refine XA.dA 2 rfl rfl rfl (cE rfl) ?_
   (first | refine XA.split (t := 35) rfl (fun hg => ?_) (fun hg => ?_) | refine XA.Ed (t := 35) rfl (fun hg => ?_) (fun hg => ?_))
   ·
    refine XA.dF 3 rfl rfl rfl rfl ?_
    refine XA.dF 4 rfl rfl rfl rfl ?_
    refine XA.dF 5 rfl rfl rfl rfl ?_
    refine XA.dA 6 rfl rfl rfl (by first | exact xW rfl rfl | exact xX rfl rfl) ?_
    refine XA.dA 7 rfl rfl rfl (cE rfl) ?_
    refine XA.dF 8 rfl rfl rfl rfl ?_
    refine XA.dF 9 rfl rfl rfl rfl ?_
    refine XA.dF 10 rfl rfl rfl rfl ?_
    refine XA.dF 11 rfl rfl rfl rfl ?_
    refine XA.dF 12 rfl rfl rfl rfl ?_
    refine XA.dF 13 rfl rfl rfl rfl ?_
    refine XA.dF 14 rfl rfl rfl rfl ?_
    refine XA.dF 15 rfl rfl rfl rfl ?_
    refine XA.next 16 rfl (by kernel_rfl) ?_
    refine aN rfl rfl rfl (by decide) ?_
    refine XA.bt ?_
    refine XA.next 17 rfl (by kernel_rfl) ?_
    refine aN rfl rfl rfl (by decide) ?_
    refine XA.bt ?_
    refine XA.next 18 rfl (by kernel_rfl) ?_
    (first | refine bJ rfl rfl (by decide) ?_ | refine bK rfl rfl (by decide) ?_)
    refine XA.bt ?_
    refine XA.done (by kernel_rfl) ?_
    refine XK.norm ?_
    exact XK.lY
   ·
    refine XA.dT 3 rfl rfl rfl (iV (off := 0) (by kernel_rfl) rfl) ?_
    refine XA.dT 4 rfl rfl rfl (qF rfl) ?_
    refine XA.dT 5 rfl rfl rfl (Au rfl rfl) ?_
    refine XA.dA 6 rfl rfl rfl (by first | exact xW rfl rfl | exact xX rfl rfl) ?_
    refine XA.dA 7 rfl rfl rfl (cE rfl) ?_
    (first | refine XA.split (t := 40) rfl (fun hg => ?_) (fun hg => ?_) | refine XA.Ed (t := 40) rfl (fun hg => ?_) (fun hg => ?_))
    ·
     refine XA.dF 8 rfl rfl rfl rfl ?_
     refine XA.dF 9 rfl rfl rfl rfl ?_
     refine XA.dF 10 rfl rfl rfl rfl ?_
     refine XA.dF 11 rfl rfl rfl rfl ?_
     refine XA.dF 12 rfl rfl rfl rfl ?_
     refine XA.dF 13 rfl rfl rfl rfl ?_
     refine XA.dF 14 rfl rfl rfl rfl ?_
     refine XA.dF 15 rfl rfl rfl rfl ?_
     refine XA.next 16 rfl (by kernel_rfl) ?_
     refine aN rfl rfl rfl (by decide) ?_
     refine XA.bt ?_
     refine XA.next 17 rfl (by kernel_rfl) ?_
     refine aN rfl rfl rfl (by decide) ?_
     refine XA.bt ?_
     refine XA.next 18 rfl (by kernel_rfl) ?_
     (first | refine bJ rfl rfl (by decide) ?_ | refine bK rfl rfl (by decide) ?_)
     refine XA.bt ?_
     refine XA.done (by kernel_rfl) ?_
     refine XK.norm ?_
     exact XK.lY
    ·
     refine XA.dT 8 rfl rfl rfl (cE rfl) ?_
     refine XA.dT 9 rfl rfl rfl (iV (off := 0) (by kernel_rfl) rfl) ?_
     refine XA.dT 10 rfl rfl rfl (qF rfl) ?_
     refine XA.dT 11 rfl rfl rfl (iV (off := 1) (by kernel_rfl) rfl) ?_
     refine XA.dT 12 rfl rfl rfl (qF rfl) ?_
     refine XA.dT 14 rfl rfl rfl (iV (off := 0) (by kernel_rfl) rfl) ?_
     refine XA.dT 15 rfl rfl rfl (qF rfl) ?_
     refine XA.next 13 rfl (by kernel_rfl) ?_
     refine aO rfl rfl ?_; refine bA (f := 95) (fi := []) (ca := []) (by kernel_rfl) rfl rfl (by decide) (fun w1 st => Np g2 ag (if ag = 0 then x else y) k id w1 hag (iN.box Aa (st.le (by simp)) (st.box (i := 2) rfl) ag hag)) ?_
     refine XA.bk ?_
     refine XA.next 16 rfl (by kernel_rfl) ?_
     refine aO rfl rfl ?_; refine bA (f := 96) (fi := []) (ca := []) (by kernel_rfl) rfl rfl (by decide) (fun w1 st => xH k w1) ?_
     refine XA.bt ?_
     refine XA.next 17 rfl (by kernel_rfl) ?_
     refine aO rfl rfl ?_; refine aBC (by kernel_rfl) rfl rfl (by decide) ?_
     refine XA.bt ?_
     refine XA.next 18 rfl (by kernel_rfl) ?_
     (first | refine bJ rfl rfl (by decide) ?_ | refine bK rfl rfl (by decide) ?_)
     refine XA.bt ?_
     refine XA.done (by kernel_rfl) ?_
     refine XK.norm ?_
     exact XK.lY
  refine XK.if_ rfl (fun h4 => ?_) (fun h4 => ?_)
  ·
   refine XK.seq ?_
   refine XK.region ?_
   refine aF rfl (by decide) ?_
   refine dJ (zs := [.int .u8 0, .int .i64 0]) (L := [(0, 1), (1, 1)]) (aM (by kernel_rfl)) (by kernel_rfl) rfl (by simp [aS, aT, Value.cells]; rfl) (by decide) ?_
   refine aH rfl (by decide) ?_
   refine eA rfl rfl ?_; simp only [bZ, Value.cells, List.set, List.take, List.drop, List.nil_append, List.append_nil, List.length_cons, List.length_nil, List.cons_append, Nat.reduceAdd]
   refine XK.aA ?_
   refine XK.ret ?_
   refine XK.norm ?_
   exact XK.mS (n := 2) (vs := [.int .u8 0, .int .i64 0]) rfl (by kernel_rfl) rfl rfl (by first | assumption | exact aC.whole 0 rfl | exact aC.whole 1 rfl | exact aC.whole 2 rfl | exact aC.whole 3 rfl | exact aC.whole 4 rfl | exact aC.whole 5 rfl | exact aC.whole 6 rfl | exact aC.whole 7 rfl | exact aC.whole 8 rfl | exact aC.eM (by simp) (by assumption)) rfl fun w9 st => ⟨by
    rw [fT, hrd]; dsimp only; rw [if_pos h4]; rfl, st.below (by simp)⟩
  ·
   have Qd : st = 0 := Decidable.byContradiction fun h => h4 (.inl h)
   refine XK.skip ?_
   refine XK.norm ?_
   refine XK.seq ?_
   refine XK.seq ?_
   refine XK.region ?_
   refine aW (off := 0) (by kernel_rfl) rfl (by decide) ?_
   refine aZ rfl ?_
   refine bA (f := 96) (fi := []) (ca := []) (by kernel_rfl) rfl rfl (by decide) (fun w1 st => xH k w1) ?_
   refine XK.aA ?_
   refine XK.if_ rfl (fun h6 => ?_) (fun h6 => ?_)
   ·
    refine XK.seq ?_
    refine XK.seq ?_
    refine XK.region ?_
    refine aW (off := 0) (by kernel_rfl) rfl (by decide) ?_
    refine aZ rfl ?_
    refine eH rfl rfl (by decide) ?_
    refine XK.aA ?_
    refine XK.if_ rfl (fun h7 => ?_) (fun h7 => ?_)
    ·
     refine XK.seq ?_
     subst h7
     have hok := Wc (s := s) hu
     rw [hrd] at hok
     dsimp only at hok
     rcases hok with hok | ⟨_, _, Qy, zL, _⟩
     ·exact absurd hok.1 (by omega)
     have jC : id.toNat < s.domains.length := by rw [show oH s (vV 117) = s.domains.length from rfl] at zL; omega
     obtain ⟨d, hd⟩ : ∃ d, s.domains[id.toNat]? = some d := ⟨_, List.getElem?_eq_getElem jC⟩
     obtain ⟨rfl, rfl, rfl, rfl⟩ := mZ.len
     obtain ⟨bD, oD, rD, rfl, Pu, _, rfl, Lh⟩ := mZ.dom.vM hd
     have hab : (s.domains[id.toNat]?).any (fun d => decide (d.above ≠ -1) && !lW x y 117 d.above) = (decide (d.above ≠ -1) && !lW x y 117 d.above) := by rw [hd]; rfl
     refine XK.region ?_
     refine aW (off := 1) (by kernel_rfl) rfl (by decide) ?_
     refine aZ rfl ?_
     refine aW (off := 1) (by kernel_rfl) rfl (by decide) ?_
     refine aZ rfl ?_
     refine dB id.toNat (oD + id.toNat * 3) (el := 75) (sz := 3) (by kernel_rfl) (by kernel_rfl) rfl rfl (by omega) (by omega) (by omega) (by decide) ?_
     refine aW (off := 0) (by kernel_rfl) rfl (by decide) ?_
     refine fI (by kernel_rfl) rfl (Rd.ro (p := q) (by simp) Pu (Lh 0 _ rfl)) (by decide) ?_
     refine aH rfl (by decide) ?_
     refine XK.aA ?_
     refine XK.sK 73 (d.above ≠ -1 ∧ lW x y 117 d.above = false) ?_ ?_
     ·skip
      refine XK.region ?_
      refine aF rfl (by decide) ?_
      refine mQ rfl rfl (by decide) ?_
      refine aF rfl (by decide) ?_
      (first | refine bO (t := 69) rfl (fun hg => ?_) (fun hg => ?_) | refine iX (t := 69) rfl (fun hg => ?_) (fun hg => ?_))
      ·
       refine aO rfl rfl ?_; refine aF rfl (by decide) ?_
       refine aO rfl rfl ?_; refine bA (f := 97) (fi := []) (ca := []) (by kernel_rfl) rfl rfl (by decide) (fun w1 st => Nq g2 x y 117 d.above w1 (iN.box Aa (st.le (by simp)) (st.box (i := 2) rfl))) ?_
       refine aO rfl rfl ?_; (first | refine mO rfl (by decide) ?_ | refine mP rfl (by decide) ?_)
       (first | refine bJ rfl rfl (by decide) ?_ | refine bK rfl rfl (by decide) ?_)
       refine XK.aA ?_
       exact XK.lY
      ·
       refine aN rfl rfl rfl (by decide) ?_
       refine aN rfl rfl rfl (by decide) ?_
       refine aN rfl rfl rfl (by decide) ?_
       (first | refine bJ rfl rfl (by decide) ?_ | refine bK rfl rfl (by decide) ?_)
       refine XK.aA ?_
       exact XK.lY
     refine XK.if_ rfl (fun h9 => ?_) (fun h9 => ?_)
     ·
      refine XK.seq ?_
      refine XK.region ?_
      refine dJ (zs := [.int .u8 0, .int .i64 0]) (L := [(0, 1), (1, 1)]) (aM (by kernel_rfl)) (by kernel_rfl) rfl (by simp [aS, aT, Value.cells]; rfl) (by decide) ?_
      refine aH rfl (by decide) ?_
      refine eA rfl rfl ?_; simp only [bZ, Value.cells, List.set, List.take, List.drop, List.nil_append, List.append_nil, List.length_cons, List.length_nil, List.cons_append, Nat.reduceAdd]
      refine XK.aA ?_
      refine XK.ret ?_
      refine XK.norm ?_
      exact XK.mS (n := 2) (vs := [.int .u8 0, .int .i64 0]) rfl (by kernel_rfl) rfl rfl (by first | assumption | exact aC.whole 0 rfl | exact aC.whole 1 rfl | exact aC.whole 2 rfl | exact aC.whole 3 rfl | exact aC.whole 4 rfl | exact aC.whole 5 rfl | exact aC.whole 6 rfl | exact aC.whole 7 rfl | exact aC.whole 8 rfl | exact aC.eM (by simp) (by assumption)) rfl fun w9 st => ⟨by
       rw [fT, hrd]; dsimp only; rw [if_neg h4, if_pos h6, if_pos ⟨rfl, by rw [hab]; simp [h9.1, h9.2]⟩]; rfl, st.below (by simp)⟩
     ·
      refine XK.skip ?_
      refine XK.norm ?_
      refine XK.seq ?_
      subst Qd
      refine XK.draw 2 (by kernel_rfl) (by kernel_rfl) ?_
      refine XA.dA 0 rfl rfl rfl (Ct 2 rfl) ?_
      refine XA.dA 1 rfl rfl rfl (xY rfl) ?_
      refine XA.next 2 rfl (by kernel_rfl) ?_
      refine eA rfl rfl ?_; simp only [bZ, Value.cells, List.set, List.take, List.drop, List.nil_append, List.append_nil, List.length_cons, List.length_nil, List.cons_append, Nat.reduceAdd]
      refine XA.bt ?_
      refine XA.done (by kernel_rfl) ?_
      refine XK.norm ?_
      refine XK.ret ?_
      refine XK.norm ?_
      exact XK.mS (n := 2) (vs := [.int .u8 117, .int .i64 id]) rfl (by kernel_rfl) rfl rfl (by first | assumption | exact aC.whole 0 rfl | exact aC.whole 1 rfl | exact aC.whole 2 rfl | exact aC.whole 3 rfl | exact aC.whole 4 rfl | exact aC.whole 5 rfl | exact aC.whole 6 rfl | exact aC.whole 7 rfl | exact aC.whole 8 rfl | exact aC.eM (by simp) (by assumption)) rfl fun w9 st => ⟨by
       rw [fT, hrd]; dsimp only; rw [if_neg h4, if_pos h6, if_neg (fun hh => h9 (by have h' := hh.2; rw [hab] at h'; simpa using h'))]; rfl, st.below (by simp)⟩
    ·
     refine XK.skip ?_
     refine XK.norm ?_
     refine XK.seq ?_
     subst Qd
     refine XK.draw 2 (by kernel_rfl) (by kernel_rfl) ?_
     refine XA.dA 0 rfl rfl rfl (Ct 2 rfl) ?_
     refine XA.dA 1 rfl rfl rfl (xY rfl) ?_
     refine XA.next 2 rfl (by kernel_rfl) ?_
     refine eA rfl rfl ?_; simp only [bZ, Value.cells, List.set, List.take, List.drop, List.nil_append, List.append_nil, List.length_cons, List.length_nil, List.cons_append, Nat.reduceAdd]
     refine XA.bt ?_
     refine XA.done (by kernel_rfl) ?_
     refine XK.norm ?_
     refine XK.ret ?_
     refine XK.norm ?_
     exact XK.mS (n := 2) (vs := [.int .u8 k, .int .i64 id]) rfl (by kernel_rfl) rfl rfl (by first | assumption | exact aC.whole 0 rfl | exact aC.whole 1 rfl | exact aC.whole 2 rfl | exact aC.whole 3 rfl | exact aC.whole 4 rfl | exact aC.whole 5 rfl | exact aC.whole 6 rfl | exact aC.whole 7 rfl | exact aC.whole 8 rfl | exact aC.eM (by simp) (by assumption)) rfl fun w9 st => ⟨by
      rw [fT, hrd]; dsimp only; rw [if_neg h4, if_pos h6, if_neg (fun hh => h7 hh.1)]; rfl, st.below (by simp)⟩
   ·
    refine XK.skip ?_
    refine XK.norm ?_
    refine XK.seq ?_
    refine XK.seq ?_
    refine XK.region ?_
    refine gB 4 rfl ?_
    refine gB 6 rfl ?_
    refine aF rfl (by decide) ?_
    refine gB 2 rfl ?_
    refine bA (f := 98) (fi := []) (ca := []) (by kernel_rfl) rfl rfl (by decide) (fun w1 st => aGm q qx s A1 A2 A3 A4 n1 k1 n2 k2 n3 k3 n4 k4 X1 X2 X3 Y1 Y2 Y3 tB pQ tA pP sZ pO sY pK sX pJ sW pI x y ag k id w1 mZ hm (st.le (by simp)) Aa (st.le (by simp)) hag) ?_
    refine XK.aA ?_
    refine XK.cond rfl (fun h12 => ?_) (fun h12 => ?_)
    ·
     refine XK.seq ?_
     refine XK.region ?_
     refine dJ (zs := [.int .u8 0, .int .i64 0]) (L := [(0, 1), (1, 1)]) (aM (by kernel_rfl)) (by kernel_rfl) rfl (by simp [aS, aT, Value.cells]; rfl) (by decide) ?_
     refine aH rfl (by decide) ?_
     refine eA rfl rfl ?_; simp only [bZ, Value.cells, List.set, List.take, List.drop, List.nil_append, List.append_nil, List.length_cons, List.length_nil, List.cons_append, Nat.reduceAdd]
     refine XK.aA ?_
     refine XK.ret ?_
     refine XK.norm ?_
     exact XK.mS (n := 2) (vs := [.int .u8 0, .int .i64 0]) rfl (by kernel_rfl) rfl rfl (by first | assumption | exact aC.whole 0 rfl | exact aC.whole 1 rfl | exact aC.whole 2 rfl | exact aC.whole 3 rfl | exact aC.whole 4 rfl | exact aC.whole 5 rfl | exact aC.whole 6 rfl | exact aC.whole 7 rfl | exact aC.whole 8 rfl | exact aC.eM (by simp) (by assumption)) rfl fun w9 st => ⟨by
      rw [fT, hrd]; dsimp only; rw [if_neg h4, if_neg h6, if_pos h12]; rfl, st.below (by simp)⟩
    ·
     refine XK.skip ?_
     refine XK.norm ?_
     refine XK.seq ?_
     refine XK.seq ?_
     refine XK.region ?_
     refine gB 4 rfl ?_
     refine aF rfl (by decide) ?_
     refine gB 2 rfl ?_
     refine bA (f := 99) (fi := []) (ca := []) (by kernel_rfl) rfl rfl (by decide) (fun w1 st => aGS q s A1 A2 A3 A4 n1 k1 n2 k2 n3 k3 n4 k4 Aw nw cw wt k id w1 mZ hm (st.le (by simp)) (hw.le (st.le (by simp))) Kx) ?_
     refine XK.aA ?_
     refine XK.cond rfl (fun mF => ?_) (fun mF => ?_)
     ·
      refine XK.seq ?_
      refine XK.region ?_
      refine dJ (zs := [.int .u8 0, .int .i64 0]) (L := [(0, 1), (1, 1)]) (aM (by kernel_rfl)) (by kernel_rfl) rfl (by simp [aS, aT, Value.cells]; rfl) (by decide) ?_
      refine aH rfl (by decide) ?_
      refine eA rfl rfl ?_; simp only [bZ, Value.cells, List.set, List.take, List.drop, List.nil_append, List.append_nil, List.length_cons, List.length_nil, List.cons_append, Nat.reduceAdd]
      refine XK.aA ?_
      refine XK.ret ?_
      refine XK.norm ?_
      exact XK.mS (n := 2) (vs := [.int .u8 0, .int .i64 0]) rfl (by kernel_rfl) rfl rfl (by first | assumption | exact aC.whole 0 rfl | exact aC.whole 1 rfl | exact aC.whole 2 rfl | exact aC.whole 3 rfl | exact aC.whole 4 rfl | exact aC.whole 5 rfl | exact aC.whole 6 rfl | exact aC.whole 7 rfl | exact aC.whole 8 rfl | exact aC.eM (by simp) (by assumption)) rfl fun w9 st => ⟨by
       rw [fT, hrd]; dsimp only; rw [if_neg h4, if_neg h6, if_neg (by rw [h12]; exact Bool.false_ne_true), if_pos mF]; rfl, st.below (by simp)⟩
     ·
      refine XK.skip ?_
      refine XK.norm ?_
      refine XK.seq ?_
      subst Qd
      refine XK.draw 2 (by kernel_rfl) (by kernel_rfl) ?_
      refine XA.dA 0 rfl rfl rfl (Ct 2 rfl) ?_
      refine XA.dA 1 rfl rfl rfl (xY rfl) ?_
      refine XA.next 2 rfl (by kernel_rfl) ?_
      refine eA rfl rfl ?_; simp only [bZ, Value.cells, List.set, List.take, List.drop, List.nil_append, List.append_nil, List.length_cons, List.length_nil, List.cons_append, Nat.reduceAdd]
      refine XA.bt ?_
      refine XA.done (by kernel_rfl) ?_
      refine XK.norm ?_
      refine XK.ret ?_
      refine XK.norm ?_
      exact XK.mS (n := 2) (vs := [.int .u8 k, .int .i64 id]) rfl (by kernel_rfl) rfl rfl (by first | assumption | exact aC.whole 0 rfl | exact aC.whole 1 rfl | exact aC.whole 2 rfl | exact aC.whole 3 rfl | exact aC.whole 4 rfl | exact aC.whole 5 rfl | exact aC.whole 6 rfl | exact aC.whole 7 rfl | exact aC.whole 8 rfl | exact aC.eM (by simp) (by assumption)) rfl fun w9 st => ⟨by
       rw [fT, hrd]; dsimp only; rw [if_neg h4, if_neg h6, if_neg (by rw [h12]; exact Bool.false_ne_true), if_neg (by rw [mF]; exact Bool.false_ne_true)]; rfl, st.below (by simp)⟩
end
section
def eT (l : List Bool) (id : Int) (b : Bool) : List Bool := if 0 ≤ id ∧ id < (l.length : Int) then l.set id.toNat b else l
theorem jH {l : List Bool} {id : Int} (b : Bool) (h : ¬ (0 ≤ id ∧ id < (l.length : Int))) : eT l id b = l := if_neg h
theorem xB (l : List Bool) (id : Int) (b : Bool) : (eT l id b).length = l.length := by unfold eT; split <;> simp
def dL (x : bR) (k id : Int) : bR :=
 if k = 117 ∨ k = 100 ∨ k = 107 then ⟨eT x.d id (decide (fJ k)), x.c, x.l⟩
 else if k = 99 ∨ k = 111 then ⟨x.d, eT x.c id (decide (fJ k)), x.l⟩
 else if k = 114 ∨ k = 97 then ⟨x.d, x.c, eT x.l id (decide (fJ k))⟩ else x
def cG (x : bR) (ag : Nat) (k id : Int) : bR := if ag = 0 then dL x k id else x
def cF (y : bR) (ag : Nat) (k id : Int) : bR := if ag = 0 then y else dL y k id
theorem Dc {l : List Bool} {id : Int} (b : Bool) (h : 0 ≤ id ∧ id < (l.length : Int)) : (bU l).set id.toNat (.bool b) = bU (eT l id b) := by
 rw [eT, if_pos h]
 simp [bU, List.map_set]
section
variable {N : cJ} {w0 w : World} {e : Env} {R : List Piece} {H : List HP} {K : Act → World → Prop}
theorem St.aDl (st : St w0 R H w) {i n c sz : Nat} {t : TypeId} {A : Option Addr} {xs : List Value} (hi : H[i]? = some (HP.own t sz (.slice A n c) n xs)) (hn : 0 < n) : ∃ g, A = some ⟨g, 0, none⟩ := by
 obtain ⟨_, h2⟩ := st.own hi
 rcases h2 with ⟨h2, h3⟩ | ⟨g', cap, cur, hv, _⟩
 ·omega
 ·injection hv with h4 h5 h6
  exact ⟨g', h4⟩
theorem XK.Bs (i : Nat) {n c sz : Nat} {t : TypeId} {A : Option Addr} {xs : List Value} (hi : H[i]? = some (HP.own t sz (.slice A n c) n xs)) (hn : 0 < n) (h : (∃ g, A = some ⟨g, 0, none⟩) → XK N w0 K e R H) : XK N w0 K e R H := fun a w hr st => h (st.aDl hi hn) a w hr st
end
end
section
set_option maxHeartbeats 4000000
set_option maxRecDepth 20000
structure eE where
 a1 : AC
 a2 : AC
 a3 : AC
 a4 : AC
 x1 : AC
 x2 : AC
 x3 : AC
 y1 : AC
 y2 : AC
 y3 : AC
 b0 : AC
 b1 : AC
structure bH where
 x : bR
 y : bR
 h0 : Int
 h1 : Int
 w0 : List Int
 w1 : List Int
 last : Int
 at_ : Int
 kind : Int
 id : Int
def nQ (s : aD) : bH := ⟨bG s, bG s, 0, 0, [], [], 1, -1, 0, 0⟩
def qR (a : AC) (n : Nat) : Value := .slice a.1 n a.2
def cC (h : Nat) (L : eE) (s : aD) (z : bH) : List Value := [.pointer (some ⟨h, 0, none⟩), .slice L.a1.1 s.aB.length L.a1.2, .slice L.a2.1 s.domains.length L.a2.2, .slice L.a3.1 s.aU.length L.a3.2, .slice L.a4.1 s.aG.length L.a4.2,
 .slice L.x1.1 z.x.d.length L.x1.2, .slice L.x2.1 z.x.c.length L.x2.2, .slice L.x3.1 z.x.l.length L.x3.2, .slice L.y1.1 z.y.d.length L.y1.2, .slice L.y2.1 z.y.c.length L.y2.2, .slice L.y3.1 z.y.l.length L.y3.2,
 .int .i64 z.h0, .slice L.b0.1 z.w0.length L.b0.2, .int .i64 z.h1, .slice L.b1.1 z.w1.length L.b1.2, .int .i64 z.last, .int .i64 z.at_, .int .u8 z.kind, .int .i64 z.id]
def pE (L : eE) (s : aD) (p : Piece) : Prop := oZ p s L.a1.1 s.aB.length L.a2.1 s.domains.length L.a3.1 s.aU.length L.a4.1 s.aG.length
theorem pE.le {L : eE} {s : aD} (p q : Piece) (hl : p.Le q) (h : pE L s p) : pE L s q := oZ.le h hl
def kZ (L : eE) (x y : bR) (p : Piece) : Prop := aI p 1 L.x1.1 x.d.length (bU x.d) ∧ aI p 1 L.x2.1 x.c.length (bU x.c) ∧ aI p 1 L.x3.1 x.l.length (bU x.l) ∧ aI p 1 L.y1.1 y.d.length (bU y.d) ∧ aI p 1 L.y2.1 y.c.length (bU y.c) ∧ aI p 1 L.y3.1 y.l.length (bU y.l)
theorem kZ.le {L : eE} {x y : bR} (p q : Piece) (hl : p.Le q) (h : kZ L x y p) : kZ L x y q := ⟨h.1.le hl, h.2.1.le hl, h.2.2.1.le hl, h.2.2.2.1.le hl, h.2.2.2.2.1.le hl, h.2.2.2.2.2.le hl⟩
def bQ (a : AC) (l : List Int) (p : Piece) : Prop := aI p 1 a.1 l.length (iI l)
theorem bQ.le {a : AC} {l : List Int} (p q : Piece) (hl : p.Le q) (h : bQ a l p) : bQ a l q := aI.le h hl
theorem iN.P {q : Piece} {x y : bR} {v : Value} (h : iN q x y v) : ∃ x1 x2 x3 y1 y2 y3 : AC, v = .agg #[qR x1 x.d.length, qR x2 x.c.length, qR x3 x.l.length, qR y1 y.d.length, qR y2 y.c.length, qR y3 y.l.length] ∧ ∀ a1 a2 a3 a4 b0 b1 : AC, kZ ⟨a1, a2, a3, a4, x1, x2, x3, y1, y2, y3, b0, b1⟩ x y q := by
 obtain ⟨A1, k1, A2, k2, A3, k3, B1, m1, B2, m2, B3, m3, e, a1, a2, a3, b1, b2, b3⟩ := h
 exact ⟨(A1, k1), (A2, k2), (A3, k3), (B1, m1), (B2, m2), (B3, m3), e, fun _ _ _ _ _ _ => ⟨a1, a2, a3, b1, b2, b3⟩⟩
def eF (f h : Nat) (L : eE) (s : aD) (z : bH) : HP := HP.many [HP.aE f 150 (cC h L s z), HP.dM (pE L s) (pE.le (L := L) (s := s)), HP.dM (kZ L z.x z.y) (kZ.le (L := L) (x := z.x) (y := z.y)), HP.dM (bQ L.b0 z.w0) (bQ.le (a := L.b0) (l := z.w0)), HP.dM (bQ L.b1 z.w1) (bQ.le (a := L.b1) (l := z.w1))]
def mL (f h : Nat) (s : aD) (z : bH) : HP := HP.ex fun L : eE => eF f h L s z
structure pH (w : World) (f h : Nat) (L : eE) (s : aD) (z : bH) : Prop where
 r0 : cX w f 0 (cC h L s z)
 so : pE L s (all w)
 st : kZ L z.x z.y (all w)
 b0 : bQ L.b0 z.w0 (all w)
 b1 : bQ L.b1 z.w1 (all w)
theorem pH.below {w w' : World} {f h : Nat} {L : eE} {s : aD} {z : bH} (k : pH w f h L s z) (hb : Below w.heap.size w w') : pH w' f h L s z :=
 ⟨k.r0.below hb, k.so.le _ _ (fF hb), k.st.le _ _ (fF hb), k.b0.le _ _ (fF hb), k.b1.le _ _ (fF hb)⟩
theorem eF.reads {f h : Nat} {L : eE} {s : aD} {z : bH} {F : Nat → Prop} {w : World} (k : (eF f h L s z).sat F w) (hF : ∀ b, F b → b < w.heap.size) : pH w f h L s z := by
 obtain ⟨G, g1, g2, _⟩ := k
 have hl : ∀ i, (⟨w, G i⟩ : Piece).Le (all w) := fun i b hb => ⟨hF b (g2 i b hb), rfl⟩
 exact ⟨vG (g1 0 _ rfl).2, pE.le _ _ (hl 1) (g1 1 _ rfl), kZ.le _ _ (hl 2) (g1 2 _ rfl), bQ.le _ _ (hl 3) (g1 3 _ rfl), bQ.le _ _ (hl 4) (g1 4 _ rfl)⟩
theorem St.nR {w0 w : World} {R : List Piece} {H : List HP} {f h : Nat} {L : eE} {s : aD} {z : bH} (t : St w0 R H w) (i : Nat) (hi : H[i]? = some (eF f h L s z)) : pH w f h L s z := by
 obtain ⟨F, h1, h2, _⟩ := t.chunk hi
 exact eF.reads h1 h2
def Tt (h : Nat) (s : aD) (v : Value) (hs : List HP) (_ : Piece) : Prop := ∃ f, v = .tuple #[.pointer (some ⟨f, 0, none⟩), .int .i64 0] ∧ hs = [mL f h s (nQ s)]
theorem Lp {w : World} (a : AC) (ha : a = (none, 0)) : (HP.dM (bQ a []) (bQ.le (a := a) (l := []))).sat (fun _ => False) w := by
 subst ha
 exact ⟨rfl, fun h => absurd h (by simp)⟩
theorem aAm (h : Nat) (s : aD) (hH : s.cK) (A1 A2 A3 A4 : Option Addr) (n1 k1 n2 k2 n3 k3 n4 k4 : Nat) (w : World) (hW : eO w s A1 n1 A2 n2 A3 n3 A4 n4) :
  Calls Tryz.prog 16 #[.pointer (some ⟨h, 0, none⟩), .agg #[.slice A1 n1 k1, .slice A2 n2 k2, .slice A3 n3 k3, .slice A4 n4 k4]] w (fun y w' => (∃ v hs q, y = .returned v ∧ q.w = w' ∧ Tt h s v hs q ∧ jN w hs q) ∧ Below w.heap.size w w') := by
 obtain rfl := hW.pY
 obtain rfl := hW.qT
 obtain rfl := hW.tH
 obtain rfl := hW.rX
 refine XK.enter (vs := [.pointer (some ⟨h, 0, none⟩), .agg #[.slice A1 s.aB.length k1, .slice A2 s.domains.length k2, .slice A3 s.aU.length k3, .slice A4 s.aG.length k4]]) Tryz.func16 rfl Tryz.ntmps16 (by simp) ?_
 refine XK.go ?_
 refine bY rfl (by decide) fun g1 => ?_
 dsimp only [Value.cells]
 refine XK.go ?_
 refine bB (fun w1 t => Hp s A1 A2 A3 A4 _ k1 _ k2 _ k3 _ k4 w1 (hW.le (t.started (by simp))) hH.t.Da) ?_
 refine XK.go ?_
 refine XK.eJ [1, 3] ?_
 refine XB.mv 0 ?_
 refine XB.q 1 ?_
 refine XB.q 3 ?_
 refine XB.next 2 rfl (by kernel_rfl) ?_
 refine jX [] (f := 67) (fi := []) (ca := []) (by kernel_rfl) rfl rfl (by decide) (by simp) (fun v w w' => Tw s v w w') (fun w1 t => aA8 s A1 A2 A3 A4 _ k1 _ k2 _ k3 _ k4 w1 (hW.le (t.started (by simp))) (fun d hd => by
  obtain ⟨j, hj⟩ := List.getElem?_of_mem hd
  have := (hH.t.aG j d hj).2.2.2.2.2.2.2.2.1
  omega)) ?_
 rintro _ w1 q1 ⟨cs, rfl, hcs⟩ zI _ xR
 have xR := xR (by simp)
 obtain ⟨B1, m1, j1, B2, m2, j2, B3, m3, j3, B4, m4, j4, rfl, hsp⟩ := mJ.P hcs
 have hsp := hsp.le zI
 obtain ⟨rfl, rfl, rfl, rfl⟩ := hsp.len
 refine XK.Js (Φ := pE ⟨(B1, j1), (B2, j2), (B3, j3), (B4, j4), (none, 0), (none, 0), (none, 0), (none, 0), (none, 0), (none, 0), (none, 0), (none, 0)⟩ s) (hm := pE.le) xR (by simp [all]) hsp ?_
 refine XB.bk ?_
 refine XB.next 4 rfl (by kernel_rfl) ?_
 refine jX [] (f := 68) (fi := []) (ca := []) (by kernel_rfl) rfl rfl (by decide) (by simp) (fun v w w' => iN (fresh w w') (bG s) (bG s) v) (fun w1 st => aCf s A1 A2 A3 A4 k1 k2 k3 k4 w1 hH.t) ?_
 rintro _ w2 q2 hst mB _ xQ
 have xQ := xQ (by simp)
 obtain ⟨x1, x2, x3, y1, y2, y3, rfl, zF⟩ := hst.P
 have zF := kZ.le _ _ mB (zF (B1, j1) (B2, j2) (B3, j3) (B4, j4) (none, 0) (none, 0))
 refine XK.Js (Φ := kZ ⟨(B1, j1), (B2, j2), (B3, j3), (B4, j4), x1, x2, x3, y1, y2, y3, (none, 0), (none, 0)⟩ (bG s) (bG s)) (hm := kZ.le) xQ (by simp [all]) zF ?_
 refine XB.bk ?_
 refine XB.next 5 rfl (by kernel_rfl) ?_
 refine dJ (zs := [.pointer none, .slice none 0 0, .slice none 0 0, .slice none 0 0, .slice none 0 0, .slice none 0 0, .slice none 0 0, .slice none 0 0, .slice none 0 0, .slice none 0 0, .slice none 0 0, .int .i64 0, .slice none 0 0, .int .i64 0, .slice none 0 0, .int .i64 0, .int .i64 0, .int .u8 0, .int .i64 0]) (L := [(0, 1), (1, 4), (5, 6), (11, 4), (15, 1), (16, 1), (17, 2)]) (aM (by kernel_rfl)) (by kernel_rfl) rfl (by simp [aS, aT, Value.cells]; rfl) (by decide) ?_
 refine XB.bt ?_
 refine XB.next 6 rfl (by kernel_rfl) ?_
 refine bY rfl (by decide) fun f => ?_
 dsimp only [Value.cells]
 refine XB.bt ?_
 refine XB.next 7 rfl (by kernel_rfl) ?_
 refine bI ?_
 refine XB.bt ?_
 refine XB.done (by kernel_rfl) ?_
 refine XK.go ?_
 refine XK.uF (p := HP.dM (bQ (none, 0) []) (bQ.le (a := (none, 0)) (l := []))) (fun w => Lp _ rfl) ?_
 refine XK.uF (p := HP.dM (bQ (none, 0) []) (bQ.le (a := (none, 0)) (l := []))) (fun w => Lp _ rfl) ?_
 refine XK.weak [2, 4, 3, 0, 1] rfl (by decide) (R' := [all w]) (by simp) ?_
 refine XK.pair ?_
 refine XK.more ?_
 refine XK.more ?_
 refine XK.more ?_
 refine XK.lC 0 (f := fun L : eE => eF f h L s (nQ s)) ⟨(B1, j1), (B2, j2), (B3, j3), (B4, j4), x1, x2, x3, y1, y2, y3, (none, 0), (none, 0)⟩ rfl ?_
 dsimp only [List.set]
 refine XK.still [] [] [0] (by simp) rfl (by decide) (by decide) fun q _ _ hfr => ?_
 exact XK.fQ rfl rfl rfl fun w1 t => ⟨⟨_, _, ⟨w1, q.Z⟩, rfl, rfl, ⟨f, rfl, rfl⟩, t.newR (by simp) (by simp) (hfr (by simp) (by simp))⟩, t.below (by simp)⟩
end
section
set_option maxHeartbeats 4000000
set_option maxRecDepth 20000
section
variable {N : cJ} {w0 w : World} {e : Env} {R : List Piece} {H : List HP} {K : Act → World → Prop} {f h : Nat} {s : aD} {z : bH}
theorem XK.Ep (i : Nat) (hi : H[i]? = some (mL f h s z)) (k : ∀ L : eE, XK N w0 K e R (HP.aE f 150 (cC h L s z) :: H.set i (HP.many [HP.emp, HP.dM (pE L s) (pE.le (L := L) (s := s)), HP.dM (kZ L z.x z.y) (kZ.le (L := L) (x := z.x) (y := z.y)), HP.dM (bQ L.b0 z.w0) (bQ.le (a := L.b0) (l := z.w0)), HP.dM (bQ L.b1 z.w1) (bQ.le (a := L.b1) (l := z.w1))]))) : XK N w0 K e R H := by
 have hlt := sD hi
 refine XK.oB i hi fun L => ?_
 refine XK.take i 0 (by rw [List.getElem?_set_self hlt]; rfl) rfl ?_
 simpa [List.set_set] using k L
theorem XK.nT (L : eE) (i : Nat) (hi : H[i]? = some (HP.many [HP.emp, HP.dM (pE L s) (pE.le (L := L) (s := s)), HP.dM (kZ L z.x z.y) (kZ.le (L := L) (x := z.x) (y := z.y)), HP.dM (bQ L.b0 z.w0) (bQ.le (a := L.b0) (l := z.w0)), HP.dM (bQ L.b1 z.w1) (bQ.le (a := L.b1) (l := z.w1))])) (k : XK N w0 K e R (H.set i (mL f h s z))) : XK N w0 K e R (HP.aE f 150 (cC h L s z) :: H) := by
 have hlt := sD hi
 refine XK.bF i 0 hi rfl ?_
 refine XK.lC i (f := fun L : eE => eF f h L s z) L (by rw [List.getElem?_set_self hlt]; rfl) ?_
 rw [List.set_set]
 exact k
end
def kN (z : bH) (a : Int) (l : List Int) : Int × bH :=
 if cL 2 a = false then (4, z) else if a = 0 then (if z.h0 ≠ 0 then (7, z) else (0, { z with h0 := 1, w0 := l })) else (if z.h1 ≠ 0 then (7, z) else (0, { z with h1 := 1, w1 := l }))
theorem Sd (f h : Nat) (s : aD) (z : bH) (a : Int) (A : Option Addr) (n c : Nat) (l : List Int) (w : World) (F : Nat → Prop) (hp : (mL f h s z).sat F w) (hF : ∀ b, F b → b < w.heap.size) (hs : aI ⟨w, fun b => b < w.heap.size ∧ ¬ F b⟩ 1 A n (iI l)) (hn : n = l.length) (hn2 : n ≤ 1000000) :
  Calls Tryz.prog 19 #[.pointer (some ⟨f, 0, none⟩), .int .i64 a, .slice A n c] w (fun y w' => y = .returned (.int .i64 (kN z a l).1) ∧ ∃ F', (mL f h s (kN z a l).2).sat F' w' ∧ bX w w' F F') := by
 subst hn
 cases hin : cL 2 a
 ·have hr : kN z a l = (4, z) := by simp [kN, hin]
  rw [hr]
  refine XK.dY (p := mL f h s z) (F := F) (vs := [.pointer (some ⟨f, 0, none⟩), .int .i64 a, .slice A l.length c]) Tryz.func19 rfl Tryz.ntmps19 (by simp) hp hF ?_
  refine XK.go ?_
  refine bB (fun w1 t => Cb a w1) ?_
  rw [hin]
  refine XK.go ?_
  exact XK.aK rfl rfl fun w1 t => ⟨rfl, t.turns hF (by simp) (i := 0) rfl⟩
 ·obtain rfl | rfl : a = 0 ∨ a = 1 := by have := of_decide_eq_true hin; omega
  ·refine XK.dY (p := mL f h s z) (F := F) (vs := [.pointer (some ⟨f, 0, none⟩), .int .i64 0, .slice A l.length c]) Tryz.func19 rfl Tryz.ntmps19 (by simp) hp hF ?_
   refine XK.Ep 0 rfl fun L => ?_
   dsimp only [List.set, cC]
   refine XK.go ?_
   refine bB (fun w1 t => Cb 0 w1) ?_
   refine XK.go ?_
   refine kd (eW 0 11) ?_
   refine XK.go ?_
   refine XK.if_ rfl (fun hb => ?_) (fun hb => ?_)
   ·have hr : kN z 0 l = (7, z) := by simp [kN, cL, hb]
    rw [hr]
    refine XK.go ?_
    refine XK.nT L 0 rfl ?_
    dsimp only [List.set]
    exact XK.aK rfl rfl fun w1 t => ⟨rfl, t.turns hF (by simp) (i := 0) rfl⟩
   ·have hr : kN z 0 l = (0, { z with h0 := 1, w0 := l }) := by simp [kN, cL]; simpa using hb
    rw [hr]
    refine XK.go ?_
    refine XK.eJ [5, 6] ?_
    refine XB.mv 0 ?_
    refine XB.mv 1 ?_
    refine XB.mv 2 ?_
    refine XB.q 5 ?_
    refine XB.q 6 ?_
    refine XB.next 3 rfl (by kernel_rfl) ?_
    refine dU (f := 72) (fi := []) (ca := []) (by kernel_rfl) rfl rfl (by decide) (Tx l.length (iI l)) (fun w1 t => aAA A _ c _ w1 (hs.le (t.le (by simp))) (Dz _) hn2) ?_
    rintro _ _ q1 ⟨An, cn, rfl, rfl⟩ _
    dsimp only [List.cons_append, List.nil_append]
    refine XB.bk ?_
    refine XB.next 4 rfl (by kernel_rfl) ?_
    refine dJ (zs := [.int .i64 0, .slice none 0 0]) (L := [(0, 1), (1, 1)]) (aM (by kernel_rfl)) (by kernel_rfl) rfl (by simp [aS, aT, Value.cells]; rfl) (by decide) ?_
    refine XB.bk ?_
    refine XB.next 7 rfl (by kernel_rfl) ?_
    refine kd (eW 0 11) ?_
    refine XB.bt ?_
    refine XB.next 8 rfl (by kernel_rfl) ?_
    refine jP 1 (t := 150) rfl rfl rfl (by kernel_rfl) (by simp [Value.cells, Value.oneCell']) (by simp [Value.cells]) ?_
    dsimp only [List.set, Value.cells, bZ]
    refine XB.bt ?_
    refine XB.done (by kernel_rfl) ?_
    refine XK.go ?_
    refine XK.rS 0 (Φ := bQ (An, cn) l) (hm := bQ.le) rfl (fun p hp => hp) ?_
    refine XK.take 2 3 rfl rfl ?_
    dsimp only [List.set]
    refine XK.weak [1, 2, 3] rfl (by decide) (fun _ h => h) ?_
    refine XK.bF 1 3 rfl rfl ?_
    dsimp only [List.set]
    refine XK.nT (h := h) (s := s) (z := { z with h0 := 1, w0 := l }) { L with b0 := (An, cn) } 0 rfl ?_
    dsimp only [List.set]
    exact XK.aK rfl rfl fun w1 t => ⟨rfl, t.turns hF (by simp) (i := 0) rfl⟩
  ·refine XK.dY (p := mL f h s z) (F := F) (vs := [.pointer (some ⟨f, 0, none⟩), .int .i64 1, .slice A l.length c]) Tryz.func19 rfl Tryz.ntmps19 (by simp) hp hF ?_
   refine XK.Ep 0 rfl fun L => ?_
   dsimp only [List.set, cC]
   refine XK.go ?_
   refine bB (fun w1 t => Cb 1 w1) ?_
   refine XK.go ?_
   refine kd (eW 1 13) ?_
   refine XK.go ?_
   refine XK.if_ rfl (fun hb => ?_) (fun hb => ?_)
   ·have hr : kN z 1 l = (7, z) := by simp [kN, cL, hb]
    rw [hr]
    refine XK.go ?_
    refine XK.nT L 0 rfl ?_
    dsimp only [List.set]
    exact XK.aK rfl rfl fun w1 t => ⟨rfl, t.turns hF (by simp) (i := 0) rfl⟩
   ·have hr : kN z 1 l = (0, { z with h1 := 1, w1 := l }) := by simp [kN, cL]; simpa using hb
    rw [hr]
    refine XK.go ?_
    refine XK.eJ [5, 6] ?_
    refine XB.mv 0 ?_
    refine XB.mv 1 ?_
    refine XB.mv 2 ?_
    refine XB.q 5 ?_
    refine XB.q 6 ?_
    refine XB.next 3 rfl (by kernel_rfl) ?_
    refine dU (f := 72) (fi := []) (ca := []) (by kernel_rfl) rfl rfl (by decide) (Tx l.length (iI l)) (fun w1 t => aAA A _ c _ w1 (hs.le (t.le (by simp))) (Dz _) hn2) ?_
    rintro _ _ q1 ⟨An, cn, rfl, rfl⟩ _
    dsimp only [List.cons_append, List.nil_append]
    refine XB.bk ?_
    refine XB.next 4 rfl (by kernel_rfl) ?_
    refine dJ (zs := [.int .i64 0, .slice none 0 0]) (L := [(0, 1), (1, 1)]) (aM (by kernel_rfl)) (by kernel_rfl) rfl (by simp [aS, aT, Value.cells]; rfl) (by decide) ?_
    refine XB.bk ?_
    refine XB.next 7 rfl (by kernel_rfl) ?_
    refine kd (eW 1 13) ?_
    refine XB.bt ?_
    refine XB.next 8 rfl (by kernel_rfl) ?_
    refine jP 1 (t := 150) rfl rfl rfl (by kernel_rfl) (by simp [Value.cells, Value.oneCell']) (by simp [Value.cells]) ?_
    dsimp only [List.set, Value.cells, bZ]
    refine XB.bt ?_
    refine XB.done (by kernel_rfl) ?_
    refine XK.go ?_
    refine XK.rS 0 (Φ := bQ (An, cn) l) (hm := bQ.le) rfl (fun p hp => hp) ?_
    refine XK.take 2 4 rfl rfl ?_
    dsimp only [List.set]
    refine XK.weak [1, 2, 3] rfl (by decide) (fun _ h => h) ?_
    refine XK.bF 1 4 rfl rfl ?_
    dsimp only [List.set]
    refine XK.nT (h := h) (s := s) (z := { z with h1 := 1, w1 := l }) { L with b1 := (An, cn) } 0 rfl ?_
    dsimp only [List.set]
    exact XK.aK rfl rfl fun w1 t => ⟨rfl, t.turns hF (by simp) (i := 0) rfl⟩
def eP (z : bH) (a : Int) : Option (List Int) := if a = 0 then (if z.h0 = 2 then some z.w0 else none) else if a = 1 then (if z.h1 = 2 then some z.w1 else none) else none
def eN (z : bH) (a : Int) : bH := if a = 0 then (if z.h0 = 2 then { z with h0 := 0, w0 := [] } else z) else if a = 1 then (if z.h1 = 2 then { z with h1 := 0, w1 := [] } else z) else z
def aCO (l : Option (List Int)) (a : AC) : Value := match l with
 | some l => .tuple #[.slice a.1 l.length a.2, .bool true]
 | none => .tuple #[.slice none 0 0, .bool false]
def tF (f h : Nat) (s : aD) (z : bH) (l : List Int) (c : AC) : HP := HP.many [mL f h s z, HP.dM (bQ c l) (bQ.le (a := c) (l := l))]
theorem Gt (f h : Nat) (s : aD) (z : bH) (a : Int) (w : World) (F : Nat → Prop) (hp : (mL f h s z).sat F w) (hF : ∀ b, F b → b < w.heap.size) :
  Calls Tryz.prog 21 #[.pointer (some ⟨f, 0, none⟩), .int .i64 a] w (fun y w' => ∃ c : AC, y = .returned (aCO (eP z a) c) ∧ True ∧ ∃ F', (tF f h s (eN z a) ((eP z a).getD []) c).sat F' w' ∧ bX w w' F F') := by
 have zR : ∀ w : World, (HP.dM (bQ (none, 0) []) (bQ.le (a := (none, 0)) (l := []))).sat (fun _ => False) w := fun w => Lp _ rfl
 cases hin : cL 2 a
 ·have h0 : a ≠ 0 := fun h => by subst h; cases hin
  have h1 : a ≠ 1 := fun h => by subst h; cases hin
  have hr : eP z a = none := by simp [eP, h0, h1]
  have hz : eN z a = z := by simp [eN, h0, h1]
  rw [hr, hz]
  unfold tF
  refine XK.dY (p := mL f h s z) (F := F) (vs := [.pointer (some ⟨f, 0, none⟩), .int .i64 a]) Tryz.func21 rfl Tryz.ntmps21 (by simp) hp hF ?_
  refine XK.go ?_
  refine bB (fun w1 t => Cb a w1) ?_
  rw [hin]
  refine XK.go ?_
  refine XK.uF (p := HP.dM (bQ (none, 0) []) (bQ.le (a := (none, 0)) (l := []))) zR ?_
  refine XK.weak [1, 0] rfl (by decide) (fun _ h => h) ?_
  refine XK.pair ?_
  exact XK.fQ rfl rfl rfl fun w1 t => ⟨(none, 0), rfl, trivial, t.turns hF (by simp) (i := 0) rfl⟩
 ·obtain rfl | rfl : a = 0 ∨ a = 1 := by have := of_decide_eq_true hin; omega
  ·refine XK.dY (p := mL f h s z) (F := F) (vs := [.pointer (some ⟨f, 0, none⟩), .int .i64 0]) Tryz.func21 rfl Tryz.ntmps21 (by simp) hp hF ?_
   refine XK.Ep 0 rfl fun L => ?_
   dsimp only [List.set, cC]
   refine XK.go ?_
   refine bB (fun w1 t => Cb 0 w1) ?_
   refine XK.go ?_
   refine kd (eW 0 11) ?_
   refine XK.go ?_
   refine XK.if_ rfl (fun hb => ?_) (fun hb => ?_)
   ·have hr : eP z 0 = none := by simp [eP, hb]
    have hz : eN z 0 = z := by simp [eN, hb]
    rw [hr, hz]
    unfold tF
    dsimp only [Option.getD]
    refine XK.go ?_
    refine XK.nT L 0 rfl ?_
    dsimp only [List.set]
    refine XK.uF (p := HP.dM (bQ (none, 0) []) (bQ.le (a := (none, 0)) (l := []))) zR ?_
    refine XK.weak [1, 0] rfl (by decide) (fun _ h => h) ?_
    refine XK.pair ?_
    exact XK.fQ rfl rfl rfl fun w1 t => ⟨(none, 0), rfl, trivial, t.turns hF (by simp) (i := 0) rfl⟩
   ·have cV : z.h0 = 2 := by simpa using hb
    have hr : eP z 0 = some z.w0 := by simp [eP, cV]
    have hz : eN z 0 = { z with h0 := 0, w0 := [] } := by simp [eN, cV]
    rw [hr, hz]
    unfold tF
    dsimp only [Option.getD]
    refine XK.go ?_
    refine kd (eW 0 11) ?_
    refine XK.go ?_
    refine dJ (zs := [.int .i64 0, .slice none 0 0]) (L := [(0, 1), (1, 1)]) (aM (by kernel_rfl)) (by kernel_rfl) rfl (by simp [aS, aT, Value.cells]; rfl) (by decide) ?_
    refine XK.go ?_
    refine kd (eW 0 11) ?_
    refine jP 0 (t := 150) rfl rfl rfl (by kernel_rfl) (by simp [Value.cells, Value.oneCell']) (by simp [Value.cells]) ?_
    dsimp only [List.set, Value.cells, bZ]
    refine XK.go ?_
    refine XK.take 1 3 rfl rfl ?_
    dsimp only [List.set]
    refine XK.uF (p := HP.dM (bQ (none, 0) []) (bQ.le (a := (none, 0)) (l := []))) zR ?_
    refine XK.weak [0, 2, 3, 1] rfl (by decide) (fun _ h => h) ?_
    refine XK.bF 1 3 rfl rfl ?_
    dsimp only [List.set]
    refine XK.nT (h := h) (s := s) (z := { z with h0 := 0, w0 := [] }) { L with b0 := (none, 0) } 0 rfl ?_
    dsimp only [List.set]
    refine XK.pair ?_
    exact XK.fQ rfl rfl rfl fun w1 t => ⟨L.b0, rfl, trivial, t.turns hF (by simp) (i := 0) rfl⟩
  ·refine XK.dY (p := mL f h s z) (F := F) (vs := [.pointer (some ⟨f, 0, none⟩), .int .i64 1]) Tryz.func21 rfl Tryz.ntmps21 (by simp) hp hF ?_
   refine XK.Ep 0 rfl fun L => ?_
   dsimp only [List.set, cC]
   refine XK.go ?_
   refine bB (fun w1 t => Cb 1 w1) ?_
   refine XK.go ?_
   refine kd (eW 1 13) ?_
   refine XK.go ?_
   refine XK.if_ rfl (fun hb => ?_) (fun hb => ?_)
   ·have hr : eP z 1 = none := by simp [eP, hb]
    have hz : eN z 1 = z := by simp [eN, hb]
    rw [hr, hz]
    unfold tF
    dsimp only [Option.getD]
    refine XK.go ?_
    refine XK.nT L 0 rfl ?_
    dsimp only [List.set]
    refine XK.uF (p := HP.dM (bQ (none, 0) []) (bQ.le (a := (none, 0)) (l := []))) zR ?_
    refine XK.weak [1, 0] rfl (by decide) (fun _ h => h) ?_
    refine XK.pair ?_
    exact XK.fQ rfl rfl rfl fun w1 t => ⟨(none, 0), rfl, trivial, t.turns hF (by simp) (i := 0) rfl⟩
   ·have cV : z.h1 = 2 := by simpa using hb
    have hr : eP z 1 = some z.w1 := by simp [eP, cV]
    have hz : eN z 1 = { z with h1 := 0, w1 := [] } := by simp [eN, cV]
    rw [hr, hz]
    unfold tF
    dsimp only [Option.getD]
    refine XK.go ?_
    refine kd (eW 1 13) ?_
    refine XK.go ?_
    refine dJ (zs := [.int .i64 0, .slice none 0 0]) (L := [(0, 1), (1, 1)]) (aM (by kernel_rfl)) (by kernel_rfl) rfl (by simp [aS, aT, Value.cells]; rfl) (by decide) ?_
    refine XK.go ?_
    refine kd (eW 1 13) ?_
    refine jP 0 (t := 150) rfl rfl rfl (by kernel_rfl) (by simp [Value.cells, Value.oneCell']) (by simp [Value.cells]) ?_
    dsimp only [List.set, Value.cells, bZ]
    refine XK.go ?_
    refine XK.take 1 4 rfl rfl ?_
    dsimp only [List.set]
    refine XK.uF (p := HP.dM (bQ (none, 0) []) (bQ.le (a := (none, 0)) (l := []))) zR ?_
    refine XK.weak [0, 2, 3, 1] rfl (by decide) (fun _ h => h) ?_
    refine XK.bF 1 4 rfl rfl ?_
    dsimp only [List.set]
    refine XK.nT (h := h) (s := s) (z := { z with h1 := 0, w1 := [] }) { L with b1 := (none, 0) } 0 rfl ?_
    dsimp only [List.set]
    refine XK.pair ?_
    exact XK.fQ rfl rfl rfl fun w1 t => ⟨L.b1, rfl, trivial, t.turns hF (by simp) (i := 0) rfl⟩
end
section
set_option maxHeartbeats 4000000
set_option maxRecDepth 20000
def uC (c : cZ) (r : Int) : Int := if c.kind = 112 then (if 1099511627776 < r * c.mul / c.div then 1099511627776 else r * c.mul / c.div) else if c.kind = 100 then r / c.div else r
def Aq (s : aD) : Nat → Nat → Int
 | 0, _ => 0
 | k + 1, i => match s.aB[i]? with
  | none => 0
  | some c => if c.kind = 111 then c.rate else uC c (match c.src with
   | [] => 0
   | f :: _ => Aq s k f.toNat)
def lP (s : aD) (i : Nat) : Int := Aq s (i + 1) i
def xF (s : aD) (st : List cR) (i : Int) : Int := if lE s st i then lP s i.toNat else 0
theorem aFB {s : aD} (hf : Fits cZ.fit s.aB) : ∀ (c k : Nat), c < k → Aq s k c = Aq s (c + 1) c := by
 intro c
 induction c using Nat.strongRecOn with
 | _ c ih =>
  intro k hk
  obtain ⟨k, rfl⟩ := Nat.exists_eq_add_of_lt hk
  rw [show c + k + 1 = (c + k) + 1 from rfl]
  unfold Aq
  cases hc : s.aB[c]? with
  | none => rfl
  | some x =>
   dsimp only
   cases hs : x.src with
   | nil => rfl
   | cons f fs =>
    have hfit := (hf c x hc).1 f (by rw [hs]; simp)
    have h1 : f.toNat < c := by omega
    dsimp only
    rw [ih f.toNat h1 (c + k) (by omega), ih f.toNat h1 c h1]
theorem aAr {s : aD} (hf : Fits cZ.fit s.aB) {i : Nat} {c : cZ} (hc : s.aB[i]? = some c) : lP s i = if c.kind = 111 then c.rate else uC c (match c.src with
  | [] => 0
  | f :: _ => lP s f.toNat) := by
 unfold lP
 rw [Aq, hc]
 dsimp only
 cases hs : c.src with
 | nil => rfl
 | cons f fs =>
  have hfit := (hf i c hc).1 f (by rw [hs]; simp)
  dsimp only
  rw [aFB hf f.toNat i (by omega)]
theorem aFA {s : aD} (hf : Fits cZ.fit s.aB) : ∀ i : Nat, 0 ≤ lP s i ∧ lP s i ≤ 1099511627776 := by
 intro i
 induction i using Nat.strongRecOn with
 | _ i ih =>
  cases hc : s.aB[i]? with
  | none => unfold lP Aq; rw [hc]; exact ⟨Int.le_refl 0, by show (0 : Int) ≤ 1099511627776; omega⟩
  | some c =>
   rw [aAr hf hc]
   obtain ⟨hsrc, hfit⟩ := hf i c hc
   have hr : 0 ≤ (match c.src with | [] => 0 | f :: _ => lP s f.toNat) ∧ (match c.src with | [] => 0 | f :: _ => lP s f.toNat) ≤ 1099511627776 := by
    cases hs : c.src with
    | nil => exact ⟨Int.le_refl 0, by show (0 : Int) ≤ 1099511627776; omega⟩
    | cons f fs =>
     have := hsrc f (by rw [hs]; simp)
     exact ih f.toNat (by omega)
   generalize (match c.src with | [] => 0 | f :: _ => lP s f.toNat) = r at hr
   rcases hfit with ⟨hk, _, h1, h2, _⟩ | ⟨hk, _, _, h1, h2, h3, h4, _⟩ | ⟨hk, _, _, _, h1, h2, _⟩ | ⟨hk, _⟩ | ⟨hk, _⟩
   ·rw [if_pos hk]; omega
   ·rw [if_neg (by omega), uC, if_pos hk]
    have : 0 ≤ r * c.mul / c.div := Int.ediv_nonneg (Int.mul_nonneg hr.1 (by omega)) (by omega)
    split <;> omega
   ·rw [if_neg (by omega), uC, if_neg (by omega), if_pos hk]
    have h5 : 0 ≤ r / c.div := Int.ediv_nonneg hr.1 (by omega)
    have h6 : r / c.div ≤ r := Int.ediv_le_self _ hr.1
    omega
   ·rw [if_neg (by omega), uC, if_neg (by omega), if_neg (by omega)]; exact hr
   ·rw [if_neg (by omega), uC, if_neg (by omega), if_neg (by omega)]; exact hr
theorem aAs (n : Int) (h1 : 1 ≤ n) (h2 : n ≤ 1000) (w : World) : Calls Tryz.prog 229 #[.int .i64 n] w (Rt (.bool true) w) := by
 refine XK.enter (vs := [.int .i64 n]) Tryz.func229 rfl Tryz.ntmps229 (by simp) ?_
 refine XK.go ?_
 refine bO (t := 5) rfl (fun _ => ?_) (fun h => absurd h1 h)
 refine XK.go ?_
 refine XK.bP (by simp) ?_
 rw [decide_eq_true h2]
theorem aCn (r m d : Int) (hr : 0 ≤ r ∧ r ≤ 1099511627776) (hm : 1 ≤ m ∧ m ≤ 8) (hd : 1 ≤ d ∧ d ≤ 4) (w : World) : Calls Tryz.prog 172 #[.int .u64 r, .int .i64 m, .int .i64 d] w (Rt (.tuple #[.int .u64 (if 1099511627776 < r * m / d then 0 else r * m / d), .int .i64 (if 1099511627776 < r * m / d then 3 else 0)]) w) := by
 have hmul : 0 ≤ r * m ∧ r * m ≤ 1099511627776 * 8 := ⟨Int.mul_nonneg hr.1 (by omega), Int.mul_le_mul hr.2 hm.2 (by omega) (by omega)⟩
 have hq : 0 ≤ r * m / d ∧ r * m / d ≤ r * m := ⟨Int.ediv_nonneg hmul.1 (by omega), Int.ediv_le_self _ hmul.1⟩
 refine XK.enter (vs := [.int .u64 r, .int .i64 m, .int .i64 d]) Tryz.func172 rfl Tryz.ntmps172 (by simp) ?_
 refine XK.go ?_
 refine bO (t := 11) rfl (fun h => absurd h (by omega)) (fun _ => ?_)
 refine XK.go ?_
 refine bB (fun w1 t => aAs m hm.1 (by omega) w1) ?_
 refine XK.go ?_
 refine bB (fun w1 t => aAs d hd.1 (by omega) w1) ?_
 refine XK.go ?_
 refine qN (ds := .int .i64) (kd := .u64) (by kernel_rfl) (by kernel_rfl) rfl (wrap_u64 (by omega)) (by decide) ?_
 refine Mz rfl rfl (c := r * m) (wrap_u64 (by omega)) (by decide) ?_
 refine XK.go ?_
 refine qN (ds := .int .i64) (kd := .u64) (by kernel_rfl) (by kernel_rfl) rfl (wrap_u64 (by omega)) (by decide) ?_
 refine Dv rfl rfl (c := r * m / d) (by omega) (by rw [Int.tdiv_eq_ediv_of_nonneg hmul.1]; exact wrap_u64 (by omega)) (by decide) ?_
 refine XK.go ?_
 refine XK.if_ rfl (fun h => ?_) (fun h => ?_)
 ·rw [if_pos h, if_pos h]
  refine XK.go ?_
  exact XK.fQ rfl rfl rfl fun w1 t => ⟨rfl, t.below (by simp)⟩
 ·rw [if_neg h, if_neg h]
  refine XK.go ?_
  exact XK.fQ rfl rfl rfl fun w1 t => ⟨rfl, t.below (by simp)⟩
theorem aG5 (L : TL) (s : aD) (st : List cR) (hH : s.cK) (b1 b2 : Nat) : ∀ (i : Nat), i < s.aB.length → ∀ w, qI w L s st → eK w b1 0 (.pointer (some ⟨L.t, 0, none⟩)) → eK w b2 0 (.func (.func 171) #[] #[.pointer (some ⟨b1, 0, none⟩), .pointer (some ⟨b2, 0, none⟩)]) →
  Calls Tryz.prog 171 #[.int .i64 (i : Int), .pointer (some ⟨b1, 0, none⟩), .pointer (some ⟨b2, 0, none⟩)] w (Rt (.int .u64 (lP s i)) w) := by
 intro i
 induction i using Nat.strongRecOn with
 | _ i ih =>
  intro hlt w hR zY cV
  obtain ⟨b, off, c, a, x, hc, hx, hA, hro, hs⟩ := hR.node hlt
  have Gf := aAr hH.t.aB hc
  have h0 := hR.r0
  rw [hA] at h0
  have k0 := hro.at_ (j := 0) rfl
  have k2 := hro.at_ (j := 2) rfl
  have k3 := hro.at_ (j := 3) rfl
  have k4 := hro.at_ (j := 4) rfl
  have k10 := hro.at_ (j := 10) rfl
  have Cj : ∀ {w1}, Below w.heap.size w w1 → eK w1 b1 0 (.pointer (some ⟨L.t, 0, none⟩)) := fun hb => ⟨Nat.lt_of_lt_of_le zY.1 hb.size, (hb.cell (p := ⟨_, 0, none⟩) zY.1).trans zY.2⟩
  have go2 : ∀ {w1}, Below w.heap.size w w1 → eK w1 b2 0 (.func (.func 171) #[] #[.pointer (some ⟨b1, 0, none⟩), .pointer (some ⟨b2, 0, none⟩)]) := fun hb => ⟨Nat.lt_of_lt_of_le cV.1 hb.size, (hb.cell (p := ⟨_, 0, none⟩) cV.1).trans cV.2⟩
  obtain ⟨hsrc, hfit⟩ := hH.t.aB i c hc
  refine XK.enter (vs := [.int .i64 (i : Int), .pointer (some ⟨b1, 0, none⟩), .pointer (some ⟨b2, 0, none⟩)]) Tryz.func171 rfl Tryz.ntmps171 (by simp) ?_
  refine XK.go ?_
  refine kd (dat i (off + i * 11)) ?_
  rcases hfit with ⟨hk, hs0, _⟩ | hfit
  ·rw [hk] at k0
   rw [if_pos hk] at Gf
   refine XK.go ?_
   exact XK.bP (by simp) (by rw [Gf])
  obtain ⟨f, fs, hf⟩ : ∃ (f : Nat) (fs : List Int), c.src = (f : Int) :: fs := by
   cases hs0 : c.src with
   | nil => rw [hs0] at hfit; simp at hfit
   | cons f fs => exact ⟨f.toNat, fs, by have := (hsrc f (by rw [hs0]; simp)).1; rw [Int.toNat_of_nonneg this]⟩
  have zP : f < i := by have := (hsrc f (by rw [hf]; simp)).2; omega
  have mE := aFA hH.t.aB f
  have Lg : ∀ w1, Below w.heap.size w w1 → Calls Tryz.prog 167 #[.pointer (some ⟨L.t, 0, none⟩), .int .i64 (i : Int)] w1 (Rt (.int .i64 (f : Int)) w1) := fun w1 hb => Cz L s st i f c fs w1 (hR.below hb) hc hf
  have Lf : ∀ w1, Below w.heap.size w w1 → Calls Tryz.prog 171 #[.int .i64 (f : Int), .pointer (some ⟨b1, 0, none⟩), .pointer (some ⟨b2, 0, none⟩)] w1 (Rt (.int .u64 (lP s f)) w1) := fun w1 hb => ih f zP (by omega) w1 (hR.below hb) (Cj hb) (go2 hb)
  rw [hf] at Gf
  have tO : lP s i = if c.kind = 111 then c.rate else uC c (lP s f) := Gf
  clear Gf
  rcases hfit with ⟨hk, _, _, Fw, hm2, fR, Ze, _⟩ | ⟨hk, _, _, _, fR, Ze, _⟩ | ⟨hk, _⟩ | ⟨hk, _⟩
  ·rw [hk] at k0
   rw [if_neg (by omega), uC, if_pos hk] at tO
   refine XK.go ?_
   refine XK.jD ?_
   refine XQ.go ?_
   refine XQ.call (fun w1 t => Lg w1 (t.below (by simp))) ?_
   refine XQ.wP (fi := []) (vs := [.int .i64 (f : Int)]) (ca := [.pointer (some ⟨b1, 0, none⟩), .pointer (some ⟨b2, 0, none⟩)]) (fun w1 t => Lf w1 (t.below (by simp))) ?_
   refine XQ.end_ ?_
   refine XK.go ?_
   refine XK.jD ?_
   refine XQ.go ?_
   refine XQ.call (fun w1 t => aCn _ c.mul c.div mE ⟨Fw, hm2⟩ ⟨fR, Ze⟩ w1) ?_
   refine XQ.end_ ?_
   refine XK.go ?_
   by_cases hq : 1099511627776 < lP s f * c.mul / c.div
   ·rw [if_pos hq] at tO
    rw [if_pos hq, if_pos hq]
    refine XK.go ?_
    exact XK.bP (by simp) (by rw [tO])
   ·rw [if_neg hq] at tO
    rw [if_neg hq, if_neg hq]
    refine XK.go ?_
    exact XK.bP (by simp) (by rw [tO])
  ·rw [hk] at k0
   rw [if_neg (by omega), uC, if_neg (by omega), if_pos hk] at tO
   have hby : Td c = c.div := by rw [Td, if_pos hk]
   rw [hby] at k10
   have hq : 0 ≤ lP s f / c.div ∧ lP s f / c.div ≤ lP s f := ⟨Int.ediv_nonneg mE.1 (by omega), Int.ediv_le_self _ mE.1⟩
   refine XK.go ?_
   refine XK.jD ?_
   refine XQ.go ?_
   refine XQ.call (fun w1 t => Lg w1 (t.below (by simp))) ?_
   refine XQ.wP (fi := []) (vs := [.int .i64 (f : Int)]) (ca := [.pointer (some ⟨b1, 0, none⟩), .pointer (some ⟨b2, 0, none⟩)]) (fun w1 t => Lf w1 (t.below (by simp))) ?_
   refine XQ.end_ ?_
   refine XK.go ?_
   refine qN (ds := .int .i64) (kd := .u64) (by kernel_rfl) (by kernel_rfl) rfl (wrap_u64 (by omega)) (by decide) ?_
   refine Dv rfl rfl (c := lP s f / c.div) (by omega) (by rw [Int.tdiv_eq_ediv_of_nonneg mE.1]; exact wrap_u64 (by omega)) (by decide) ?_
   refine XK.go ?_
   exact XK.bP (by simp) (by rw [tO])
  ·rw [hk] at k0
   rw [if_neg (by omega), uC, if_neg (by omega), if_neg (by omega)] at tO
   refine XK.go ?_
   refine XK.jD ?_
   refine XQ.go ?_
   refine XQ.call (fun w1 t => Lg w1 (t.below (by simp))) ?_
   refine XQ.wP (fi := []) (vs := [.int .i64 (f : Int)]) (ca := [.pointer (some ⟨b1, 0, none⟩), .pointer (some ⟨b2, 0, none⟩)]) (fun w1 t => Lf w1 (t.below (by simp))) ?_
   refine XQ.end_ ?_
   refine XK.go ?_
   exact XK.bP (by simp) (by rw [tO])
  ·rw [hk] at k0
   rw [if_neg (by omega), uC, if_neg (by omega), if_neg (by omega)] at tO
   refine XK.go ?_
   refine XK.jD ?_
   refine XQ.go ?_
   refine XQ.call (fun w1 t => Lg w1 (t.below (by simp))) ?_
   refine XQ.wP (fi := []) (vs := [.int .i64 (f : Int)]) (ca := [.pointer (some ⟨b1, 0, none⟩), .pointer (some ⟨b2, 0, none⟩)]) (fun w1 t => Lf w1 (t.below (by simp))) ?_
   refine XQ.end_ ?_
   refine XK.go ?_
   exact XK.bP (by simp) (by rw [tO])
theorem aG2 (L : TL) (s : aD) (st : List cR) (hH : s.cK) (i : Int) (w : World) (hR : qI w L s st) :
  Calls Tryz.prog 87 #[.pointer (some ⟨L.t, 0, none⟩), .int .i64 i] w (Rt (.int .u64 (xF s st i)) w) := by
 unfold xF
 cases hr : lE s st i
 ·rw [if_neg (by decide)]
  refine XK.enter (vs := [.pointer (some ⟨L.t, 0, none⟩), .int .i64 i]) Tryz.func87 rfl Tryz.ntmps87 (by simp) ?_
  refine XK.go ?_
  refine bY rfl (by decide) fun g1 => ?_
  refine XK.go ?_
  refine bB (fun w1 t => Hl L s st hH i w1 (hR.below (t.below (by simp)))) ?_
  rw [hr]
  refine XK.go ?_
  exact XK.bP (by simp) rfl
 ·rw [if_pos rfl]
  have hi : cL s.aB.length i = true := by
   unfold lE at hr
   exact (Bool.and_eq_true _ _ ▸ hr).1
  obtain ⟨n, rfl⟩ : ∃ n : Nat, i = n := ⟨i.toNat, by have := of_decide_eq_true hi; omega⟩
  have hlt : n < s.aB.length := by have := of_decide_eq_true hi; omega
  refine XK.enter (vs := [.pointer (some ⟨L.t, 0, none⟩), .int .i64 (n : Int)]) Tryz.func87 rfl Tryz.ntmps87 (by simp) ?_
  refine XK.go ?_
  refine bY rfl (by decide) fun g1 => ?_
  refine XK.go ?_
  refine bB (fun w1 t => Hl L s st hH n w1 (hR.below (t.below (by simp)))) ?_
  rw [hr]
  refine XK.go ?_
  refine cD (cs := [.nilFunc]) (aM (by kernel_rfl)) (by decide) fun g2 => ?_
  refine XK.go ?_
  refine iA (vf := []) (vc := [.pointer (some ⟨g1, 0, none⟩), .pointer (some ⟨g2, 0, none⟩)]) rfl rfl (by decide) ?_
  refine XK.go ?_
  refine Ki (fi := []) (vs := [.int .i64 (n : Int)]) (ca := [.pointer (some ⟨g1, 0, none⟩), .pointer (some ⟨g2, 0, none⟩)]) (fun w1 t => aG5 L s st hH g1 g2 n hlt w1 (hR.below (t.below (by simp))) ((t.box (i := 1) rfl).at_ (j := 0) rfl) ((t.box (i := 0) rfl).at_ (j := 0) rfl)) ?_
  refine XK.go ?_
  exact XK.bP (by simp) rfl
end
section
set_option maxHeartbeats 4000000
set_option maxRecDepth 20000
def iE (s : aD) (x : aV) (l : List Int) : List Int :=
 let w := l.headD 0
 if bT w 0 8 = 0 then [131072]
 else if bT w 10 8 = 16 ∧ bT w 0 8 = 1 then [IntKind.u32.wrap (s.domains.length + s.aB.length * 256 + s.aU.length * 65536 + s.aG.length * 16777216)]
 else if bT w 10 8 = 17 ∧ bT w 0 8 = 5 then [yW (mT x.dm (l.getD 1 0))]
 else if bT w 10 8 = 20 ∧ bT w 0 8 = 6 then [IntKind.u32.wrap (xF s x.ck (l.getD 1 0)), IntKind.u32.wrap (xF s x.ck (l.getD 1 0) / 4294967296)] else []
theorem aEJ (L : HL) (s : aD) (x : aV) (w : World) (hH : s.cK) (i : Int) (hR : nD w L s x) : Calls Tryz.prog 27 #[.pointer (some ⟨L.h, 0, none⟩), .int .i64 i] w (Rt (.int .u64 (xF s x.ck i)) w) := by
 have k0 := hR.r0.at_ (j := 0) rfl
 refine XK.enter (vs := [.pointer (some ⟨L.h, 0, none⟩), .int .i64 i]) Tryz.func27 rfl Tryz.ntmps27 (by simp) ?_
 refine XK.go ?_
 refine bB (fun w1 t => wB L s x w1 (hR.below (t.below (by simp)))) ?_
 refine XK.go ?_
 refine bB (fun w1 t => aG2 L.T s x.ck hH i w1 (hR.tree.below (t.below (by simp)))) ?_
 refine XK.go ?_
 exact XK.bP (by simp) rfl
theorem Tc {α : Type} {cs vs : List α} {o : Nat} (hv : (cs.drop o).take vs.length = vs) {j : Nat} {v : α} (hj : vs[j]? = some v) : cs[o + j]? = some v := by
 have hlt := (List.getElem?_eq_some_iff.1 hj).1
 rw [← hv, List.getElem?_take_of_lt hlt, List.getElem?_drop] at hj
 exact hj
theorem aAj (f : Nat) (L : eE) (s : aD) (z : bH) (hL : HL) (x : aV) (hH : s.cK) (rB : rN s x.dm) (A : Option Addr) (c : Nat) (v : Int) (l : List Int) (w : World) (hR : pH w f hL.h L s z) (hh : nD w hL s x) (hs : aI (all w) 1 A (v :: l).length (iI (v :: l)))
  (hu : bT v 28 4 = 0) (mC : (bT v 10 8 = 17 ∧ bT v 0 8 = 5) ∨ (bT v 10 8 = 20 ∧ bT v 0 8 = 6) → ∃ i, l = [i] ∧ 0 ≤ i ∧ i < 4294967296) :
  Calls Tryz.prog 158 #[.pointer (some ⟨f, 0, none⟩), .slice A (v :: l).length c] w (fun y w' => (∃ r, y = .returned r ∧ Ie (iE s x (v :: l)) r w w') ∧ Below w.heap.size w w') := by
 obtain ⟨b, off, rfl, hro⟩ := aI.u32 hs (by simp)
 have k0 := hro 0 v rfl
 have hlen : (v :: l).length = l.length + 1 := rfl
 have hE : qP v = 0 := by rw [qP, if_neg (by simp [hu])]
 have hU : yN v = zS (bT v 0 8) (bT v 8 2) (bT v 10 8) (bT v 18 10) := by rw [yN, if_neg (by simp [hu])]
 have kf := hR.r0.at_ (j := 0) rfl
 have k4 : cX w f 1 [.slice L.a1.1 s.aB.length L.a1.2, .slice L.a2.1 s.domains.length L.a2.2, .slice L.a3.1 s.aU.length L.a3.2, .slice L.a4.1 s.aG.length L.a4.2] := ⟨hR.r0.1, fun j v hj => by
  have := hR.r0.2 (1 + j) v (Tc rfl hj)
  rwa [Nat.zero_add] at this⟩
 have hnc := hH.t.nc
 have hnd := hH.t.nd
 have gS := hH.t.nr
 have Fu := hH.t.nv
 refine XK.enter (vs := [.pointer (some ⟨f, 0, none⟩), .slice (some ⟨b, off, none⟩) (v :: l).length c]) Tryz.func158 rfl Tryz.ntmps158 (by simp) ?_
 refine XK.go ?_
 refine kd (dat 0 off) ?_
 refine XK.go ?_
 refine bB (fun w1 t => Uv v w1) ?_
 rw [hE, hU]
 dsimp only [zS]
 refine XK.go ?_
 refine cD (cs := [.int .i64 0, .int .i64 0, .int .i64 0, .int .i64 0]) (aM (by kernel_rfl)) (by decide) fun g1 => ?_
 refine XK.go ?_
 refine XK.if_ rfl (fun h1 => ?_) (fun h1 => ?_)
 ·have hm : iE s x (v :: l) = [131072] := if_pos (by simpa using h1)
  rw [hm]
  refine XK.go ?_
  refine eZ (el := 44) (sz := 1) (zs := [.int .u32 0]) (by kernel_rfl) (aM (by kernel_rfl)) (by kernel_rfl) rfl (by decide) (by decide) rfl (by simp [aS, aT, Value.cells, List.range_succ, List.set]; rfl) (by decide) fun g2 => ?_
  refine XK.go ?_
  refine XK.still [] [0] [] (by simp) rfl (by decide) (by decide) fun q hq _ hfr => ?_
  obtain ⟨F2, kH, kE⟩ := hq 0 _ (by simp) rfl
  have cS := aI.oG (Y := q.Z) (sz := 1) (n := 1) (c := 1) kH kE rfl
  exact XK.aK rfl rfl fun w1 st => ⟨⟨_, rfl, _, _, rfl, aI.le cS (st.kX (by simp) (hfr (by simp) (by simp)))⟩, st.below (by simp)⟩
 ·have n1 : bT v 0 8 ≠ 0 := by simpa using h1
  refine XK.go ?_
  refine bO (t := 26) rfl (fun h2 => ?_) (fun h2 => ?_)
  ·have p1 : bT v 10 8 = 16 := by simpa using h2
   refine XK.go ?_
   refine XK.if_ rfl (fun h3 => ?_) (fun h3 => ?_)
   ·have m1 : bT v 0 8 = 1 := by simpa using h3
    have hm : iE s x (v :: l) = [IntKind.u32.wrap (s.domains.length + s.aB.length * 256 + s.aU.length * 65536 + s.aG.length * 16777216)] := (if_neg n1).trans (if_pos ⟨p1, m1⟩)
    rw [hm]
    refine XK.go ?_
    refine cD (cs := [.slice none 0 0, .slice none 0 0, .slice none 0 0, .slice none 0 0]) (aM (by kernel_rfl)) (by decide) fun g2 => ?_
    refine XK.go ?_
    refine Bh rfl rfl (c := s.aB.length * 256) (by decide) (by show IntKind.i64.wrap ((s.aB.length : Int) * 256) = _; exact aY (by omega)) (by decide) ?_
    refine XK.go ?_
    refine Bh rfl rfl (c := s.aU.length * 65536) (by decide) (by show IntKind.i64.wrap ((s.aU.length : Int) * 65536) = _; exact aY (by omega)) (by decide) ?_
    refine XK.go ?_
    refine Bh rfl rfl (c := s.aG.length * 16777216) (by decide) (by show IntKind.i64.wrap ((s.aG.length : Int) * 16777216) = _; exact aY (by omega)) (by decide) ?_
    refine XK.go ?_
    refine qN (ds := .int .i64) (kd := .u32) (by kernel_rfl) (by kernel_rfl) rfl rfl (by decide) ?_
    refine eZ (el := 44) (sz := 1) (zs := [.int .u32 0]) (by kernel_rfl) (aM (by kernel_rfl)) (by kernel_rfl) rfl (by decide) (by decide) rfl (by simp [aS, aT, Value.cells, List.range_succ, List.set]; rfl) (by decide) fun g3 => ?_
    refine XK.go ?_
    refine XK.still [] [0] [] (by simp) rfl (by decide) (by decide) fun q hq _ hfr => ?_
    obtain ⟨F2, kH, kE⟩ := hq 0 _ (by simp) rfl
    have cS := aI.oG (Y := q.Z) (sz := 1) (n := 1) (c := 1) kH kE rfl
    exact XK.aK rfl rfl fun w1 st => ⟨⟨_, rfl, _, _, rfl, aI.le cS (st.kX (by simp) (hfr (by simp) (by simp)))⟩, st.below (by simp)⟩
   ·have m1 : bT v 0 8 ≠ 1 := by simpa using h3
    have hm : iE s x (v :: l) = [] := (if_neg n1).trans ((if_neg fun h => m1 h.2).trans ((if_neg fun h => by have := h.1; simp [p1] at this).trans (if_neg fun h => by have := h.1; simp [p1] at this)))
    rw [hm]
    refine XK.go ?_
    refine bO (t := 60) rfl (fun h4 => absurd h4 (by simp [p1])) (fun _ => ?_)
    refine XK.go ?_
    refine bO (t := 80) rfl (fun h4 => absurd h4 (by simp [p1])) (fun _ => ?_)
    refine XK.go ?_
    exact XK.aK rfl rfl fun w1 st => ⟨⟨_, rfl, _, _, rfl, rfl, fun h => absurd h (by simp)⟩, st.below (by simp)⟩
  ·have p1 : bT v 10 8 ≠ 16 := by simpa using h2
   refine XK.go ?_
   refine bO (t := 60) rfl (fun h3 => ?_) (fun h3 => ?_)
   ·have p2 : bT v 10 8 = 17 := by simpa using h3
    refine XK.go ?_
    refine XK.if_ rfl (fun h4 => ?_) (fun h4 => ?_)
    ·have m1 : bT v 0 8 = 5 := by simpa using h4
     obtain ⟨i, rfl, hi1, hi2⟩ := mC (.inl ⟨p2, m1⟩)
     have aE8 : [v, i].length = 2 := rfl
     have hm : iE s x [v, i] = [yW (mT x.dm i)] := (if_neg n1).trans ((if_neg fun h => p1 h.1).trans (if_pos ⟨p2, m1⟩))
     have k1 := hro 1 i rfl
     rw [hm]
     refine XK.go ?_
     refine XK.eJ [1, 2, 3, 5, 6, 7] ?_
     refine XB.mv 0 ?_
     refine XB.mv 4 ?_
     refine XB.q 1 ?_
     refine XB.q 2 ?_
     refine XB.q 3 ?_
     refine XB.q 5 ?_ (eD := dat (sz := 1) 1 (off + 1))
     refine XB.q 6 ?_
     refine XB.q 7 ?_ (eD := Cu (ds := .int .u32) (by kernel_rfl) (by kernel_rfl) rfl (aY (by omega)))
     refine XB.next 8 rfl (by kernel_rfl) ?_
     refine bB (fun w1 t => Gi hL s x w1 rB i (hh.below (t.below (by simp)))) ?_
     refine XB.bt ?_
     refine XB.next 9 rfl (by kernel_rfl) ?_
     refine bB (fun w1 t => aF4 _ w1) ?_
     refine XB.bt ?_
     refine XB.next 10 rfl (by kernel_rfl) ?_
     refine eZ (el := 44) (sz := 1) (zs := [.int .u32 0]) (by kernel_rfl) (aM (by kernel_rfl)) (by kernel_rfl) rfl (by decide) (by decide) rfl (by simp [aS, aT, Value.cells, List.range_succ, List.set]; rfl) (by decide) fun g2 => ?_
     refine XB.bt ?_
     refine XB.next 11 rfl (by kernel_rfl) ?_
     refine bI ?_
     refine XB.bt ?_
     refine XB.done (by kernel_rfl) ?_
     refine XK.go ?_
     refine XK.still [] [0] [] (by simp) rfl (by decide) (by decide) fun q hq _ hfr => ?_
     obtain ⟨F2, kH, kE⟩ := hq 0 _ (by simp) rfl
     have cS := aI.oG (Y := q.Z) (sz := 1) (n := 1) (c := 1) kH kE rfl
     exact XK.aK rfl rfl fun w1 st => ⟨⟨_, rfl, _, _, rfl, aI.le cS (st.kX (by simp) (hfr (by simp) (by simp)))⟩, st.below (by simp)⟩
    ·have m1 : bT v 0 8 ≠ 5 := by simpa using h4
     have hm : iE s x (v :: l) = [] := (if_neg n1).trans ((if_neg fun h => p1 h.1).trans ((if_neg fun h => m1 h.2).trans (if_neg fun h => by have := h.1; simp [p2] at this)))
     rw [hm]
     refine XK.go ?_
     refine bO (t := 80) rfl (fun h4 => absurd h4 (by simp [p2])) (fun _ => ?_)
     refine XK.go ?_
     exact XK.aK rfl rfl fun w1 st => ⟨⟨_, rfl, _, _, rfl, rfl, fun h => absurd h (by simp)⟩, st.below (by simp)⟩
   ·have p2 : bT v 10 8 ≠ 17 := by simpa using h3
    refine XK.go ?_
    refine bO (t := 80) rfl (fun h5 => ?_) (fun h5 => ?_)
    ·have p3 : bT v 10 8 = 20 := by simpa using h5
     refine XK.go ?_
     refine XK.if_ rfl (fun h6 => ?_) (fun h6 => ?_)
     ·have m1 : bT v 0 8 = 6 := by simpa using h6
      obtain ⟨i, rfl, hi1, hi2⟩ := mC (.inr ⟨p3, m1⟩)
      have aE8 : [v, i].length = 2 := rfl
      have hm : iE s x [v, i] = [IntKind.u32.wrap (xF s x.ck i), IntKind.u32.wrap (xF s x.ck i / 4294967296)] := (if_neg n1).trans ((if_neg fun h => p1 h.1).trans ((if_neg fun h => p2 h.1).trans (if_pos ⟨p3, m1⟩)))
      have k1 := hro 1 i rfl
      rw [hm]
      refine XK.go ?_
      refine XK.eJ [1, 2, 3, 5, 6, 7] ?_
      refine XB.mv 0 ?_
      refine XB.mv 4 ?_
      refine XB.q 1 ?_
      refine XB.q 2 ?_
      refine XB.q 3 ?_
      refine XB.q 5 ?_ (eD := dat (sz := 1) 1 (off + 1))
      refine XB.q 6 ?_
      refine XB.q 7 ?_ (eD := Cu (ds := .int .u32) (by kernel_rfl) (by kernel_rfl) rfl (aY (by omega)))
      refine XB.next 8 rfl (by kernel_rfl) ?_
      refine bB (fun w1 t => aEJ hL s x w1 hH i (hh.below (t.below (by simp)))) ?_
      refine XB.bt ?_
      refine XB.next 9 rfl (by kernel_rfl) ?_
      refine bI ?_
      refine XB.bt ?_
      refine XB.done (by kernel_rfl) ?_
      refine XK.go ?_
      refine qN (ds := .int .u64) (kd := .u32) (by kernel_rfl) (by kernel_rfl) rfl rfl (by decide) ?_
      refine XK.go ?_
      refine aB2 rfl rfl (c := xF s x.ck i / 4294967296) (by decide) (by show Int.fdiv _ (2 ^ 32) = _; rw [Int.fdiv_eq_ediv_of_nonneg _ (by decide)]; rfl) (by decide) ?_
      refine qN (ds := .int .u64) (kd := .u32) (by kernel_rfl) (by kernel_rfl) rfl rfl (by decide) ?_
      refine eZ (el := 44) (sz := 1) (zs := [.int .u32 0]) (by kernel_rfl) (aM (by kernel_rfl)) (by kernel_rfl) rfl (by decide) (by decide) rfl (by simp [aS, aT, Value.cells, List.range_succ, List.set]; rfl) (by decide) fun g2 => ?_
      refine XK.go ?_
      refine XK.still [] [0] [] (by simp) rfl (by decide) (by decide) fun q hq _ hfr => ?_
      obtain ⟨F2, kH, kE⟩ := hq 0 _ (by simp) rfl
      have cS := aI.oG (Y := q.Z) (sz := 1) (n := 2) (c := 2) kH kE rfl
      exact XK.aK rfl rfl fun w1 st => ⟨⟨_, rfl, _, _, rfl, aI.le cS (st.kX (by simp) (hfr (by simp) (by simp)))⟩, st.below (by simp)⟩
     ·have m1 : bT v 0 8 ≠ 6 := by simpa using h6
      have hm : iE s x (v :: l) = [] := (if_neg n1).trans ((if_neg fun h => p1 h.1).trans ((if_neg fun h => p2 h.1).trans (if_neg fun h => m1 h.2)))
      rw [hm]
      refine XK.go ?_
      exact XK.aK rfl rfl fun w1 st => ⟨⟨_, rfl, _, _, rfl, rfl, fun h => absurd h (by simp)⟩, st.below (by simp)⟩
    ·have p3 : bT v 10 8 ≠ 20 := by simpa using h5
     have hm : iE s x (v :: l) = [] := (if_neg n1).trans ((if_neg fun h => p1 h.1).trans ((if_neg fun h => p2 h.1).trans (if_neg fun h => p3 h.1)))
     rw [hm]
     refine XK.go ?_
     exact XK.aK rfl rfl fun w1 st => ⟨⟨_, rfl, _, _, rfl, rfl, fun h => absurd h (by simp)⟩, st.below (by simp)⟩
end
section
set_option maxHeartbeats 4000000
set_option maxRecDepth 20000
def cO (f : Nat) (hL : HL) (s : aD) (z : bH) (x : aV) : HP := HP.many [mL f hL.h s z, dG hL s x]
def eS (z : bH) (a : Nat) : List Int := if a = 0 then z.w0 else z.w1
def kB (s : aD) (x : aV) (l : List Int) (st : Int) : List Int := l.headD 0 :: IntKind.u32.wrap st :: (if st = 0 then iE s x l else [])
def kJ (z : bH) (a : Nat) (hs : Int) (l : List Int) : bH := if a = 0 then { z with h0 := hs, w0 := l } else { z with h1 := hs, w1 := l }
def gQ (s : aD) (x : aV) (z : bH) (a : Nat) (st : Int) : bH := kJ z a 2 (kB s x (eS z a) st)
structure mK (l : List Int) : Prop where
 ne : ∃ v r, l = v :: r ∧ bT v 28 4 = 0 ∧ ((bT v 10 8 = 17 ∧ bT v 0 8 = 5) ∨ (bT v 10 8 = 20 ∧ bT v 0 8 = 6) → ∃ i, r = [i] ∧ 0 ≤ i ∧ i < 4294967296)
theorem Bw (s : aD) (x : aV) (l : List Int) : (iE s x l).length ≤ 2 := by
 unfold iE
 dsimp only
 split
 ·simp
 ·split
  ·simp
  ·split
   ·simp
   ·split <;> simp
section
variable {N : cJ} {w0 w : World} {e : Env} {R : List Piece} {H : List HP} {K : Act → World → Prop} {f h : Nat} {L : eE} {s : aD} {z : bH} {v : Int} {r : List Int}
theorem bQ.at_ {a : AC} {w : World} (hb : bQ a (v :: r) (all w)) : ∃ b off, a.1 = some ⟨b, off, none⟩ ∧ w.cell? ⟨b, off, none⟩ = some (.int .u32 v) := by
 obtain ⟨b, off, hA, hc⟩ := aI.u32 hb (by simp)
 exact ⟨b, off, hA, by have := (hc 0 v rfl).2; simpa using this⟩
theorem XK.aAL (i : Nat) (hi : H[i]? = some (eF f h L s z)) (hw : z.w0 = v :: r) (k : ∀ b off, L.b0.1 = some ⟨b, off, none⟩ → Rd w0 R H b off (.int .u32 v) → XK N w0 K e R H) : XK N w0 K e R H := fun a w hr st => by
 obtain ⟨b, off, hA, _⟩ := bQ.at_ (hw ▸ (st.nR i hi).b0)
 refine k b off hA (fun w1 t => ?_) a w hr st
 obtain ⟨b', off', nA, hc⟩ := bQ.at_ (hw ▸ (t.nR i hi).b0)
 rw [hA] at nA
 cases nA
 exact hc
theorem XK.aAK (i : Nat) (hi : H[i]? = some (eF f h L s z)) (hw : z.w1 = v :: r) (k : ∀ b off, L.b1.1 = some ⟨b, off, none⟩ → Rd w0 R H b off (.int .u32 v) → XK N w0 K e R H) : XK N w0 K e R H := fun a w hr st => by
 obtain ⟨b, off, hA, _⟩ := bQ.at_ (hw ▸ (st.nR i hi).b1)
 refine k b off hA (fun w1 t => ?_) a w hr st
 obtain ⟨b', off', nA, hc⟩ := bQ.at_ (hw ▸ (t.nR i hi).b1)
 rw [hA] at nA
 cases nA
 exact hc
end
theorem aFz (f : Nat) (hL : HL) (s : aD) (z : bH) (x : aV) (hH : s.cK) (aX : gZ hL s) (hok : cH s x) (st : Int) (hw : z.w0 = []) (hst : st ≠ 0) (w : World) (F : Nat → Prop) (hp : (cO f hL s z x).sat F w) (hF : ∀ b, F b → b < w.heap.size) :
  Calls Tryz.prog 76 #[.pointer (some ⟨f, 0, none⟩), .int .i64 0, .int .i32 st] w (fun y w' => y = .returned (.tuple #[]) ∧ ∃ F', (cO f hL s (gQ s x z 0 st) x).sat F' w' ∧ bX w w' F F') := by
 have hr : gQ s x z 0 st = { z with h0 := 2, w0 := [0, IntKind.u32.wrap st] } := by simp [gQ, kJ, kB, eS, hw, hst]
 rw [hr]
 refine XK.dY (p := cO f hL s z x) (F := F) (vs := [.pointer (some ⟨f, 0, none⟩), .int .i64 0, .int .i32 st]) Tryz.func76 rfl Tryz.ntmps76 (by simp) hp hF ?_
 refine XK.take 0 0 rfl rfl ?_
 dsimp only [List.set]
 refine XK.oB 0 rfl fun L => ?_
 dsimp only [List.set]
 refine XK.take 0 0 rfl rfl ?_
 dsimp only [List.set, cC]
 refine XK.go ?_
 refine kd (eW 0 11) ?_
 refine XK.go ?_
 refine XK.bF 0 0 rfl rfl ?_
 dsimp only [List.set]
 refine XK.if_ rfl (fun h => absurd h (by simp [hw])) (fun _ => ?_)
 refine XK.go ?_
 refine XK.if_ rfl (fun h => absurd h (by simpa using hst)) (fun _ => ?_)
 refine XK.go ?_
 refine XK.take 0 0 rfl rfl ?_
 dsimp only [List.set]
 refine XK.eJ [7, 8] ?_
 refine XB.mv 0 ?_
 refine XB.mv 1 ?_
 refine XB.mv 2 ?_
 refine XB.mv 3 ?_
 refine XB.mv 4 ?_
 refine XB.q 7 ?_
 refine XB.q 8 ?_
 refine XB.next 5 rfl (by kernel_rfl) ?_
 refine dU (f := 159) (fi := []) (ca := []) (by kernel_rfl) rfl rfl (by decide) (wS (0 :: IntKind.u32.wrap st :: [])) (fun w1 t => Dd 0 st _ rfl none 0 0 [] w1 (⟨rfl, fun h => absurd h (by simp)⟩) rfl (by have := Bw s x z.w0; simp; try omega)) ?_
 rintro _ _ q9 ⟨An, cn, rfl, rfl⟩ _
 dsimp only [List.cons_append, List.nil_append]
 refine XB.bk ?_
 refine XB.next 6 rfl (by kernel_rfl) ?_
 refine dJ (zs := [.int .i64 0, .slice none 0 0]) (L := [(0, 1), (1, 1)]) (aM (by kernel_rfl)) (by kernel_rfl) rfl (by simp [aS, aT, Value.cells]; rfl) (by decide) ?_
 refine XB.bk ?_
 refine XB.next 9 rfl (by kernel_rfl) ?_
 refine kd (eW 0 11) ?_
 refine XB.bt ?_
 refine XB.next 10 rfl (by kernel_rfl) ?_
 refine jP 1 (t := 150) rfl rfl rfl (by kernel_rfl) (by simp [Value.cells, Value.oneCell']) (by simp [Value.cells, cC]) ?_
 dsimp only [List.set, Value.cells, bZ, cC]
 refine XB.bt ?_
 refine XB.done (by kernel_rfl) ?_
 refine XK.rS 0 (Φ := bQ (An, cn) (0 :: IntKind.u32.wrap st :: [])) (hm := bQ.le) rfl (fun p hp => hp) ?_
 refine XK.take 2 3 rfl rfl ?_
 dsimp only [List.set]
 refine XK.weak [1, 2, 3, 4] rfl (by decide) (R' := [⟨w, fun b => b < w.heap.size ∧ ¬ F b⟩]) (by simp) ?_
 refine XK.bF 1 3 rfl rfl ?_
 dsimp only [List.set]
 refine XK.nT (h := hL.h) (s := s) (z := { z with h0 := 2, w0 := 0 :: IntKind.u32.wrap st :: [] }) { L with b0 := (An, cn) } 0 rfl ?_
 dsimp only [List.set]
 refine XK.bF 0 0 rfl rfl ?_
 dsimp only [List.set]
 exact XK.kI (.inr rfl) rfl fun w1 t => ⟨rfl, t.turns hF (by simp) (i := 0) rfl⟩
theorem aFy (f : Nat) (hL : HL) (s : aD) (z : bH) (x : aV) (hH : s.cK) (aX : gZ hL s) (hok : cH s x) (st : Int) (hw : z.w1 = []) (hst : st ≠ 0) (w : World) (F : Nat → Prop) (hp : (cO f hL s z x).sat F w) (hF : ∀ b, F b → b < w.heap.size) :
  Calls Tryz.prog 76 #[.pointer (some ⟨f, 0, none⟩), .int .i64 1, .int .i32 st] w (fun y w' => y = .returned (.tuple #[]) ∧ ∃ F', (cO f hL s (gQ s x z 1 st) x).sat F' w' ∧ bX w w' F F') := by
 have hr : gQ s x z 1 st = { z with h1 := 2, w1 := [0, IntKind.u32.wrap st] } := by simp [gQ, kJ, kB, eS, hw, hst]
 rw [hr]
 refine XK.dY (p := cO f hL s z x) (F := F) (vs := [.pointer (some ⟨f, 0, none⟩), .int .i64 1, .int .i32 st]) Tryz.func76 rfl Tryz.ntmps76 (by simp) hp hF ?_
 refine XK.take 0 0 rfl rfl ?_
 dsimp only [List.set]
 refine XK.oB 0 rfl fun L => ?_
 dsimp only [List.set]
 refine XK.take 0 0 rfl rfl ?_
 dsimp only [List.set, cC]
 refine XK.go ?_
 refine kd (eW 1 13) ?_
 refine XK.go ?_
 refine XK.bF 0 0 rfl rfl ?_
 dsimp only [List.set]
 refine XK.if_ rfl (fun h => absurd h (by simp [hw])) (fun _ => ?_)
 refine XK.go ?_
 refine XK.if_ rfl (fun h => absurd h (by simpa using hst)) (fun _ => ?_)
 refine XK.go ?_
 refine XK.take 0 0 rfl rfl ?_
 dsimp only [List.set]
 refine XK.eJ [7, 8] ?_
 refine XB.mv 0 ?_
 refine XB.mv 1 ?_
 refine XB.mv 2 ?_
 refine XB.mv 3 ?_
 refine XB.mv 4 ?_
 refine XB.q 7 ?_
 refine XB.q 8 ?_
 refine XB.next 5 rfl (by kernel_rfl) ?_
 refine dU (f := 159) (fi := []) (ca := []) (by kernel_rfl) rfl rfl (by decide) (wS (0 :: IntKind.u32.wrap st :: [])) (fun w1 t => Dd 0 st _ rfl none 0 0 [] w1 (⟨rfl, fun h => absurd h (by simp)⟩) rfl (by have := Bw s x z.w1; simp; try omega)) ?_
 rintro _ _ q9 ⟨An, cn, rfl, rfl⟩ _
 dsimp only [List.cons_append, List.nil_append]
 refine XB.bk ?_
 refine XB.next 6 rfl (by kernel_rfl) ?_
 refine dJ (zs := [.int .i64 0, .slice none 0 0]) (L := [(0, 1), (1, 1)]) (aM (by kernel_rfl)) (by kernel_rfl) rfl (by simp [aS, aT, Value.cells]; rfl) (by decide) ?_
 refine XB.bk ?_
 refine XB.next 9 rfl (by kernel_rfl) ?_
 refine kd (eW 1 13) ?_
 refine XB.bt ?_
 refine XB.next 10 rfl (by kernel_rfl) ?_
 refine jP 1 (t := 150) rfl rfl rfl (by kernel_rfl) (by simp [Value.cells, Value.oneCell']) (by simp [Value.cells, cC]) ?_
 dsimp only [List.set, Value.cells, bZ, cC]
 refine XB.bt ?_
 refine XB.done (by kernel_rfl) ?_
 refine XK.rS 0 (Φ := bQ (An, cn) (0 :: IntKind.u32.wrap st :: [])) (hm := bQ.le) rfl (fun p hp => hp) ?_
 refine XK.take 2 4 rfl rfl ?_
 dsimp only [List.set]
 refine XK.weak [1, 2, 3, 4] rfl (by decide) (R' := [⟨w, fun b => b < w.heap.size ∧ ¬ F b⟩]) (by simp) ?_
 refine XK.bF 1 4 rfl rfl ?_
 dsimp only [List.set]
 refine XK.nT (h := hL.h) (s := s) (z := { z with h1 := 2, w1 := 0 :: IntKind.u32.wrap st :: [] }) { L with b1 := (An, cn) } 0 rfl ?_
 dsimp only [List.set]
 refine XK.bF 0 0 rfl rfl ?_
 dsimp only [List.set]
 exact XK.kI (.inr rfl) rfl fun w1 t => ⟨rfl, t.turns hF (by simp) (i := 0) rfl⟩
theorem aF1 (f : Nat) (hL : HL) (s : aD) (z : bH) (x : aV) (hH : s.cK) (aX : gZ hL s) (hok : cH s x) (st : Int) (v : Int) (r : List Int) (hw : z.w0 = v :: r) (hst : st ≠ 0) (w : World) (F : Nat → Prop) (hp : (cO f hL s z x).sat F w) (hF : ∀ b, F b → b < w.heap.size) :
  Calls Tryz.prog 76 #[.pointer (some ⟨f, 0, none⟩), .int .i64 0, .int .i32 st] w (fun y w' => y = .returned (.tuple #[]) ∧ ∃ F', (cO f hL s (gQ s x z 0 st) x).sat F' w' ∧ bX w w' F F') := by
 have hr : gQ s x z 0 st = { z with h0 := 2, w0 := [v, IntKind.u32.wrap st] } := by simp [gQ, kJ, kB, eS, hw, hst]
 rw [hr]
 refine XK.dY (p := cO f hL s z x) (F := F) (vs := [.pointer (some ⟨f, 0, none⟩), .int .i64 0, .int .i32 st]) Tryz.func76 rfl Tryz.ntmps76 (by simp) hp hF ?_
 refine XK.take 0 0 rfl rfl ?_
 dsimp only [List.set]
 refine XK.oB 0 rfl fun L => ?_
 dsimp only [List.set]
 refine XK.aAL 0 rfl hw fun b off hA hrd => ?_
 obtain ⟨a1, a2, a3, a4, x1, x2, x3, y1, y2, y3, ⟨B0, c0⟩, b1⟩ := L
 dsimp only at hA
 subst hA
 refine XK.take 0 0 rfl rfl ?_
 dsimp only [List.set, cC]
 refine XK.go ?_
 refine kd (eW 0 11) ?_
 refine XK.go ?_
 refine XK.bF 0 0 rfl rfl ?_
 dsimp only [List.set]
 refine XK.if_ rfl (fun _ => ?_) (fun h => absurd h (by simp [hw]))
 have hlen : z.w0.length = r.length + 1 := by rw [hw]; rfl
 refine XK.go ?_
 refine kd (dat 0 off) ?_
 refine kd (dS rfl hrd) ?_
 refine XK.go ?_
 refine XK.if_ rfl (fun h => absurd h (by simpa using hst)) (fun _ => ?_)
 refine XK.go ?_
 refine XK.take 0 0 rfl rfl ?_
 dsimp only [List.set]
 refine XK.eJ [7, 8] ?_
 refine XB.mv 0 ?_
 refine XB.mv 1 ?_
 refine XB.mv 2 ?_
 refine XB.mv 3 ?_
 refine XB.mv 4 ?_
 refine XB.q 7 ?_
 refine XB.q 8 ?_
 refine XB.next 5 rfl (by kernel_rfl) ?_
 refine dU (f := 159) (fi := []) (ca := []) (by kernel_rfl) rfl rfl (by decide) (wS (v :: IntKind.u32.wrap st :: [])) (fun w1 t => Dd v st _ rfl none 0 0 [] w1 (⟨rfl, fun h => absurd h (by simp)⟩) rfl (by have := Bw s x z.w0; simp; try omega)) ?_
 rintro _ _ q9 ⟨An, cn, rfl, rfl⟩ _
 dsimp only [List.cons_append, List.nil_append]
 refine XB.bk ?_
 refine XB.next 6 rfl (by kernel_rfl) ?_
 refine dJ (zs := [.int .i64 0, .slice none 0 0]) (L := [(0, 1), (1, 1)]) (aM (by kernel_rfl)) (by kernel_rfl) rfl (by simp [aS, aT, Value.cells]; rfl) (by decide) ?_
 refine XB.bk ?_
 refine XB.next 9 rfl (by kernel_rfl) ?_
 refine kd (eW 0 11) ?_
 refine XB.bt ?_
 refine XB.next 10 rfl (by kernel_rfl) ?_
 refine jP 1 (t := 150) rfl rfl rfl (by kernel_rfl) (by simp [Value.cells, Value.oneCell']) (by simp [Value.cells, cC]) ?_
 dsimp only [List.set, Value.cells, bZ, cC]
 refine XB.bt ?_
 refine XB.done (by kernel_rfl) ?_
 refine XK.rS 0 (Φ := bQ (An, cn) (v :: IntKind.u32.wrap st :: [])) (hm := bQ.le) rfl (fun p hp => hp) ?_
 refine XK.take 2 3 rfl rfl ?_
 dsimp only [List.set]
 refine XK.weak [1, 2, 3, 4] rfl (by decide) (R' := [⟨w, fun b => b < w.heap.size ∧ ¬ F b⟩]) (by simp) ?_
 refine XK.bF 1 3 rfl rfl ?_
 dsimp only [List.set]
 refine XK.nT (h := hL.h) (s := s) (z := { z with h0 := 2, w0 := v :: IntKind.u32.wrap st :: [] }) ⟨a1, a2, a3, a4, x1, x2, x3, y1, y2, y3, (An, cn), b1⟩ 0 rfl ?_
 dsimp only [List.set]
 refine XK.bF 0 0 rfl rfl ?_
 dsimp only [List.set]
 exact XK.kI (.inr rfl) rfl fun w1 t => ⟨rfl, t.turns hF (by simp) (i := 0) rfl⟩
theorem aF0 (f : Nat) (hL : HL) (s : aD) (z : bH) (x : aV) (hH : s.cK) (aX : gZ hL s) (hok : cH s x) (st : Int) (v : Int) (r : List Int) (hw : z.w1 = v :: r) (hst : st ≠ 0) (w : World) (F : Nat → Prop) (hp : (cO f hL s z x).sat F w) (hF : ∀ b, F b → b < w.heap.size) :
  Calls Tryz.prog 76 #[.pointer (some ⟨f, 0, none⟩), .int .i64 1, .int .i32 st] w (fun y w' => y = .returned (.tuple #[]) ∧ ∃ F', (cO f hL s (gQ s x z 1 st) x).sat F' w' ∧ bX w w' F F') := by
 have hr : gQ s x z 1 st = { z with h1 := 2, w1 := [v, IntKind.u32.wrap st] } := by simp [gQ, kJ, kB, eS, hw, hst]
 rw [hr]
 refine XK.dY (p := cO f hL s z x) (F := F) (vs := [.pointer (some ⟨f, 0, none⟩), .int .i64 1, .int .i32 st]) Tryz.func76 rfl Tryz.ntmps76 (by simp) hp hF ?_
 refine XK.take 0 0 rfl rfl ?_
 dsimp only [List.set]
 refine XK.oB 0 rfl fun L => ?_
 dsimp only [List.set]
 refine XK.aAK 0 rfl hw fun b off hA hrd => ?_
 obtain ⟨a1, a2, a3, a4, x1, x2, x3, y1, y2, y3, b0, ⟨B1, c1⟩⟩ := L
 dsimp only at hA
 subst hA
 refine XK.take 0 0 rfl rfl ?_
 dsimp only [List.set, cC]
 refine XK.go ?_
 refine kd (eW 1 13) ?_
 refine XK.go ?_
 refine XK.bF 0 0 rfl rfl ?_
 dsimp only [List.set]
 refine XK.if_ rfl (fun _ => ?_) (fun h => absurd h (by simp [hw]))
 have hlen : z.w1.length = r.length + 1 := by rw [hw]; rfl
 refine XK.go ?_
 refine kd (dat 0 off) ?_
 refine kd (dS rfl hrd) ?_
 refine XK.go ?_
 refine XK.if_ rfl (fun h => absurd h (by simpa using hst)) (fun _ => ?_)
 refine XK.go ?_
 refine XK.take 0 0 rfl rfl ?_
 dsimp only [List.set]
 refine XK.eJ [7, 8] ?_
 refine XB.mv 0 ?_
 refine XB.mv 1 ?_
 refine XB.mv 2 ?_
 refine XB.mv 3 ?_
 refine XB.mv 4 ?_
 refine XB.q 7 ?_
 refine XB.q 8 ?_
 refine XB.next 5 rfl (by kernel_rfl) ?_
 refine dU (f := 159) (fi := []) (ca := []) (by kernel_rfl) rfl rfl (by decide) (wS (v :: IntKind.u32.wrap st :: [])) (fun w1 t => Dd v st _ rfl none 0 0 [] w1 (⟨rfl, fun h => absurd h (by simp)⟩) rfl (by have := Bw s x z.w1; simp; try omega)) ?_
 rintro _ _ q9 ⟨An, cn, rfl, rfl⟩ _
 dsimp only [List.cons_append, List.nil_append]
 refine XB.bk ?_
 refine XB.next 6 rfl (by kernel_rfl) ?_
 refine dJ (zs := [.int .i64 0, .slice none 0 0]) (L := [(0, 1), (1, 1)]) (aM (by kernel_rfl)) (by kernel_rfl) rfl (by simp [aS, aT, Value.cells]; rfl) (by decide) ?_
 refine XB.bk ?_
 refine XB.next 9 rfl (by kernel_rfl) ?_
 refine kd (eW 1 13) ?_
 refine XB.bt ?_
 refine XB.next 10 rfl (by kernel_rfl) ?_
 refine jP 1 (t := 150) rfl rfl rfl (by kernel_rfl) (by simp [Value.cells, Value.oneCell']) (by simp [Value.cells, cC]) ?_
 dsimp only [List.set, Value.cells, bZ, cC]
 refine XB.bt ?_
 refine XB.done (by kernel_rfl) ?_
 refine XK.rS 0 (Φ := bQ (An, cn) (v :: IntKind.u32.wrap st :: [])) (hm := bQ.le) rfl (fun p hp => hp) ?_
 refine XK.take 2 4 rfl rfl ?_
 dsimp only [List.set]
 refine XK.weak [1, 2, 3, 4] rfl (by decide) (R' := [⟨w, fun b => b < w.heap.size ∧ ¬ F b⟩]) (by simp) ?_
 refine XK.bF 1 4 rfl rfl ?_
 dsimp only [List.set]
 refine XK.nT (h := hL.h) (s := s) (z := { z with h1 := 2, w1 := v :: IntKind.u32.wrap st :: [] }) ⟨a1, a2, a3, a4, x1, x2, x3, y1, y2, y3, b0, (An, cn)⟩ 0 rfl ?_
 dsimp only [List.set]
 refine XK.bF 0 0 rfl rfl ?_
 dsimp only [List.set]
 exact XK.kI (.inr rfl) rfl fun w1 t => ⟨rfl, t.turns hF (by simp) (i := 0) rfl⟩
theorem aFx (f : Nat) (hL : HL) (s : aD) (z : bH) (x : aV) (hH : s.cK) (aX : gZ hL s) (hok : cH s x) (v : Int) (r : List Int) (hw : z.w0 = v :: r) (hu : bT v 28 4 = 0) (mC : (bT v 10 8 = 17 ∧ bT v 0 8 = 5) ∨ (bT v 10 8 = 20 ∧ bT v 0 8 = 6) → ∃ i, r = [i] ∧ 0 ≤ i ∧ i < 4294967296) (w : World) (F : Nat → Prop) (hp : (cO f hL s z x).sat F w) (hF : ∀ b, F b → b < w.heap.size) :
  Calls Tryz.prog 76 #[.pointer (some ⟨f, 0, none⟩), .int .i64 0, .int .i32 0] w (fun y w' => y = .returned (.tuple #[]) ∧ ∃ F', (cO f hL s (gQ s x z 0 0) x).sat F' w' ∧ bX w w' F F') := by
 have hr : gQ s x z 0 0 = { z with h0 := 2, w0 := v :: 0 :: iE s x z.w0 } := by simp [gQ, kJ, kB, eS, hw]; rfl
 rw [hr]
 refine XK.dY (p := cO f hL s z x) (F := F) (vs := [.pointer (some ⟨f, 0, none⟩), .int .i64 0, .int .i32 0]) Tryz.func76 rfl Tryz.ntmps76 (by simp) hp hF ?_
 refine XK.take 0 0 rfl rfl ?_
 dsimp only [List.set]
 refine XK.oB 0 rfl fun L => ?_
 dsimp only [List.set]
 refine XK.aAL 0 rfl hw fun b off hA hrd => ?_
 obtain ⟨a1, a2, a3, a4, x1, x2, x3, y1, y2, y3, ⟨B0, c0⟩, b1⟩ := L
 dsimp only at hA
 subst hA
 refine XK.take 0 0 rfl rfl ?_
 dsimp only [List.set, cC]
 refine XK.go ?_
 refine kd (eW 0 11) ?_
 refine XK.go ?_
 refine XK.bF 0 0 rfl rfl ?_
 dsimp only [List.set]
 refine XK.if_ rfl (fun _ => ?_) (fun h => absurd h (by simp [hw]))
 have hlen : z.w0.length = r.length + 1 := by rw [hw]; rfl
 refine XK.go ?_
 refine kd (dat 0 off) ?_
 refine kd (dS rfl hrd) ?_
 refine XK.go ?_
 refine XK.take 1 1 rfl rfl ?_
 dsimp only [List.set]
 refine jX [] (f := 158) (fi := []) (ca := []) (by kernel_rfl) rfl rfl (by decide) (by simp) (fun v w w' => Ie (iE s x z.w0) v w w') (fun w1 t => by
  have hf : pH w1 f hL.h ⟨a1, a2, a3, a4, x1, x2, x3, y1, y2, y3, (some ⟨b, off, none⟩, c0), b1⟩ s z := t.nR 1 rfl
  have hb := hf.b0
  rw [bQ, hw] at hb
  have := aAj f _ s z hL x hH hok.dm _ c0 v r w1 hf (t.iM 0 rfl aX hok) hb hu mC
  rw [← hw] at this
  exact this) ?_
 rintro _ w3 q3 ⟨Am, cm, rfl, cS⟩ Ku _ Zu
 have cS := cS.le Ku
 refine XK.bF 1 1 rfl rfl ?_
 dsimp only [List.set]
 refine XK.go ?_
 refine XK.take 0 0 rfl rfl ?_
 dsimp only [List.set]
 refine XK.eJ [7, 8] ?_
 refine XB.mv 0 ?_
 refine XB.mv 1 ?_
 refine XB.mv 2 ?_
 refine XB.mv 3 ?_
 refine XB.mv 4 ?_
 refine XB.q 7 ?_
 refine XB.q 8 ?_
 refine XB.next 5 rfl (by kernel_rfl) ?_
 refine dU (f := 159) (fi := []) (ca := []) (by kernel_rfl) rfl rfl (by decide) (wS (v :: 0 :: iE s x z.w0)) (fun w1 t => Dd v 0 0 rfl Am (iE s x z.w0).length cm (iE s x z.w0) w1 (cS.le (t.le (by simp))) rfl (by have := Bw s x z.w0; simp; try omega)) ?_
 rintro _ _ q9 ⟨An, cn, rfl, rfl⟩ _
 dsimp only [List.cons_append, List.nil_append]
 refine XB.bk ?_
 refine XB.next 6 rfl (by kernel_rfl) ?_
 refine dJ (zs := [.int .i64 0, .slice none 0 0]) (L := [(0, 1), (1, 1)]) (aM (by kernel_rfl)) (by kernel_rfl) rfl (by simp [aS, aT, Value.cells]; rfl) (by decide) ?_
 refine XB.bk ?_
 refine XB.next 9 rfl (by kernel_rfl) ?_
 refine kd (eW 0 11) ?_
 refine XB.bt ?_
 refine XB.next 10 rfl (by kernel_rfl) ?_
 refine jP 1 (t := 150) rfl rfl rfl (by kernel_rfl) (by simp [Value.cells, Value.oneCell']) (by simp [Value.cells, cC]) ?_
 dsimp only [List.set, Value.cells, bZ, cC]
 refine XB.bt ?_
 refine XB.done (by kernel_rfl) ?_
 refine XK.rS 0 (Φ := bQ (An, cn) (v :: 0 :: iE s x z.w0)) (hm := bQ.le) rfl (fun p hp => hp) ?_
 refine XK.take 2 3 rfl rfl ?_
 dsimp only [List.set]
 refine XK.weak [1, 2, 3, 4] rfl (by decide) (R' := [⟨w, fun b => b < w.heap.size ∧ ¬ F b⟩]) (by simp) ?_
 refine XK.bF 1 3 rfl rfl ?_
 dsimp only [List.set]
 refine XK.nT (h := hL.h) (s := s) (z := { z with h0 := 2, w0 := v :: 0 :: iE s x z.w0 }) ⟨a1, a2, a3, a4, x1, x2, x3, y1, y2, y3, (An, cn), b1⟩ 0 rfl ?_
 dsimp only [List.set]
 refine XK.bF 0 0 rfl rfl ?_
 dsimp only [List.set]
 exact XK.kI (.inr rfl) rfl fun w1 t => ⟨rfl, t.turns hF (by simp) (i := 0) rfl⟩
theorem aFw (f : Nat) (hL : HL) (s : aD) (z : bH) (x : aV) (hH : s.cK) (aX : gZ hL s) (hok : cH s x) (v : Int) (r : List Int) (hw : z.w1 = v :: r) (hu : bT v 28 4 = 0) (mC : (bT v 10 8 = 17 ∧ bT v 0 8 = 5) ∨ (bT v 10 8 = 20 ∧ bT v 0 8 = 6) → ∃ i, r = [i] ∧ 0 ≤ i ∧ i < 4294967296) (w : World) (F : Nat → Prop) (hp : (cO f hL s z x).sat F w) (hF : ∀ b, F b → b < w.heap.size) :
  Calls Tryz.prog 76 #[.pointer (some ⟨f, 0, none⟩), .int .i64 1, .int .i32 0] w (fun y w' => y = .returned (.tuple #[]) ∧ ∃ F', (cO f hL s (gQ s x z 1 0) x).sat F' w' ∧ bX w w' F F') := by
 have hr : gQ s x z 1 0 = { z with h1 := 2, w1 := v :: 0 :: iE s x z.w1 } := by simp [gQ, kJ, kB, eS, hw]; rfl
 rw [hr]
 refine XK.dY (p := cO f hL s z x) (F := F) (vs := [.pointer (some ⟨f, 0, none⟩), .int .i64 1, .int .i32 0]) Tryz.func76 rfl Tryz.ntmps76 (by simp) hp hF ?_
 refine XK.take 0 0 rfl rfl ?_
 dsimp only [List.set]
 refine XK.oB 0 rfl fun L => ?_
 dsimp only [List.set]
 refine XK.aAK 0 rfl hw fun b off hA hrd => ?_
 obtain ⟨a1, a2, a3, a4, x1, x2, x3, y1, y2, y3, b0, ⟨B1, c1⟩⟩ := L
 dsimp only at hA
 subst hA
 refine XK.take 0 0 rfl rfl ?_
 dsimp only [List.set, cC]
 refine XK.go ?_
 refine kd (eW 1 13) ?_
 refine XK.go ?_
 refine XK.bF 0 0 rfl rfl ?_
 dsimp only [List.set]
 refine XK.if_ rfl (fun _ => ?_) (fun h => absurd h (by simp [hw]))
 have hlen : z.w1.length = r.length + 1 := by rw [hw]; rfl
 refine XK.go ?_
 refine kd (dat 0 off) ?_
 refine kd (dS rfl hrd) ?_
 refine XK.go ?_
 refine XK.take 1 1 rfl rfl ?_
 dsimp only [List.set]
 refine jX [] (f := 158) (fi := []) (ca := []) (by kernel_rfl) rfl rfl (by decide) (by simp) (fun v w w' => Ie (iE s x z.w1) v w w') (fun w1 t => by
  have hf : pH w1 f hL.h ⟨a1, a2, a3, a4, x1, x2, x3, y1, y2, y3, b0, (some ⟨b, off, none⟩, c1)⟩ s z := t.nR 1 rfl
  have hb := hf.b1
  rw [bQ, hw] at hb
  have := aAj f _ s z hL x hH hok.dm _ c1 v r w1 hf (t.iM 0 rfl aX hok) hb hu mC
  rw [← hw] at this
  exact this) ?_
 rintro _ w3 q3 ⟨Am, cm, rfl, cS⟩ Ku _ Zu
 have cS := cS.le Ku
 refine XK.bF 1 1 rfl rfl ?_
 dsimp only [List.set]
 refine XK.go ?_
 refine XK.take 0 0 rfl rfl ?_
 dsimp only [List.set]
 refine XK.eJ [7, 8] ?_
 refine XB.mv 0 ?_
 refine XB.mv 1 ?_
 refine XB.mv 2 ?_
 refine XB.mv 3 ?_
 refine XB.mv 4 ?_
 refine XB.q 7 ?_
 refine XB.q 8 ?_
 refine XB.next 5 rfl (by kernel_rfl) ?_
 refine dU (f := 159) (fi := []) (ca := []) (by kernel_rfl) rfl rfl (by decide) (wS (v :: 0 :: iE s x z.w1)) (fun w1 t => Dd v 0 0 rfl Am (iE s x z.w1).length cm (iE s x z.w1) w1 (cS.le (t.le (by simp))) rfl (by have := Bw s x z.w1; simp; try omega)) ?_
 rintro _ _ q9 ⟨An, cn, rfl, rfl⟩ _
 dsimp only [List.cons_append, List.nil_append]
 refine XB.bk ?_
 refine XB.next 6 rfl (by kernel_rfl) ?_
 refine dJ (zs := [.int .i64 0, .slice none 0 0]) (L := [(0, 1), (1, 1)]) (aM (by kernel_rfl)) (by kernel_rfl) rfl (by simp [aS, aT, Value.cells]; rfl) (by decide) ?_
 refine XB.bk ?_
 refine XB.next 9 rfl (by kernel_rfl) ?_
 refine kd (eW 1 13) ?_
 refine XB.bt ?_
 refine XB.next 10 rfl (by kernel_rfl) ?_
 refine jP 1 (t := 150) rfl rfl rfl (by kernel_rfl) (by simp [Value.cells, Value.oneCell']) (by simp [Value.cells, cC]) ?_
 dsimp only [List.set, Value.cells, bZ, cC]
 refine XB.bt ?_
 refine XB.done (by kernel_rfl) ?_
 refine XK.rS 0 (Φ := bQ (An, cn) (v :: 0 :: iE s x z.w1)) (hm := bQ.le) rfl (fun p hp => hp) ?_
 refine XK.take 2 4 rfl rfl ?_
 dsimp only [List.set]
 refine XK.weak [1, 2, 3, 4] rfl (by decide) (R' := [⟨w, fun b => b < w.heap.size ∧ ¬ F b⟩]) (by simp) ?_
 refine XK.bF 1 4 rfl rfl ?_
 dsimp only [List.set]
 refine XK.nT (h := hL.h) (s := s) (z := { z with h1 := 2, w1 := v :: 0 :: iE s x z.w1 }) ⟨a1, a2, a3, a4, x1, x2, x3, y1, y2, y3, b0, (An, cn)⟩ 0 rfl ?_
 dsimp only [List.set]
 refine XK.bF 0 0 rfl rfl ?_
 dsimp only [List.set]
 exact XK.kI (.inr rfl) rfl fun w1 t => ⟨rfl, t.turns hF (by simp) (i := 0) rfl⟩
theorem Se (f : Nat) (hL : HL) (s : aD) (z : bH) (x : aV) (hH : s.cK) (aX : gZ hL s) (hok : cH s x) (a : Nat) (ha : a < 2) (st : Int) (hst : st = 0 → mK (eS z a)) (w : World) (F : Nat → Prop) (hp : (cO f hL s z x).sat F w) (hF : ∀ b, F b → b < w.heap.size) :
  Calls Tryz.prog 76 #[.pointer (some ⟨f, 0, none⟩), .int .i64 (a : Int), .int .i32 st] w (fun y w' => y = .returned (.tuple #[]) ∧ ∃ F', (cO f hL s (gQ s x z a st) x).sat F' w' ∧ bX w w' F F') := by
 obtain rfl | rfl : a = 0 ∨ a = 1 := by omega
 ·by_cases h0 : st = 0
  ·subst h0
   obtain ⟨v, r, hw, hu, mC⟩ := (hst rfl).ne
   exact aFx f hL s z x hH aX hok v r hw hu mC w F hp hF
  ·cases hw : z.w0 with
   | nil => exact aFz f hL s z x hH aX hok st hw h0 w F hp hF
   | cons v r => exact aF1 f hL s z x hH aX hok st v r hw h0 w F hp hF
 ·by_cases h0 : st = 0
  ·subst h0
   obtain ⟨v, r, hw, hu, mC⟩ := (hst rfl).ne
   exact aFw f hL s z x hH aX hok v r hw hu mC w F hp hF
  ·cases hw : z.w1 with
   | nil => exact aFy f hL s z x hH aX hok st hw h0 w F hp hF
   | cons v r => exact aF0 f hL s z x hH aX hok st v r hw h0 w F hp hF
end
section
set_option maxHeartbeats 4000000
set_option maxRecDepth 20000
def tU (z : bH) (a : Nat) : Int := if a = 0 then z.h0 else z.h1
def lH (z : bH) : Option Nat := if tU z (1 - z.last).toNat = 1 then some (1 - z.last).toNat else if tU z z.last.toNat = 1 then some z.last.toNat else none
def jR (s : aD) (x : aV) : List Int := (List.range s.aG.length).map fun i => (fP x.wt i : Int)
theorem aFs (f : Nat) (hL : HL) (s : aD) (z : bH) (x : aV) (hl : z.last = 0 ∨ z.last = 1) (hn : lH z = none) (w : World) (F : Nat → Prop) (hp : (cO f hL s z x).sat F w) (hF : ∀ b, F b → b < w.heap.size) :
  Calls Tryz.prog 74 #[.pointer (some ⟨f, 0, none⟩)] w (fun y w' => y = .returned (.bool false) ∧ ∃ F', (cO f hL s z x).sat F' w' ∧ bX w w' F F') := by
 have hno : z.h0 ≠ 1 ∧ z.h1 ≠ 1 := by
  unfold lH at hn
  rcases hl with h | h <;> rw [h] at hn <;> simp [tU] at hn <;> by_cases p : z.h0 = 1 <;> by_cases q : z.h1 = 1 <;> simp [p, q] at hn ⊢
 refine XK.dY (p := cO f hL s z x) (F := F) (vs := [.pointer (some ⟨f, 0, none⟩)]) Tryz.func74 rfl Tryz.ntmps74 (by simp) hp hF ?_
 refine XK.take 0 0 rfl rfl ?_
 dsimp only [List.set]
 refine XK.Ep 0 rfl fun L => ?_
 dsimp only [List.set, cC]
 rcases hl with hl | hl <;> rw [hl]
 ·refine XK.go ?_
  refine kd (eW 1 13) ?_
  refine XK.go ?_
  refine XK.if_ rfl (fun _ => ?_) (fun h => absurd h (by simp [hno.2]))
  refine XK.go ?_
  refine kd (eW 0 11) ?_
  refine XK.go ?_
  refine XK.if_ rfl (fun _ => ?_) (fun h => absurd h (by simp [hno.1]))
  refine XK.go ?_
  rw [← hl]
  refine XK.nT (h := hL.h) (s := s) (z := z) L 0 rfl ?_
  dsimp only [List.set]
  refine XK.bF 0 0 rfl rfl ?_
  dsimp only [List.set]
  exact XK.aK rfl rfl fun w1 t => ⟨rfl, t.turns hF (by simp) (i := 0) rfl⟩
 ·refine XK.go ?_
  refine kd (eW 0 11) ?_
  refine XK.go ?_
  refine XK.if_ rfl (fun _ => ?_) (fun h => absurd h (by simp [hno.1]))
  refine XK.go ?_
  refine kd (eW 1 13) ?_
  refine XK.go ?_
  refine XK.if_ rfl (fun _ => ?_) (fun h => absurd h (by simp [hno.2]))
  refine XK.go ?_
  rw [← hl]
  refine XK.nT (h := hL.h) (s := s) (z := z) L 0 rfl ?_
  dsimp only [List.set]
  refine XK.bF 0 0 rfl rfl ?_
  dsimp only [List.set]
  exact XK.aK rfl rfl fun w1 t => ⟨rfl, t.turns hF (by simp) (i := 0) rfl⟩
end
section
set_option maxHeartbeats 4000000
set_option maxRecDepth 20000
def Ig (P : Program) (c : Code) (Q : Exit → Act → World → Prop) : Nat → Act → World → Prop
 | 0 => fun _ _ => False
 | n + 1 => c.wp P (Exit.then (Ig P c Q n) Q)
section
variable {P : Program} {N : cJ} {w0 : World} {e : Env} {R : List Piece} {H : List HP} {Q : Exit → Act → World → Prop} {c : Code} {n : Nat}
theorem XK.rounds (n : Nat) (h : XK N w0 (Ig P c Q n) e R H) : XK N w0 ((Code.loop c).wp P Q) e R H := fun a w hr st => by
 refine Nk (Ig P c Q) n (h a w hr st) fun n a w hI => ?_
 cases n with
 | zero => exact absurd hI (fun h => h)
 | succ n =>
  refine wp_mono hI fun x a' w' hq => ?_
  cases x with
  | normal => exact ⟨n, Nat.lt_succ_self n, hq⟩
  | _ => exact hq
theorem XK.Cx {y : Code} {x : Code} (M : Env → List Piece → List HP → Prop) (h : XK N w0 (x.wp P (Exit.then (fun a' w' => ∃ e' R' H', M e' R' H' ∧ cW N e' a' ∧ St w0 R' H' w') Q)) e R H)
  (hy : ∀ e' R' H', M e' R' H' → XK N w0 (y.wp P Q) e' R' H') : XK N w0 (x.wp P (Exit.then (y.wp P Q) Q)) e R H := fun a w hr st =>
 wp_mono (h a w hr st) fun x a' w' hq => by
  cases x with
  | normal =>
   obtain ⟨e', R', H', hm, hr', st'⟩ := hq
   exact hy e' R' H' hm a' w' hr' st'
  | _ => exact hq
theorem XK.Bn (h : XK N w0 (c.wp P (Exit.then (Ig P c Q n) Q)) e R H) : XK N w0 (Ig P c Q (n + 1)) e R H := h
end
theorem aAy (x y : bR) (ag : Nat) (k id : Int) : (cG x ag k id).d.length = x.d.length ∧ (cG x ag k id).c.length = x.c.length ∧ (cG x ag k id).l.length = x.l.length ∧ (cF y ag k id).d.length = y.d.length ∧ (cF y ag k id).c.length = y.c.length ∧ (cF y ag k id).l.length = y.l.length := by
 have h : ∀ z : bR, (dL z k id).d.length = z.d.length ∧ (dL z k id).c.length = z.c.length ∧ (dL z k id).l.length = z.l.length := fun z => by
  unfold dL
  split
  ·exact ⟨xB _ _ _, rfl, rfl⟩
  ·split
   ·exact ⟨rfl, xB _ _ _, rfl⟩
   ·split
    ·exact ⟨rfl, rfl, xB _ _ _⟩
    ·exact ⟨rfl, rfl, rfl⟩
 unfold cG cF
 split
 ·exact ⟨(h x).1, (h x).2.1, (h x).2.2, rfl, rfl, rfl⟩
 ·exact ⟨rfl, rfl, rfl, (h y).1, (h y).2.1, (h y).2.2⟩
theorem aFU (qx : Piece) (X1 X2 X3 Y1 Y2 Y3 : Option Addr) (pQ pP pO pK pJ pI : Nat) (x y : bR) (ag : Nat) (k id : Int) (w : World) (Fq : qx.Le (all w)) (hag : ag < 2) (zX : x.sm) (hby : y.sm) (s0 : aI qx 1 X1 x.d.length (bU x.d)) (s1 : aI qx 1 X2 x.c.length (bU x.c)) (s2 : aI qx 1 X3 x.l.length (bU x.l)) (s3 : aI qx 1 Y1 y.d.length (bU y.d)) (s4 : aI qx 1 Y2 y.c.length (bU y.c)) (s5 : aI qx 1 Y3 y.l.length (bU y.l)) :
  Calls Tryz.prog 151 #[.agg #[.slice X1 x.d.length pQ, .slice X2 x.c.length pP, .slice X3 x.l.length pO, .slice Y1 y.d.length pK, .slice Y2 y.c.length pJ, .slice Y3 y.l.length pI], .int .i64 (ag : Int), .agg #[.int .u8 k, .int .i64 id]] w (Ms (fun v w w' => iN (fresh w w') (cG x ag k id) (cF y ag k id) v) w) := by
 obtain ⟨h0, h1, h2⟩ := zX
 obtain ⟨h3, h4, h5⟩ := hby
 refine XK.enter (vs := [.agg #[.slice X1 x.d.length pQ, .slice X2 x.c.length pP, .slice X3 x.l.length pO, .slice Y1 y.d.length pK, .slice Y2 y.c.length pJ, .slice Y3 y.l.length pI], .int .i64 (ag : Int), .agg #[.int .u8 k, .int .i64 id]]) Tryz.func151 rfl Tryz.ntmps151 (by simp) ?_
 refine XK.piece qx (by simp) Fq ?_
 refine XK.go ?_
 refine bY rfl (by decide) fun g1 => ?_
 refine bY rfl (by decide) fun g2 => ?_
 dsimp only [Value.cells]
 refine cD (cs := [.slice none 0 0, .slice none 0 0, .slice none 0 0, .slice none 0 0, .slice none 0 0, .slice none 0 0]) (aM (by kernel_rfl)) (by decide) fun g3 => ?_
 refine XK.go ?_
 refine cD (cs := [.slice none 0 0, .slice none 0 0, .slice none 0 0, .slice none 0 0, .slice none 0 0, .slice none 0 0]) (aM (by kernel_rfl)) (by decide) fun g4 => ?_
 refine XK.go ?_
 refine XK.rounds 3 ?_
 refine XK.Bn ?_
 refine XK.go ?_
 refine Io 0 (len := 2) (n := 3) (by kernel_rfl) rfl rfl rfl (by decide) rfl (by decide) ?_
 refine cD (cs := [.slice none 0 0, .slice none 0 0, .slice none 0 0]) (aM (by kernel_rfl)) (by decide) fun g5 => ?_
 refine XK.go ?_
 refine XK.eJ [1, 2, 4, 5, 7, 8, 11] ?_
 refine XB.mv 0 ?_
 refine XB.q 1 ?_
 refine XB.q 2 ?_
 refine XB.q 4 ?_
 refine XB.q 5 ?_
 refine XB.q 7 ?_
 refine XB.q 8 ?_
 refine XB.q 11 ?_
 refine XB.next 3 rfl (by kernel_rfl) ?_
 refine dU (f := 100) (fi := []) (ca := []) (by kernel_rfl) rfl rfl (by decide) (rO x.d.length (bU x.d)) (fun w1 st => sM _ _ _ _ w1 (s0.le (st.le (by simp))) (sO _) (by have := h0; omega)) ?_
 rintro _ _ q0 ⟨B0, c0, rfl, rfl⟩ _
 dsimp only [List.cons_append, List.nil_append]
 refine XB.bk ?_ (hS := fun _ h => h.aP.tail)
 refine XB.next 6 rfl (by kernel_rfl) ?_
 refine dU (f := 100) (fi := []) (ca := []) (by kernel_rfl) rfl rfl (by decide) (rO x.c.length (bU x.c)) (fun w1 st => sM _ _ _ _ w1 (s1.le (st.le (by simp))) (sO _) (by have := h1; omega)) ?_
 rintro _ _ q1 ⟨B1, c1, rfl, rfl⟩ _
 dsimp only [List.cons_append, List.nil_append]
 refine XB.bk ?_ (hS := fun _ h => h.aP.aP.tail.tail)
 refine XB.next 9 rfl (by kernel_rfl) ?_
 refine dU (f := 100) (fi := []) (ca := []) (by kernel_rfl) rfl rfl (by decide) (rO x.l.length (bU x.l)) (fun w1 st => sM _ _ _ _ w1 (s2.le (st.le (by simp))) (sO _) (by have := h2; omega)) ?_
 rintro _ _ q2 ⟨B2, c2, rfl, rfl⟩ _
 dsimp only [List.cons_append, List.nil_append]
 refine XB.bk ?_ (hS := fun _ h => h.aP.aP.aP.tail.tail.tail)
 refine XB.next 10 rfl (by kernel_rfl) ?_
 refine dJ (zs := [.slice none 0 0, .slice none 0 0, .slice none 0 0]) (L := [(0, 1), (1, 1), (2, 1)]) (aM (by kernel_rfl)) (by kernel_rfl) rfl (by simp [aS, aT, Value.cells]; rfl) (by decide) ?_
 refine XB.bk ?_ (hS := fun _ h => h.aP.aP.aP.tail.tail.tail)
 refine XB.next 12 rfl (by kernel_rfl) ?_
 refine kd (eW (sz := 3) 0 0) ?_
 refine XB.bt ?_
 refine XB.next 13 rfl (by kernel_rfl) ?_
 refine eA rfl rfl ?_; simp only [bZ, Value.cells, List.set, List.take, List.drop, List.nil_append, List.append_nil, List.length_cons, List.length_nil, List.cons_append, Nat.reduceAdd]
 refine XB.bt ?_
 refine XB.done (by kernel_rfl) ?_
 refine XK.go ?_
 refine XK.weak [2, 1, 0, 4, 5, 6, 7] rfl (by decide) (R' := [qx, all w]) (by simp) ?_
 refine XK.Bn ?_
 refine XK.go ?_
 refine Io 1 (len := 2) (n := 3) (by kernel_rfl) rfl rfl rfl (by decide) rfl (by decide) ?_
 refine cD (cs := [.slice none 0 0, .slice none 0 0, .slice none 0 0]) (aM (by kernel_rfl)) (by decide) fun g6 => ?_
 refine XK.go ?_
 refine XK.eJ [1, 2, 4, 5, 7, 8, 11] ?_
 refine XB.mv 0 ?_
 refine XB.q 1 ?_
 refine XB.q 2 ?_
 refine XB.q 4 ?_
 refine XB.q 5 ?_
 refine XB.q 7 ?_
 refine XB.q 8 ?_
 refine XB.q 11 ?_
 refine XB.next 3 rfl (by kernel_rfl) ?_
 refine dU (f := 100) (fi := []) (ca := []) (by kernel_rfl) rfl rfl (by decide) (rO y.d.length (bU y.d)) (fun w1 st => sM _ _ _ _ w1 (s3.le (st.le (by simp))) (sO _) (by have := h3; omega)) ?_
 rintro _ _ q3 ⟨B3, c3, rfl, rfl⟩ _
 dsimp only [List.cons_append, List.nil_append]
 refine XB.bk ?_ (hS := fun _ h => h.aP.tail)
 refine XB.next 6 rfl (by kernel_rfl) ?_
 refine dU (f := 100) (fi := []) (ca := []) (by kernel_rfl) rfl rfl (by decide) (rO y.c.length (bU y.c)) (fun w1 st => sM _ _ _ _ w1 (s4.le (st.le (by simp))) (sO _) (by have := h4; omega)) ?_
 rintro _ _ q4 ⟨B4, c4, rfl, rfl⟩ _
 dsimp only [List.cons_append, List.nil_append]
 refine XB.bk ?_ (hS := fun _ h => h.aP.aP.tail.tail)
 refine XB.next 9 rfl (by kernel_rfl) ?_
 refine dU (f := 100) (fi := []) (ca := []) (by kernel_rfl) rfl rfl (by decide) (rO y.l.length (bU y.l)) (fun w1 st => sM _ _ _ _ w1 (s5.le (st.le (by simp))) (sO _) (by have := h5; omega)) ?_
 rintro _ _ q5 ⟨B5, c5, rfl, rfl⟩ _
 dsimp only [List.cons_append, List.nil_append]
 refine XB.bk ?_ (hS := fun _ h => h.aP.aP.aP.tail.tail.tail)
 refine XB.next 10 rfl (by kernel_rfl) ?_
 refine dJ (zs := [.slice none 0 0, .slice none 0 0, .slice none 0 0]) (L := [(0, 1), (1, 1), (2, 1)]) (aM (by kernel_rfl)) (by kernel_rfl) rfl (by simp [aS, aT, Value.cells]; rfl) (by decide) ?_
 refine XB.bk ?_ (hS := fun _ h => h.aP.aP.aP.tail.tail.tail)
 refine XB.next 12 rfl (by kernel_rfl) ?_
 refine kd (eW (sz := 3) 1 3) ?_
 refine XB.bt ?_
 refine XB.next 13 rfl (by kernel_rfl) ?_
 refine eA rfl rfl ?_; simp only [bZ, Value.cells, List.set, List.take, List.drop, List.nil_append, List.append_nil, List.length_cons, List.length_nil, List.cons_append, Nat.reduceAdd]
 refine XB.bt ?_
 refine XB.done (by kernel_rfl) ?_
 refine XK.go ?_
 refine XK.weak [4, 5, 6, 2, 1, 0, 9, 7, 8] rfl (by decide) (R' := [qx, all w]) (by simp) ?_
 refine XK.Bn ?_
 refine XK.go ?_
 refine bO (t := 33) rfl (fun h => absurd h (by omega)) (fun _ => ?_)
 refine XK.go ?_
 refine XK.if_ rfl (fun h => absurd h (by omega)) (fun _ => ?_)
 refine XK.go ?_
 obtain rfl | rfl : ag = 0 ∨ ag = 1 := by omega
 ·refine XK.eJ [1, 2, 3, 4] ?_
  refine XB.mv 0 ?_
  refine XB.q 1 ?_
  refine XB.q 2 ?_ (eD := eW (sz := 3) 0 0)
  refine XB.q 3 ?_
  refine XB.q 4 ?_
  refine XB.next 5 rfl (by kernel_rfl) ?_
  refine bB (fun w1 t => Pk g4 0 k (.slice B0 x.d.length c0) (.slice B1 x.c.length c1) (.slice B2 x.l.length c2) w1 (by simpa using (t.box (i := 7) rfl).at_ (j := 0) rfl) (by simpa using (t.box (i := 7) rfl).at_ (j := 1) rfl) (by simpa using (t.box (i := 7) rfl).at_ (j := 2) rfl)) ?_
  refine XB.bt ?_
  refine XB.next 6 rfl (by kernel_rfl) ?_
  refine bI ?_
  refine XB.bt ?_
  refine XB.done (by kernel_rfl) ?_
  refine XK.norm ?_
  refine XK.weak [0, 1, 2, 3, 4, 5, 6, 7, 8] rfl (by decide) (fun _ h => h) ?_
  refine XK.aL [(10, dH k (.slice B0 x.d.length c0) (.slice B1 x.c.length c1) (.slice B2 x.l.length c2)), (7, .pointer (some ⟨g4, 0, none⟩)), (6, .pointer (some ⟨g3, 0, none⟩)), (5, .pointer (some ⟨g2, 0, none⟩))] ?_
  refine XK.Cx (fun e R H => e = [(7, .pointer (some ⟨g4, 0, none⟩)), (6, .pointer (some ⟨g3, 0, none⟩))] ∧ R = [qx, all w] ∧ ∃ x2 y2 : bR, x2 = cG x 0 k id ∧ y2 = cF y 0 k id ∧ H = [HP.own 4 1 (.slice B0 x.d.length c0) x.d.length (bU x2.d), HP.own 4 1 (.slice B1 x.c.length c1) x.c.length (bU x2.c), HP.own 4 1 (.slice B2 x.l.length c2) x.l.length (bU x2.l), HP.own 4 1 (.slice B3 y.d.length c3) y.d.length (bU y2.d), HP.own 4 1 (.slice B4 y.c.length c4) y.c.length (bU y2.c), HP.own 4 1 (.slice B5 y.l.length c5) y.l.length (bU y2.l), HP.aE g2 63 [.int .u8 k, .int .i64 id], HP.aE g4 71 [.slice B0 x.d.length c0, .slice B1 x.c.length c1, .slice B2 x.l.length c2, .slice B3 y.d.length c3, .slice B4 y.c.length c4, .slice B5 y.l.length c5], HP.aE g3 71 [.slice none 0 0, .slice none 0 0, .slice none 0 0, .slice none 0 0, .slice none 0 0, .slice none 0 0]]) ?_ ?_
  ·by_cases k0 : k = 117 ∨ k = 100 ∨ k = 107
   ·rw [show dH k (.slice B0 x.d.length c0) (.slice B1 x.c.length c1) (.slice B2 x.l.length c2) = .slice B0 x.d.length c0 by rw [dH, if_pos k0]]
    refine XK.go ?_
    refine bO (t := 47) rfl (fun hid => ?_) (fun hid => ?_)
    ·refine XK.go ?_
     refine XK.if_ rfl (fun jC => ?_) (fun jC => ?_)
     ·have hin : 0 ≤ id ∧ id < (x.d.length : Int) := ⟨hid, jC⟩
      have e1 : cG x 0 k id = ⟨eT x.d id (decide (fJ k)), x.c, x.l⟩ := by simp [cG, dL, k0]
      have e2 : cF y 0 k id = y := by simp [cF, dL, k0]
      refine XK.Bs 0 rfl (by omega) ?_
      rintro ⟨gb, rfl⟩
      refine XK.uP 0 rfl fun cs fD hct hnc tS => ?_
      dsimp only [List.set]
      have tQ : cs.take x.d.length = bU x.d := by simpa using hct
      have zU : cs.length = c0 := by simpa using fD
      refine XK.eJ [1, 2, 3, 4] ?_
      refine XB.mv 0 ?_
      refine XB.q 1 ?_
      refine XB.q 2 ?_
      refine XB.q 3 ?_
      refine XB.q 4 ?_
      refine XB.next 5 rfl (by kernel_rfl) ?_
      refine bB (fun w1 t => xH k w1) ?_
      refine XB.bk ?_
      refine XB.next 6 rfl (by kernel_rfl) ?_
      refine kd (dat id.toNat id.toNat) ?_
      refine XB.bt ?_
      refine XB.next 7 rfl (by kernel_rfl) ?_
      refine gR rfl rfl ?_
      dsimp only [List.set]
      refine XB.bt ?_
      refine XB.done (by kernel_rfl) ?_
      refine XK.go ?_
      refine XK.vE 0 (n := x.d.length) (c := c0) (sz := 1) (xs := bU (eT x.d id (decide (fJ k)))) rfl (by simpa using fD) (by rw [Nat.mul_one, ← Dc _ hin, ← tQ, List.take_set]) hnc tS ?_
      dsimp only [List.set]
      exact XK.weak [0, 1, 2, 3, 4, 5, 6, 7, 8] rfl (by decide) (fun _ h => h) (XK.aL [(7, .pointer (some ⟨g4, 0, none⟩)), (6, .pointer (some ⟨g3, 0, none⟩))] (XK.meet ⟨rfl, rfl, ⟨eT x.d id (decide (fJ k)), x.c, x.l⟩, y, e1.symm, e2.symm, rfl⟩))
     ·have hin : ¬ (0 ≤ id ∧ id < (x.d.length : Int)) := fun h => jC h.2
      have e1 : cG x 0 k id = x := by simp [cG, dL, k0, jH _ hin]
      have e2 : cF y 0 k id = y := by simp [cF, dL, k0, jH _ hin]
      refine XK.go ?_
      exact XK.weak [0, 1, 2, 3, 4, 5, 6, 7, 8] rfl (by decide) (fun _ h => h) (XK.aL [(7, .pointer (some ⟨g4, 0, none⟩)), (6, .pointer (some ⟨g3, 0, none⟩))] (XK.meet ⟨rfl, rfl, x, y, e1.symm, e2.symm, rfl⟩))
    ·have hin : ¬ (0 ≤ id ∧ id < (x.d.length : Int)) := fun h => hid h.1
     have e1 : cG x 0 k id = x := by simp [cG, dL, k0, jH _ hin]
     have e2 : cF y 0 k id = y := by simp [cF, dL, k0, jH _ hin]
     refine XK.go ?_
     exact XK.weak [0, 1, 2, 3, 4, 5, 6, 7, 8] rfl (by decide) (fun _ h => h) (XK.aL [(7, .pointer (some ⟨g4, 0, none⟩)), (6, .pointer (some ⟨g3, 0, none⟩))] (XK.meet ⟨rfl, rfl, x, y, e1.symm, e2.symm, rfl⟩))
   by_cases k1 : k = 99 ∨ k = 111
   ·rw [show dH k (.slice B0 x.d.length c0) (.slice B1 x.c.length c1) (.slice B2 x.l.length c2) = .slice B1 x.c.length c1 by rw [dH, if_neg k0, if_pos k1]]
    refine XK.go ?_
    refine bO (t := 47) rfl (fun hid => ?_) (fun hid => ?_)
    ·refine XK.go ?_
     refine XK.if_ rfl (fun jC => ?_) (fun jC => ?_)
     ·have hin : 0 ≤ id ∧ id < (x.c.length : Int) := ⟨hid, jC⟩
      have e1 : cG x 0 k id = ⟨x.d, eT x.c id (decide (fJ k)), x.l⟩ := by simp [cG, dL, k0, k1]
      have e2 : cF y 0 k id = y := by simp [cF, dL, k0, k1]
      refine XK.Bs 1 rfl (by omega) ?_
      rintro ⟨gb, rfl⟩
      refine XK.uP 1 rfl fun cs fD hct hnc tS => ?_
      dsimp only [List.set]
      have tQ : cs.take x.c.length = bU x.c := by simpa using hct
      have zU : cs.length = c1 := by simpa using fD
      refine XK.eJ [1, 2, 3, 4] ?_
      refine XB.mv 0 ?_
      refine XB.q 1 ?_
      refine XB.q 2 ?_
      refine XB.q 3 ?_
      refine XB.q 4 ?_
      refine XB.next 5 rfl (by kernel_rfl) ?_
      refine bB (fun w1 t => xH k w1) ?_
      refine XB.bk ?_
      refine XB.next 6 rfl (by kernel_rfl) ?_
      refine kd (dat id.toNat id.toNat) ?_
      refine XB.bt ?_
      refine XB.next 7 rfl (by kernel_rfl) ?_
      refine gR rfl rfl ?_
      dsimp only [List.set]
      refine XB.bt ?_
      refine XB.done (by kernel_rfl) ?_
      refine XK.go ?_
      refine XK.vE 1 (n := x.c.length) (c := c1) (sz := 1) (xs := bU (eT x.c id (decide (fJ k)))) rfl (by simpa using fD) (by rw [Nat.mul_one, ← Dc _ hin, ← tQ, List.take_set]) hnc tS ?_
      dsimp only [List.set]
      exact XK.weak [0, 1, 2, 3, 4, 5, 6, 7, 8] rfl (by decide) (fun _ h => h) (XK.aL [(7, .pointer (some ⟨g4, 0, none⟩)), (6, .pointer (some ⟨g3, 0, none⟩))] (XK.meet ⟨rfl, rfl, ⟨x.d, eT x.c id (decide (fJ k)), x.l⟩, y, e1.symm, e2.symm, rfl⟩))
     ·have hin : ¬ (0 ≤ id ∧ id < (x.c.length : Int)) := fun h => jC h.2
      have e1 : cG x 0 k id = x := by simp [cG, dL, k0, k1, jH _ hin]
      have e2 : cF y 0 k id = y := by simp [cF, dL, k0, k1, jH _ hin]
      refine XK.go ?_
      exact XK.weak [0, 1, 2, 3, 4, 5, 6, 7, 8] rfl (by decide) (fun _ h => h) (XK.aL [(7, .pointer (some ⟨g4, 0, none⟩)), (6, .pointer (some ⟨g3, 0, none⟩))] (XK.meet ⟨rfl, rfl, x, y, e1.symm, e2.symm, rfl⟩))
    ·have hin : ¬ (0 ≤ id ∧ id < (x.c.length : Int)) := fun h => hid h.1
     have e1 : cG x 0 k id = x := by simp [cG, dL, k0, k1, jH _ hin]
     have e2 : cF y 0 k id = y := by simp [cF, dL, k0, k1, jH _ hin]
     refine XK.go ?_
     exact XK.weak [0, 1, 2, 3, 4, 5, 6, 7, 8] rfl (by decide) (fun _ h => h) (XK.aL [(7, .pointer (some ⟨g4, 0, none⟩)), (6, .pointer (some ⟨g3, 0, none⟩))] (XK.meet ⟨rfl, rfl, x, y, e1.symm, e2.symm, rfl⟩))
   by_cases k2 : k = 114 ∨ k = 97
   ·rw [show dH k (.slice B0 x.d.length c0) (.slice B1 x.c.length c1) (.slice B2 x.l.length c2) = .slice B2 x.l.length c2 by rw [dH, if_neg k0, if_neg k1, if_pos k2]]
    refine XK.go ?_
    refine bO (t := 47) rfl (fun hid => ?_) (fun hid => ?_)
    ·refine XK.go ?_
     refine XK.if_ rfl (fun jC => ?_) (fun jC => ?_)
     ·have hin : 0 ≤ id ∧ id < (x.l.length : Int) := ⟨hid, jC⟩
      have e1 : cG x 0 k id = ⟨x.d, x.c, eT x.l id (decide (fJ k))⟩ := by simp [cG, dL, k0, k1, k2]
      have e2 : cF y 0 k id = y := by simp [cF, dL, k0, k1, k2]
      refine XK.Bs 2 rfl (by omega) ?_
      rintro ⟨gb, rfl⟩
      refine XK.uP 2 rfl fun cs fD hct hnc tS => ?_
      dsimp only [List.set]
      have tQ : cs.take x.l.length = bU x.l := by simpa using hct
      have zU : cs.length = c2 := by simpa using fD
      refine XK.eJ [1, 2, 3, 4] ?_
      refine XB.mv 0 ?_
      refine XB.q 1 ?_
      refine XB.q 2 ?_
      refine XB.q 3 ?_
      refine XB.q 4 ?_
      refine XB.next 5 rfl (by kernel_rfl) ?_
      refine bB (fun w1 t => xH k w1) ?_
      refine XB.bk ?_
      refine XB.next 6 rfl (by kernel_rfl) ?_
      refine kd (dat id.toNat id.toNat) ?_
      refine XB.bt ?_
      refine XB.next 7 rfl (by kernel_rfl) ?_
      refine gR rfl rfl ?_
      dsimp only [List.set]
      refine XB.bt ?_
      refine XB.done (by kernel_rfl) ?_
      refine XK.go ?_
      refine XK.vE 2 (n := x.l.length) (c := c2) (sz := 1) (xs := bU (eT x.l id (decide (fJ k)))) rfl (by simpa using fD) (by rw [Nat.mul_one, ← Dc _ hin, ← tQ, List.take_set]) hnc tS ?_
      dsimp only [List.set]
      exact XK.weak [0, 1, 2, 3, 4, 5, 6, 7, 8] rfl (by decide) (fun _ h => h) (XK.aL [(7, .pointer (some ⟨g4, 0, none⟩)), (6, .pointer (some ⟨g3, 0, none⟩))] (XK.meet ⟨rfl, rfl, ⟨x.d, x.c, eT x.l id (decide (fJ k))⟩, y, e1.symm, e2.symm, rfl⟩))
     ·have hin : ¬ (0 ≤ id ∧ id < (x.l.length : Int)) := fun h => jC h.2
      have e1 : cG x 0 k id = x := by simp [cG, dL, k0, k1, k2, jH _ hin]
      have e2 : cF y 0 k id = y := by simp [cF, dL, k0, k1, k2, jH _ hin]
      refine XK.go ?_
      exact XK.weak [0, 1, 2, 3, 4, 5, 6, 7, 8] rfl (by decide) (fun _ h => h) (XK.aL [(7, .pointer (some ⟨g4, 0, none⟩)), (6, .pointer (some ⟨g3, 0, none⟩))] (XK.meet ⟨rfl, rfl, x, y, e1.symm, e2.symm, rfl⟩))
    ·have hin : ¬ (0 ≤ id ∧ id < (x.l.length : Int)) := fun h => hid h.1
     have e1 : cG x 0 k id = x := by simp [cG, dL, k0, k1, k2, jH _ hin]
     have e2 : cF y 0 k id = y := by simp [cF, dL, k0, k1, k2, jH _ hin]
     refine XK.go ?_
     exact XK.weak [0, 1, 2, 3, 4, 5, 6, 7, 8] rfl (by decide) (fun _ h => h) (XK.aL [(7, .pointer (some ⟨g4, 0, none⟩)), (6, .pointer (some ⟨g3, 0, none⟩))] (XK.meet ⟨rfl, rfl, x, y, e1.symm, e2.symm, rfl⟩))
   rw [show dH k (.slice B0 x.d.length c0) (.slice B1 x.c.length c1) (.slice B2 x.l.length c2) = .slice none 0 0 by rw [dH, if_neg k0, if_neg k1, if_neg k2]]
   have e1 : cG x 0 k id = x := by simp [cG, dL, k0, k1, k2]
   have e2 : cF y 0 k id = y := by simp [cF, dL, k0, k1, k2]
   refine XK.go ?_
   refine bO (t := 47) rfl (fun hid => ?_) (fun hid => ?_)
   ·refine XK.go ?_
    refine XK.if_ rfl (fun h => absurd h (by omega)) (fun _ => ?_)
    refine XK.go ?_
    exact XK.weak [0, 1, 2, 3, 4, 5, 6, 7, 8] rfl (by decide) (fun _ h => h) (XK.aL [(7, .pointer (some ⟨g4, 0, none⟩)), (6, .pointer (some ⟨g3, 0, none⟩))] (XK.meet ⟨rfl, rfl, x, y, e1.symm, e2.symm, rfl⟩))
   ·refine XK.go ?_
    exact XK.weak [0, 1, 2, 3, 4, 5, 6, 7, 8] rfl (by decide) (fun _ h => h) (XK.aL [(7, .pointer (some ⟨g4, 0, none⟩)), (6, .pointer (some ⟨g3, 0, none⟩))] (XK.meet ⟨rfl, rfl, x, y, e1.symm, e2.symm, rfl⟩))
  ·rintro _ _ _ ⟨rfl, rfl, x2, y2, xL, xK, rfl⟩
   refine XK.weak [7, 8, 0, 1, 2, 3, 4, 5] rfl (by decide) (fun _ h => h) ?_
   refine XK.go ?_
   refine XK.still [] [2, 3, 4, 5, 6, 7] [0, 1] (by simp) rfl (by decide) (by decide) fun q hq _ hfr => ?_
   obtain ⟨F0, Ei, Du⟩ := hq 2 _ (by simp) rfl
   have hs0 := aI.own (q := q) ⟨F0, Ei, Du⟩
   obtain ⟨F1, Eh, Dt⟩ := hq 3 _ (by simp) rfl
   have hs1 := aI.own (q := q) ⟨F1, Eh, Dt⟩
   obtain ⟨F2, kH, kE⟩ := hq 4 _ (by simp) rfl
   have eV := aI.own (q := q) ⟨F2, kH, kE⟩
   obtain ⟨F3, Eg, Ds⟩ := hq 5 _ (by simp) rfl
   have kL := aI.own (q := q) ⟨F3, Eg, Ds⟩
   obtain ⟨F4, Ef, Dr⟩ := hq 6 _ (by simp) rfl
   have lK := aI.own (q := q) ⟨F4, Ef, Dr⟩
   obtain ⟨F5, Ee, Dq⟩ := hq 7 _ (by simp) rfl
   have kU := aI.own (q := q) ⟨F5, Ee, Dq⟩
   refine XK.Bo rfl (n := 6) (vs := [.slice B0 x.d.length c0, .slice B1 x.c.length c1, .slice B2 x.l.length c2, .slice B3 y.d.length c3, .slice B4 y.c.length c4, .slice B5 y.l.length c5]) (by kernel_rfl) rfl rfl (aC.whole 1 rfl) fun w1 st => ⟨⟨_, rfl, ?_⟩, st.below (by simp)⟩
   have hle := st.kX (by simp) (hfr (by simp) (by simp))
   have l1 : x2.d.length = x.d.length ∧ x2.c.length = x.c.length ∧ x2.l.length = x.l.length ∧ y2.d.length = y.d.length ∧ y2.c.length = y.c.length ∧ y2.l.length = y.l.length := by
    rw [xL, xK]
    exact aAy x y _ k id
   rw [← xL, ← xK]
   obtain ⟨l1, l2, l3, l4, l5, l6⟩ := l1
   refine ⟨B0, c0, B1, c1, B2, c2, B3, c3, B4, c4, B5, c5, ?_, ?_, ?_, ?_, ?_, ?_, ?_⟩
   ·rw [l1, l2, l3, l4, l5, l6]
   ·rw [l1]; exact hs0.le hle
   ·rw [l2]; exact hs1.le hle
   ·rw [l3]; exact eV.le hle
   ·rw [l4]; exact kL.le hle
   ·rw [l5]; exact lK.le hle
   ·rw [l6]; exact kU.le hle
 ·refine XK.eJ [1, 2, 3, 4] ?_
  refine XB.mv 0 ?_
  refine XB.q 1 ?_
  refine XB.q 2 ?_ (eD := eW (sz := 3) 1 3)
  refine XB.q 3 ?_
  refine XB.q 4 ?_
  refine XB.next 5 rfl (by kernel_rfl) ?_
  refine bB (fun w1 t => Pk g4 3 k (.slice B3 y.d.length c3) (.slice B4 y.c.length c4) (.slice B5 y.l.length c5) w1 (by simpa using (t.box (i := 7) rfl).at_ (j := 3) rfl) (by simpa using (t.box (i := 7) rfl).at_ (j := 4) rfl) (by simpa using (t.box (i := 7) rfl).at_ (j := 5) rfl)) ?_
  refine XB.bt ?_
  refine XB.next 6 rfl (by kernel_rfl) ?_
  refine bI ?_
  refine XB.bt ?_
  refine XB.done (by kernel_rfl) ?_
  refine XK.norm ?_
  refine XK.weak [0, 1, 2, 3, 4, 5, 6, 7, 8] rfl (by decide) (fun _ h => h) ?_
  refine XK.aL [(10, dH k (.slice B3 y.d.length c3) (.slice B4 y.c.length c4) (.slice B5 y.l.length c5)), (7, .pointer (some ⟨g4, 0, none⟩)), (6, .pointer (some ⟨g3, 0, none⟩)), (5, .pointer (some ⟨g2, 0, none⟩))] ?_
  refine XK.Cx (fun e R H => e = [(7, .pointer (some ⟨g4, 0, none⟩)), (6, .pointer (some ⟨g3, 0, none⟩))] ∧ R = [qx, all w] ∧ ∃ x2 y2 : bR, x2 = cG x 1 k id ∧ y2 = cF y 1 k id ∧ H = [HP.own 4 1 (.slice B0 x.d.length c0) x.d.length (bU x2.d), HP.own 4 1 (.slice B1 x.c.length c1) x.c.length (bU x2.c), HP.own 4 1 (.slice B2 x.l.length c2) x.l.length (bU x2.l), HP.own 4 1 (.slice B3 y.d.length c3) y.d.length (bU y2.d), HP.own 4 1 (.slice B4 y.c.length c4) y.c.length (bU y2.c), HP.own 4 1 (.slice B5 y.l.length c5) y.l.length (bU y2.l), HP.aE g2 63 [.int .u8 k, .int .i64 id], HP.aE g4 71 [.slice B0 x.d.length c0, .slice B1 x.c.length c1, .slice B2 x.l.length c2, .slice B3 y.d.length c3, .slice B4 y.c.length c4, .slice B5 y.l.length c5], HP.aE g3 71 [.slice none 0 0, .slice none 0 0, .slice none 0 0, .slice none 0 0, .slice none 0 0, .slice none 0 0]]) ?_ ?_
  ·by_cases k0 : k = 117 ∨ k = 100 ∨ k = 107
   ·rw [show dH k (.slice B3 y.d.length c3) (.slice B4 y.c.length c4) (.slice B5 y.l.length c5) = .slice B3 y.d.length c3 by rw [dH, if_pos k0]]
    refine XK.go ?_
    refine bO (t := 47) rfl (fun hid => ?_) (fun hid => ?_)
    ·refine XK.go ?_
     refine XK.if_ rfl (fun jC => ?_) (fun jC => ?_)
     ·have hin : 0 ≤ id ∧ id < (y.d.length : Int) := ⟨hid, jC⟩
      have e1 : cG x 1 k id = x := by simp [cG, dL, k0]
      have e2 : cF y 1 k id = ⟨eT y.d id (decide (fJ k)), y.c, y.l⟩ := by simp [cF, dL, k0]
      refine XK.Bs 3 rfl (by omega) ?_
      rintro ⟨gb, rfl⟩
      refine XK.uP 3 rfl fun cs fD hct hnc tS => ?_
      dsimp only [List.set]
      have tQ : cs.take y.d.length = bU y.d := by simpa using hct
      have zU : cs.length = c3 := by simpa using fD
      refine XK.eJ [1, 2, 3, 4] ?_
      refine XB.mv 0 ?_
      refine XB.q 1 ?_
      refine XB.q 2 ?_
      refine XB.q 3 ?_
      refine XB.q 4 ?_
      refine XB.next 5 rfl (by kernel_rfl) ?_
      refine bB (fun w1 t => xH k w1) ?_
      refine XB.bk ?_
      refine XB.next 6 rfl (by kernel_rfl) ?_
      refine kd (dat id.toNat id.toNat) ?_
      refine XB.bt ?_
      refine XB.next 7 rfl (by kernel_rfl) ?_
      refine gR rfl rfl ?_
      dsimp only [List.set]
      refine XB.bt ?_
      refine XB.done (by kernel_rfl) ?_
      refine XK.go ?_
      refine XK.vE 3 (n := y.d.length) (c := c3) (sz := 1) (xs := bU (eT y.d id (decide (fJ k)))) rfl (by simpa using fD) (by rw [Nat.mul_one, ← Dc _ hin, ← tQ, List.take_set]) hnc tS ?_
      dsimp only [List.set]
      exact XK.weak [0, 1, 2, 3, 4, 5, 6, 7, 8] rfl (by decide) (fun _ h => h) (XK.aL [(7, .pointer (some ⟨g4, 0, none⟩)), (6, .pointer (some ⟨g3, 0, none⟩))] (XK.meet ⟨rfl, rfl, x, ⟨eT y.d id (decide (fJ k)), y.c, y.l⟩, e1.symm, e2.symm, rfl⟩))
     ·have hin : ¬ (0 ≤ id ∧ id < (y.d.length : Int)) := fun h => jC h.2
      have e1 : cG x 1 k id = x := by simp [cG, dL, k0, jH _ hin]
      have e2 : cF y 1 k id = y := by simp [cF, dL, k0, jH _ hin]
      refine XK.go ?_
      exact XK.weak [0, 1, 2, 3, 4, 5, 6, 7, 8] rfl (by decide) (fun _ h => h) (XK.aL [(7, .pointer (some ⟨g4, 0, none⟩)), (6, .pointer (some ⟨g3, 0, none⟩))] (XK.meet ⟨rfl, rfl, x, y, e1.symm, e2.symm, rfl⟩))
    ·have hin : ¬ (0 ≤ id ∧ id < (y.d.length : Int)) := fun h => hid h.1
     have e1 : cG x 1 k id = x := by simp [cG, dL, k0, jH _ hin]
     have e2 : cF y 1 k id = y := by simp [cF, dL, k0, jH _ hin]
     refine XK.go ?_
     exact XK.weak [0, 1, 2, 3, 4, 5, 6, 7, 8] rfl (by decide) (fun _ h => h) (XK.aL [(7, .pointer (some ⟨g4, 0, none⟩)), (6, .pointer (some ⟨g3, 0, none⟩))] (XK.meet ⟨rfl, rfl, x, y, e1.symm, e2.symm, rfl⟩))
   by_cases k1 : k = 99 ∨ k = 111
   ·rw [show dH k (.slice B3 y.d.length c3) (.slice B4 y.c.length c4) (.slice B5 y.l.length c5) = .slice B4 y.c.length c4 by rw [dH, if_neg k0, if_pos k1]]
    refine XK.go ?_
    refine bO (t := 47) rfl (fun hid => ?_) (fun hid => ?_)
    ·refine XK.go ?_
     refine XK.if_ rfl (fun jC => ?_) (fun jC => ?_)
     ·have hin : 0 ≤ id ∧ id < (y.c.length : Int) := ⟨hid, jC⟩
      have e1 : cG x 1 k id = x := by simp [cG, dL, k0, k1]
      have e2 : cF y 1 k id = ⟨y.d, eT y.c id (decide (fJ k)), y.l⟩ := by simp [cF, dL, k0, k1]
      refine XK.Bs 4 rfl (by omega) ?_
      rintro ⟨gb, rfl⟩
      refine XK.uP 4 rfl fun cs fD hct hnc tS => ?_
      dsimp only [List.set]
      have tQ : cs.take y.c.length = bU y.c := by simpa using hct
      have zU : cs.length = c4 := by simpa using fD
      refine XK.eJ [1, 2, 3, 4] ?_
      refine XB.mv 0 ?_
      refine XB.q 1 ?_
      refine XB.q 2 ?_
      refine XB.q 3 ?_
      refine XB.q 4 ?_
      refine XB.next 5 rfl (by kernel_rfl) ?_
      refine bB (fun w1 t => xH k w1) ?_
      refine XB.bk ?_
      refine XB.next 6 rfl (by kernel_rfl) ?_
      refine kd (dat id.toNat id.toNat) ?_
      refine XB.bt ?_
      refine XB.next 7 rfl (by kernel_rfl) ?_
      refine gR rfl rfl ?_
      dsimp only [List.set]
      refine XB.bt ?_
      refine XB.done (by kernel_rfl) ?_
      refine XK.go ?_
      refine XK.vE 4 (n := y.c.length) (c := c4) (sz := 1) (xs := bU (eT y.c id (decide (fJ k)))) rfl (by simpa using fD) (by rw [Nat.mul_one, ← Dc _ hin, ← tQ, List.take_set]) hnc tS ?_
      dsimp only [List.set]
      exact XK.weak [0, 1, 2, 3, 4, 5, 6, 7, 8] rfl (by decide) (fun _ h => h) (XK.aL [(7, .pointer (some ⟨g4, 0, none⟩)), (6, .pointer (some ⟨g3, 0, none⟩))] (XK.meet ⟨rfl, rfl, x, ⟨y.d, eT y.c id (decide (fJ k)), y.l⟩, e1.symm, e2.symm, rfl⟩))
     ·have hin : ¬ (0 ≤ id ∧ id < (y.c.length : Int)) := fun h => jC h.2
      have e1 : cG x 1 k id = x := by simp [cG, dL, k0, k1, jH _ hin]
      have e2 : cF y 1 k id = y := by simp [cF, dL, k0, k1, jH _ hin]
      refine XK.go ?_
      exact XK.weak [0, 1, 2, 3, 4, 5, 6, 7, 8] rfl (by decide) (fun _ h => h) (XK.aL [(7, .pointer (some ⟨g4, 0, none⟩)), (6, .pointer (some ⟨g3, 0, none⟩))] (XK.meet ⟨rfl, rfl, x, y, e1.symm, e2.symm, rfl⟩))
    ·have hin : ¬ (0 ≤ id ∧ id < (y.c.length : Int)) := fun h => hid h.1
     have e1 : cG x 1 k id = x := by simp [cG, dL, k0, k1, jH _ hin]
     have e2 : cF y 1 k id = y := by simp [cF, dL, k0, k1, jH _ hin]
     refine XK.go ?_
     exact XK.weak [0, 1, 2, 3, 4, 5, 6, 7, 8] rfl (by decide) (fun _ h => h) (XK.aL [(7, .pointer (some ⟨g4, 0, none⟩)), (6, .pointer (some ⟨g3, 0, none⟩))] (XK.meet ⟨rfl, rfl, x, y, e1.symm, e2.symm, rfl⟩))
   by_cases k2 : k = 114 ∨ k = 97
   ·rw [show dH k (.slice B3 y.d.length c3) (.slice B4 y.c.length c4) (.slice B5 y.l.length c5) = .slice B5 y.l.length c5 by rw [dH, if_neg k0, if_neg k1, if_pos k2]]
    refine XK.go ?_
    refine bO (t := 47) rfl (fun hid => ?_) (fun hid => ?_)
    ·refine XK.go ?_
     refine XK.if_ rfl (fun jC => ?_) (fun jC => ?_)
     ·have hin : 0 ≤ id ∧ id < (y.l.length : Int) := ⟨hid, jC⟩
      have e1 : cG x 1 k id = x := by simp [cG, dL, k0, k1, k2]
      have e2 : cF y 1 k id = ⟨y.d, y.c, eT y.l id (decide (fJ k))⟩ := by simp [cF, dL, k0, k1, k2]
      refine XK.Bs 5 rfl (by omega) ?_
      rintro ⟨gb, rfl⟩
      refine XK.uP 5 rfl fun cs fD hct hnc tS => ?_
      dsimp only [List.set]
      have tQ : cs.take y.l.length = bU y.l := by simpa using hct
      have zU : cs.length = c5 := by simpa using fD
      refine XK.eJ [1, 2, 3, 4] ?_
      refine XB.mv 0 ?_
      refine XB.q 1 ?_
      refine XB.q 2 ?_
      refine XB.q 3 ?_
      refine XB.q 4 ?_
      refine XB.next 5 rfl (by kernel_rfl) ?_
      refine bB (fun w1 t => xH k w1) ?_
      refine XB.bk ?_
      refine XB.next 6 rfl (by kernel_rfl) ?_
      refine kd (dat id.toNat id.toNat) ?_
      refine XB.bt ?_
      refine XB.next 7 rfl (by kernel_rfl) ?_
      refine gR rfl rfl ?_
      dsimp only [List.set]
      refine XB.bt ?_
      refine XB.done (by kernel_rfl) ?_
      refine XK.go ?_
      refine XK.vE 5 (n := y.l.length) (c := c5) (sz := 1) (xs := bU (eT y.l id (decide (fJ k)))) rfl (by simpa using fD) (by rw [Nat.mul_one, ← Dc _ hin, ← tQ, List.take_set]) hnc tS ?_
      dsimp only [List.set]
      exact XK.weak [0, 1, 2, 3, 4, 5, 6, 7, 8] rfl (by decide) (fun _ h => h) (XK.aL [(7, .pointer (some ⟨g4, 0, none⟩)), (6, .pointer (some ⟨g3, 0, none⟩))] (XK.meet ⟨rfl, rfl, x, ⟨y.d, y.c, eT y.l id (decide (fJ k))⟩, e1.symm, e2.symm, rfl⟩))
     ·have hin : ¬ (0 ≤ id ∧ id < (y.l.length : Int)) := fun h => jC h.2
      have e1 : cG x 1 k id = x := by simp [cG, dL, k0, k1, k2, jH _ hin]
      have e2 : cF y 1 k id = y := by simp [cF, dL, k0, k1, k2, jH _ hin]
      refine XK.go ?_
      exact XK.weak [0, 1, 2, 3, 4, 5, 6, 7, 8] rfl (by decide) (fun _ h => h) (XK.aL [(7, .pointer (some ⟨g4, 0, none⟩)), (6, .pointer (some ⟨g3, 0, none⟩))] (XK.meet ⟨rfl, rfl, x, y, e1.symm, e2.symm, rfl⟩))
    ·have hin : ¬ (0 ≤ id ∧ id < (y.l.length : Int)) := fun h => hid h.1
     have e1 : cG x 1 k id = x := by simp [cG, dL, k0, k1, k2, jH _ hin]
     have e2 : cF y 1 k id = y := by simp [cF, dL, k0, k1, k2, jH _ hin]
     refine XK.go ?_
     exact XK.weak [0, 1, 2, 3, 4, 5, 6, 7, 8] rfl (by decide) (fun _ h => h) (XK.aL [(7, .pointer (some ⟨g4, 0, none⟩)), (6, .pointer (some ⟨g3, 0, none⟩))] (XK.meet ⟨rfl, rfl, x, y, e1.symm, e2.symm, rfl⟩))
   rw [show dH k (.slice B3 y.d.length c3) (.slice B4 y.c.length c4) (.slice B5 y.l.length c5) = .slice none 0 0 by rw [dH, if_neg k0, if_neg k1, if_neg k2]]
   have e1 : cG x 1 k id = x := by simp [cG, dL, k0, k1, k2]
   have e2 : cF y 1 k id = y := by simp [cF, dL, k0, k1, k2]
   refine XK.go ?_
   refine bO (t := 47) rfl (fun hid => ?_) (fun hid => ?_)
   ·refine XK.go ?_
    refine XK.if_ rfl (fun h => absurd h (by omega)) (fun _ => ?_)
    refine XK.go ?_
    exact XK.weak [0, 1, 2, 3, 4, 5, 6, 7, 8] rfl (by decide) (fun _ h => h) (XK.aL [(7, .pointer (some ⟨g4, 0, none⟩)), (6, .pointer (some ⟨g3, 0, none⟩))] (XK.meet ⟨rfl, rfl, x, y, e1.symm, e2.symm, rfl⟩))
   ·refine XK.go ?_
    exact XK.weak [0, 1, 2, 3, 4, 5, 6, 7, 8] rfl (by decide) (fun _ h => h) (XK.aL [(7, .pointer (some ⟨g4, 0, none⟩)), (6, .pointer (some ⟨g3, 0, none⟩))] (XK.meet ⟨rfl, rfl, x, y, e1.symm, e2.symm, rfl⟩))
  ·rintro _ _ _ ⟨rfl, rfl, x2, y2, xL, xK, rfl⟩
   refine XK.weak [7, 8, 0, 1, 2, 3, 4, 5] rfl (by decide) (fun _ h => h) ?_
   refine XK.go ?_
   refine XK.still [] [2, 3, 4, 5, 6, 7] [0, 1] (by simp) rfl (by decide) (by decide) fun q hq _ hfr => ?_
   obtain ⟨F0, Ei, Du⟩ := hq 2 _ (by simp) rfl
   have hs0 := aI.own (q := q) ⟨F0, Ei, Du⟩
   obtain ⟨F1, Eh, Dt⟩ := hq 3 _ (by simp) rfl
   have hs1 := aI.own (q := q) ⟨F1, Eh, Dt⟩
   obtain ⟨F2, kH, kE⟩ := hq 4 _ (by simp) rfl
   have eV := aI.own (q := q) ⟨F2, kH, kE⟩
   obtain ⟨F3, Eg, Ds⟩ := hq 5 _ (by simp) rfl
   have kL := aI.own (q := q) ⟨F3, Eg, Ds⟩
   obtain ⟨F4, Ef, Dr⟩ := hq 6 _ (by simp) rfl
   have lK := aI.own (q := q) ⟨F4, Ef, Dr⟩
   obtain ⟨F5, Ee, Dq⟩ := hq 7 _ (by simp) rfl
   have kU := aI.own (q := q) ⟨F5, Ee, Dq⟩
   refine XK.Bo rfl (n := 6) (vs := [.slice B0 x.d.length c0, .slice B1 x.c.length c1, .slice B2 x.l.length c2, .slice B3 y.d.length c3, .slice B4 y.c.length c4, .slice B5 y.l.length c5]) (by kernel_rfl) rfl rfl (aC.whole 1 rfl) fun w1 st => ⟨⟨_, rfl, ?_⟩, st.below (by simp)⟩
   have hle := st.kX (by simp) (hfr (by simp) (by simp))
   have l1 : x2.d.length = x.d.length ∧ x2.c.length = x.c.length ∧ x2.l.length = x.l.length ∧ y2.d.length = y.d.length ∧ y2.c.length = y.c.length ∧ y2.l.length = y.l.length := by
    rw [xL, xK]
    exact aAy x y _ k id
   rw [← xL, ← xK]
   obtain ⟨l1, l2, l3, l4, l5, l6⟩ := l1
   refine ⟨B0, c0, B1, c1, B2, c2, B3, c3, B4, c4, B5, c5, ?_, ?_, ?_, ?_, ?_, ?_, ?_⟩
   ·rw [l1, l2, l3, l4, l5, l6]
   ·rw [l1]; exact hs0.le hle
   ·rw [l2]; exact hs1.le hle
   ·rw [l3]; exact eV.le hle
   ·rw [l4]; exact kL.le hle
   ·rw [l5]; exact lK.le hle
   ·rw [l6]; exact kU.le hle
end
section
set_option maxHeartbeats 4000000
set_option maxRecDepth 20000
section
variable {P : Program} {N : cJ} {w0 w : World} {e : Env} {R : List Piece} {H : List HP} {K : Act → World → Prop} {f h : Nat} {L : eE} {s : aD} {z : bH} {Q : Exit → Act → World → Prop}
theorem Rd.jM (i : Nat) {o : Nat} {v : Value} (hi : H[i]? = some (eF f h L s z)) (hv : (cC h L s z)[o]? = some v) : Rd w0 R H f o v := fun w t => by
 have := ((t.nR i hi).r0.at_ hv).2
 rwa [Nat.zero_add] at this
theorem aC.jM (i : Nat) {o : Nat} {vs : List Value} (hi : H[i]? = some (eF f h L s z)) (hv : ((cC h L s z).drop o).take vs.length = vs) : aC w0 R H f o vs := .of fun _ _ hj => Rd.jM i hi (Tc hv hj)
end
def yB (L : eE) (b : Nat) : AC := if b = 0 then L.b0 else L.b1
section
variable {h : Nat} {L : eE} {s : aD} {z : bH}
theorem aAk {b : Nat} (hb : b < 2) : (cC h L s z)[11 + b * 2]? = some (.int .i64 (tU z b)) := by
 obtain rfl | rfl : b = 0 ∨ b = 1 := by omega
 ·rfl
 ·rfl
theorem aF6 {b : Nat} (hb : b < 2) : (cC h L s z)[12 + b * 2]? = some (.slice (yB L b).1 (eS z b).length (yB L b).2) := by
 obtain rfl | rfl : b = 0 ∨ b = 1 := by omega
 ·rfl
 ·rfl
theorem pH.box {w : World} {f : Nat} (k : pH w f h L s z) {b : Nat} (hb : b < 2) : aI (all w) 1 (yB L b).1 (eS z b).length (iI (eS z b)) := by
 obtain rfl | rfl : b = 0 ∨ b = 1 := by omega
 ·exact k.b0
 ·exact k.b1
theorem pH.Nx {w : World} {f : Nat} (k : pH w f h L s z) : iN (all w) z.x z.y (.agg #[.slice L.x1.1 z.x.d.length L.x1.2, .slice L.x2.1 z.x.c.length L.x2.2, .slice L.x3.1 z.x.l.length L.x3.2, .slice L.y1.1 z.y.d.length L.y1.2, .slice L.y2.1 z.y.c.length L.y2.2, .slice L.y3.1 z.y.l.length L.y3.2]) :=
 ⟨_, _, _, _, _, _, _, _, _, _, _, _, rfl, k.st.1, k.st.2.1, k.st.2.2.1, k.st.2.2.2.1, k.st.2.2.2.2.1, k.st.2.2.2.2.2⟩
end
structure qK (s : aD) (z : bH) : Prop where
 la : z.last = 0 ∨ z.last = 1
 u0 : fO z.w0
 u1 : fO z.w1
 n0 : z.w0.length ≤ 1000000
 n1 : z.w1.length ≤ 1000000
 sx : z.x.sm
 sy : z.y.sm
theorem qK.box {s : aD} {z : bH} (h : qK s z) (b : Nat) : fO (eS z b) ∧ (eS z b).length ≤ 1000000 := by
 unfold eS
 split
 ·exact ⟨h.u0, h.n0⟩
 ·exact ⟨h.u1, h.n1⟩
def fZ (s : aD) (x : aV) (z : bH) (a : Nat) : Int × Int × Int := fT s z.x z.y (jR s x) a (eS z a)
def rR (s : aD) (x : aV) (z : bH) (a : Nat) : bH × Bool :=
 let d := fZ s x z a
 if d.2.1 = 0 then (gQ s x { z with last := a } a d.1, false)
 else ({ z with last := a, x := cG z.x a d.2.1 d.2.2, y := cF z.y a d.2.1 d.2.2, at_ := a, kind := d.2.1, id := d.2.2 }, true)
def gN (s : aD) (x : aV) (z : bH) : bH × Bool := match lH z with
 | none => (z, false)
 | some a => rR s x z a
theorem aAf (f : Nat) (hL : HL) (s : aD) (z : bH) (x : aV) (hH : s.cK) (aX : gZ hL s) (hok : cH s x) (hz : qK s z) (l a : Nat) (hl : z.last = (l : Int)) (jL : l ≤ 1) (ha : a < 2) (hab : (tU z (1 - l) = 1 ∧ a = 1 - l) ∨ (tU z (1 - l) ≠ 1 ∧ a = l)) (h1 : tU z a = 1)
  (hst : (fZ s x z a).2.1 = 0 → (fZ s x z a).1 = 0 → mK (eS z a)) (w : World) (F : Nat → Prop) (hp : (cO f hL s z x).sat F w) (hF : ∀ b, F b → b < w.heap.size) :
  Calls Tryz.prog 74 #[.pointer (some ⟨f, 0, none⟩)] w (fun y w' => y = .returned (.bool (rR s x z a).2) ∧ ∃ F', (cO f hL s (rR s x z a).1 x).sat F' w' ∧ bX w w' F F') := by
 have Fu := hH.t.nv
 unfold rR
 generalize hdz : fZ s x z a = dz at hst ⊢
 obtain ⟨st, k, id⟩ := dz
 dsimp only at hst ⊢
 obtain ⟨hbu, hbn⟩ := hz.box a
 refine XK.dY (p := cO f hL s z x) (F := F) (vs := [.pointer (some ⟨f, 0, none⟩)]) Tryz.func74 rfl Tryz.ntmps74 (by simp) hp hF ?_
 refine XK.take 0 0 rfl rfl ?_
 dsimp only [List.set]
 refine XK.oB 0 rfl fun L => ?_
 dsimp only [List.set]
 have Zk : (cC hL.h L s z)[15]? = some (.int .i64 (l : Int)) := by rw [← hl]; rfl
 refine XK.seq ?_
 refine XK.region ?_
 refine bI ?_
 refine XK.aA ?_
 refine XK.seq ?_
 refine XK.region ?_
 refine bI ?_
 refine bI ?_
 refine bI ?_
 refine kd (dS rfl (Rd.jM 0 rfl Zk)) ?_
 refine kd (Gy rfl rfl (c := ((1 - l : Nat) : Int)) (by rw [show (1 : Int) - (l : Int) = ((1 - l : Nat) : Int) by omega]; exact aY (by omega))) ?_
 refine bI ?_
 refine XK.aA ?_
 refine XK.cut (fun e R H => e = [(3, .int .i64 (a : Int)), (0, .pointer (some ⟨f, 0, none⟩))] ∧ R = [⟨w, fun b => b < w.heap.size ∧ ¬ F b⟩] ∧ H = [eF f hL.h L s z, HP.many [HP.emp, dG hL s x]]) ?_ ?_
 ·refine XK.seq ?_
  refine XK.region ?_
  refine bI ?_
  refine bI ?_
  refine bI ?_
  refine bI ?_
  refine kd (eW (1 - l) (11 + (1 - l) * 2)) ?_
  refine bI ?_
  refine kd (dS rfl (Rd.jM 0 rfl (aAk (by omega)))) ?_
  refine bI ?_
  refine XK.aA ?_
  rcases hab with ⟨h2, rfl⟩ | ⟨h2, rfl⟩
  ·refine XK.if_ rfl (fun h => absurd h2 h) (fun _ => ?_)
   refine XK.skip ?_
   refine XK.norm ?_
   exact XK.aL [(3, .int .i64 ((1 - l : Nat) : Int)), (0, .pointer (some ⟨f, 0, none⟩))] (XK.meet ⟨rfl, rfl, rfl⟩)
  ·refine XK.if_ rfl (fun _ => ?_) (fun h => absurd h2 h)
   refine XK.region ?_
   refine bI ?_
   refine bI ?_
   refine bI ?_
   refine kd (dS rfl (Rd.jM 0 rfl Zk)) ?_
   refine bI ?_
   refine XK.aA ?_
   exact XK.aL [(3, .int .i64 (a : Int)), (0, .pointer (some ⟨f, 0, none⟩))] (XK.meet ⟨rfl, rfl, rfl⟩)
 rintro _ _ _ ⟨rfl, rfl, rfl⟩
 refine XK.go ?_
 refine kd (eW a (11 + a * 2)) ?_
 refine XK.go ?_
 refine kd (dS rfl (Rd.jM 0 rfl (aAk ha))) ?_
 refine XK.go ?_
 refine XK.if_ rfl (fun h => absurd h1 h) (fun _ => ?_)
 refine XK.go ?_
 refine XK.take 0 0 rfl rfl ?_
 dsimp only [List.set]
 refine gR rfl rfl ?_ (hs := gY.mk 0 rfl dQ.h rfl (by simp [cC]))
 dsimp only [List.set]
 rw [show (cC hL.h L s z).set (0 + 15) (.int .i64 (a : Int)) = cC hL.h L s { z with last := (a : Int) } from rfl]
 refine XK.bF 0 0 rfl rfl ?_
 dsimp only [List.set]
 change XK _ _ _ _ _ [eF f hL.h L s { z with last := (a : Int) }, HP.many [HP.emp, dG hL s x]]
 generalize kS : ({ z with last := (a : Int) } : bH) = z1
 have e1 : z1.x = z.x := by rw [← kS]
 have e2 : z1.y = z.y := by rw [← kS]
 have e3 : eS z1 a = eS z a := by rw [← kS]; rfl
 refine XK.go ?_
 refine kd (dS rfl (Rd.jM 0 rfl rfl)) ?_
 refine XK.go ?_
 refine jQ (n := s.aG.length) 8 (el := 3) (z := .int .i64 0) (by kernel_rfl) (by kernel_rfl) rfl rfl rfl (by omega) (by omega) (by decide) fun gm => ?_
 refine XK.go ?_
 refine XK.take 2 1 rfl rfl ?_
 dsimp only [List.set]
 rw [show List.replicate s.aG.length (Value.int .i64 0) = aR (fW (jR s x) ((jR s x).map fun _ => 0) 0) by
  rw [Es]
  refine List.ext_getElem? fun j => ?_
  simp only [aR, jR, List.map_map, List.getElem?_replicate, List.getElem?_map]
  by_cases h : j < s.aG.length
  ·rw [if_pos h, List.getElem?_range h]; rfl
  ·rw [if_neg h, List.getElem?_eq_none (by simp; omega)]; rfl]
 refine XK.aL [(46, .int .i64 0), (45, .int .i64 s.aG.length), (4, .slice (some ⟨gm, 0, none⟩) s.aG.length s.aG.length), (3, .int .i64 (a : Int)), (0, .pointer (some ⟨f, 0, none⟩))] ?_
 have Fl : (jR s x).length = s.aG.length := by simp [jR]
 refine XK.loop (fun m e R H => ∃ i : Nat, i ≤ s.aG.length ∧ m = s.aG.length - i ∧ e = [(46, .int .i64 i), (45, .int .i64 s.aG.length), (4, .slice (some ⟨gm, 0, none⟩) s.aG.length s.aG.length), (3, .int .i64 (a : Int)), (0, .pointer (some ⟨f, 0, none⟩))] ∧ R = [⟨w, fun b => b < w.heap.size ∧ ¬ F b⟩] ∧ H = [dG hL s x, HP.aE gm 3 (aR (fW (jR s x) ((jR s x).map fun _ => 0) i)), eF f hL.h L s z1, HP.many [HP.emp, HP.emp]]) s.aG.length ⟨0, by omega, rfl, rfl, rfl, rfl⟩ fun m e R H hI => ?_
 obtain ⟨i, hi, rfl, rfl, rfl, rfl⟩ := hI
 have Fv := Eu (vs := jR s x) (old := (jR s x).map fun _ => 0) (n := s.aG.length) Fl (by simp [jR]) hi
 have fD : (aR (fW (jR s x) ((jR s x).map fun _ => 0) i)).length = s.aG.length := by simp [aR, Fv]
 refine XK.go ?_
 refine XK.if_ rfl (fun hlt => ?_) (fun hge => ?_)
 ·have hlt : i < s.aG.length := by omega
  have hwi : (jR s x)[i]? = some (fP x.wt i : Int) := by simp [jR, hlt]
  have jT : (aR (fW (jR s x) ((jR s x).map fun _ => 0) i)).set i (.int .i64 (fP x.wt i : Nat)) = aR (fW (jR s x) ((jR s x).map fun _ => 0) (i + 1)) := by
   rw [← Et (by simp) hwi, aR, aR, List.map_set]
  refine XK.go ?_
  refine kd (dS rfl (Rd.jM 2 rfl rfl)) ?_
  refine XK.go ?_
  refine bB (fun w1 t => aEH hL s x w1 i hlt (t.iM 0 rfl aX hok)) ?_
  refine XK.go ?_
  refine kd (dat i i) ?_
  refine gR rfl rfl ?_
  dsimp only [List.set]
  rw [jT]
  refine XK.go ?_
  refine XK.aL [(46, .int .i64 (i + 1 : Nat)), (45, .int .i64 s.aG.length), (4, .slice (some ⟨gm, 0, none⟩) s.aG.length s.aG.length), (3, .int .i64 (a : Int)), (0, .pointer (some ⟨f, 0, none⟩))] ?_
  exact XK.round (s.aG.length - (i + 1)) (by omega) ⟨i + 1, hlt, rfl, rfl, rfl, rfl⟩
 obtain rfl : i = s.aG.length := by omega
 rw [Ew Fl (by simp [jR])]
 refine XK.bF 2 1 rfl rfl ?_
 dsimp only [List.set]
 refine XK.go ?_
 refine XK.Cx (fun e R H => ∃ g7 : Nat, e = [(7, .pointer (some ⟨g7, 0, none⟩)), (6, .int .i32 st), (3, .int .i64 (a : Int)), (0, .pointer (some ⟨f, 0, none⟩))] ∧ R = [⟨w, fun b => b < w.heap.size ∧ ¬ F b⟩] ∧ H = [HP.aE g7 63 [.int .u8 k, .int .i64 id], eF f hL.h L s z1, HP.many [HP.emp, dG hL s x]]) ?_ ?_
 ·refine XK.eJ [1, 2, 3, 5, 6, 7, 12, 13, 14, 15, 16, 19, 20] ?_
  refine XB.mv 0 ?_
  refine XB.mv 4 ?_
  refine XB.mv 8 ?_
  refine XB.mv 9 ?_
  refine XB.mv 10 ?_
  refine XB.mv 11 ?_
  refine XB.q 1 ?_
  refine XB.q 2 ?_
  refine XB.q 3 ?_ (eD := sI rfl (aC.jM 1 rfl (vs := [.slice L.a1.1 s.aB.length L.a1.2, .slice L.a2.1 s.domains.length L.a2.2, .slice L.a3.1 s.aU.length L.a3.2, .slice L.a4.1 s.aG.length L.a4.2]) rfl))
  refine XB.q 5 ?_
  refine XB.q 6 ?_
  refine XB.q 7 ?_ (eD := sI rfl (aC.jM 1 rfl (vs := [.slice L.x1.1 z1.x.d.length L.x1.2, .slice L.x2.1 z1.x.c.length L.x2.2, .slice L.x3.1 z1.x.l.length L.x3.2, .slice L.y1.1 z1.y.d.length L.y1.2, .slice L.y2.1 z1.y.c.length L.y2.2, .slice L.y3.1 z1.y.l.length L.y3.2]) rfl))
  refine XB.q 12 ?_
  refine XB.q 13 ?_
  refine XB.q 14 ?_ (eD := eW (sz := 2) a (11 + a * 2))
  refine XB.q 15 ?_
  refine XB.q 16 ?_ (eD := dS rfl (Rd.jM 1 rfl (v := .slice (yB L a).1 (eS z1 a).length (yB L a).2) (by rw [show 11 + a * 2 + 1 = 12 + a * 2 by omega]; exact aF6 ha)))
  have uV : ∀ H : List HP, H[H.length - 2]? = some (eF f hL.h L s z1) → (H.length = 3 ∨ H.length = 4) → H[H.length - 3]? = some (HP.aE gm 3 (aR (jR s x))) → ∀ w1, St w [⟨w, fun b => b < w.heap.size ∧ ¬ F b⟩] H w1 → Calls Tryz.prog 32 #[.agg #[.slice L.a1.1 s.aB.length L.a1.2, .slice L.a2.1 s.domains.length L.a2.2, .slice L.a3.1 s.aU.length L.a3.2, .slice L.a4.1 s.aG.length L.a4.2], .agg #[.slice L.x1.1 z1.x.d.length L.x1.2, .slice L.x2.1 z1.x.c.length L.x2.2, .slice L.x3.1 z1.x.l.length L.x3.2, .slice L.y1.1 z1.y.d.length L.y1.2, .slice L.y2.1 z1.y.c.length L.y2.2, .slice L.y3.1 z1.y.l.length L.y3.2], .slice (some ⟨gm, 0, none⟩) s.aG.length s.aG.length, .int .i64 (a : Int), .slice (yB L a).1 (eS z1 a).length (yB L a).2] w1 (Rt (Df (st, k, id)) w1) := fun H h2 _ h3 w1 t => by
   have kf := t.nR _ h2
   have := Mh (all w1) (all w1) s _ _ _ _ _ L.a1.2 _ L.a2.2 _ L.a3.2 _ L.a4.2 _ _ _ _ _ _ _ L.x1.2 _ L.x2.2 _ L.x3.2 _ L.y1.2 _ L.y2.2 _ L.y3.2 z1.x z1.y (some ⟨gm, 0, none⟩) s.aG.length s.aG.length (jR s x) a _ _ (yB L a).2 (eS z1 a) w1 kf.so hH.t (Piece.Le.refl _) kf.Nx (Piece.Le.refl _) (t.yR h3 (by simp [aR, Fl])) Fl.symm ha (kf.box ha) rfl (by rw [e3]; exact hbn) (by rw [e3]; exact hbu)
   rw [show fT s z1.x z1.y (jR s x) a (eS z1 a) = (st, k, id) by rw [e1, e2, e3]; exact hdz] at this
   exact this
  refine XB.either 17 21 rfl rfl (by kernel_rfl) ?_ ?_
  ·refine bB (fun w1 t => uV _ rfl (.inl rfl) rfl w1 t) ?_
   refine XB.bk ?_
   refine XB.mv 18 ?_
   refine XB.q 19 ?_
   refine XB.q 20 ?_
   refine XB.next 21 rfl (by kernel_rfl) ?_
   refine cD (cs := [.int .u8 0, .int .i64 0]) (aM (by kernel_rfl)) (by decide) fun g7 => ?_
   refine XB.bk ?_
   refine XB.next 22 rfl (by kernel_rfl) ?_
   refine bI ?_
   refine XB.bk ?_
   refine XB.next 23 rfl (by kernel_rfl) ?_
   refine tI 0 rfl ?_
   dsimp only [List.set]
   refine XB.bt ?_
   refine XB.done (by kernel_rfl) ?_
   refine XK.norm ?_
   refine XK.weak [0, 2, 3] rfl (by decide) (fun _ h => h) ?_
   exact XK.aL [(7, .pointer (some ⟨g7, 0, none⟩)), (6, .int .i32 st), (3, .int .i64 (a : Int)), (0, .pointer (some ⟨f, 0, none⟩))] (XK.meet ⟨g7, rfl, rfl, rfl⟩)
  ·refine cD (cs := [.int .u8 0, .int .i64 0]) (aM (by kernel_rfl)) (by decide) fun g7 => ?_
   refine XB.bk ?_
   refine XB.next 17 rfl (by kernel_rfl) ?_
   refine bB (fun w1 t => uV _ rfl (.inr rfl) rfl w1 t) ?_
   refine XB.bk ?_
   refine XB.mv 18 ?_
   refine XB.q 19 ?_
   refine XB.q 20 ?_
   refine XB.next 22 rfl (by kernel_rfl) ?_
   refine bI ?_
   refine XB.bk ?_
   refine XB.next 23 rfl (by kernel_rfl) ?_
   refine tI 0 rfl ?_
   dsimp only [List.set]
   refine XB.bt ?_
   refine XB.done (by kernel_rfl) ?_
   refine XK.norm ?_
   refine XK.weak [0, 2, 3] rfl (by decide) (fun _ h => h) ?_
   exact XK.aL [(7, .pointer (some ⟨g7, 0, none⟩)), (6, .int .i32 st), (3, .int .i64 (a : Int)), (0, .pointer (some ⟨f, 0, none⟩))] (XK.meet ⟨g7, rfl, rfl, rfl⟩)
 rintro _ _ _ ⟨g7, rfl, rfl, rfl⟩
 refine XK.go ?_
 refine XK.if_ rfl (fun hk => ?_) (fun hk => ?_)
 ·have hk : k = 0 := hk
  rw [if_pos hk]
  refine XK.lC 1 (f := fun L : eE => eF f hL.h L s z1) L rfl ?_
  dsimp only [List.set]
  refine XK.weak [1, 0, 2] rfl (by decide) (fun _ h => h) ?_
  refine XK.bF 1 0 rfl rfl ?_
  dsimp only [List.set]
  refine XK.go ?_
  refine iL 1 (cO f hL s (gQ s x z1 a st) x) (fun w1 F1 t h1 h2 h3 => Se f hL s z1 x hH aX hok a ha st (fun h0 => by rw [e3]; exact hst hk h0) w1 F1 h1 h2) ?_
  dsimp only [List.set]
  refine XK.go ?_
  exact XK.aK rfl rfl fun w1 t => ⟨rfl, t.turns hF (by simp) (i := 1) rfl⟩
 ·rw [if_neg hk]
  rw [show ({ z with last := (a : Int), x := cG z.x a k id, y := cF z.y a k id, at_ := (a : Int), kind := k, id := id } : bH) = { z1 with x := cG z1.x a k id, y := cF z1.y a k id, at_ := (a : Int), kind := k, id := id } by rw [← kS]]
  refine XK.go ?_
  refine XK.eJ [2, 3, 4, 6] ?_
  refine XB.mv 0 ?_
  refine XB.mv 1 ?_
  refine XB.mv 5 ?_
  refine XB.q 2 ?_
  refine XB.q 3 ?_
  refine XB.q 4 ?_ (eD := sI rfl (aC.jM 1 rfl (vs := [.slice L.x1.1 z1.x.d.length L.x1.2, .slice L.x2.1 z1.x.c.length L.x2.2, .slice L.x3.1 z1.x.l.length L.x3.2, .slice L.y1.1 z1.y.d.length L.y1.2, .slice L.y2.1 z1.y.c.length L.y2.2, .slice L.y3.1 z1.y.l.length L.y3.2]) rfl))
  refine XB.q 6 ?_
  refine XB.next 7 rfl (by kernel_rfl) ?_
  refine jX [] (f := 151) (fi := []) (ca := []) (by kernel_rfl) rfl rfl (by decide) (by simp) (fun v w w' => iN (fresh w w') (cG z1.x a k id) (cF z1.y a k id) v) (fun w1 t => by
   have kf := t.nR 1 rfl
   exact aFU (all w1) _ _ _ _ _ _ _ _ _ _ _ _ z1.x z1.y a k id w1 (Piece.Le.refl _) ha (by rw [e1]; exact hz.sx) (by rw [e2]; exact hz.sy) kf.st.1 kf.st.2.1 kf.st.2.2.1 kf.st.2.2.2.1 kf.st.2.2.2.2.1 kf.st.2.2.2.2.2) ?_
  rintro _ w2 q2 aEy mB _ xQ
  have xQ := xQ (by simp)
  obtain ⟨x1, x2, x3, y1, y2, y3, rfl, zF⟩ := aEy.P
  have zF := kZ.le _ _ mB (zF L.a1 L.a2 L.a3 L.a4 L.b0 L.b1)
  refine XK.Js (Φ := kZ ⟨L.a1, L.a2, L.a3, L.a4, x1, x2, x3, y1, y2, y3, L.b0, L.b1⟩ (cG z1.x a k id) (cF z1.y a k id)) (hm := kZ.le) xQ (fun p hp b hb => by simp at hp; subst hp; exact hb.1) zF ?_
  refine XB.bt ?_
  refine XB.next 8 rfl (by kernel_rfl) ?_
  refine bI ?_
  refine XB.bt ?_
  refine XB.next 9 rfl (by kernel_rfl) ?_
  refine bI ?_
  refine XB.bt ?_
  refine XB.next 10 rfl (by kernel_rfl) ?_
  refine XK.take 2 0 rfl rfl ?_
  dsimp only [List.set]
  refine jP 0 (t := 150) rfl rfl rfl (by kernel_rfl) (by simp [Value.cells, Value.oneCell', qR]) (by simp [Value.cells, cC]) ?_
  dsimp only [List.set]
  rw [show bZ (cC hL.h L s z1) (0 + 5) (Value.agg #[qR x1 (cG z1.x a k id).d.length, qR x2 (cG z1.x a k id).c.length, qR x3 (cG z1.x a k id).l.length, qR y1 (cF z1.y a k id).d.length, qR y2 (cF z1.y a k id).c.length, qR y3 (cF z1.y a k id).l.length]).cells.toList = cC hL.h ⟨L.a1, L.a2, L.a3, L.a4, x1, x2, x3, y1, y2, y3, L.b0, L.b1⟩ s { z1 with x := cG z1.x a k id, y := cF z1.y a k id } from rfl]
  refine XB.bt ?_
  refine XB.done (by kernel_rfl) ?_
  refine XK.norm ?_
  refine XK.take 3 2 rfl rfl ?_
  dsimp only [List.set]
  refine XK.weak [1, 2, 3, 4, 5] rfl (by decide) (R' := [⟨w, fun b => b < w.heap.size ∧ ¬ F b⟩]) (by simp) ?_
  refine XK.weak [1, 0, 2, 3, 4] rfl (by decide) (fun _ h => h) ?_
  refine XK.bF 2 2 rfl rfl ?_
  dsimp only [List.set]
  generalize kR : ({ z1 with x := cG z1.x a k id, y := cF z1.y a k id } : bH) = z2
  rw [show ({ z1 with x := cG z1.x a k id, y := cF z1.y a k id, at_ := (a : Int), kind := k, id := id } : bH) = { z2 with at_ := (a : Int), kind := k, id := id } by rw [← kR]]
  generalize hL2 : (⟨L.a1, L.a2, L.a3, L.a4, x1, x2, x3, y1, y2, y3, L.b0, L.b1⟩ : eE) = L2
  refine XK.seq ?_
  refine XK.Cx (fun e R H => e = [(0, .pointer (some ⟨f, 0, none⟩))] ∧ R = [⟨w, fun b => b < w.heap.size ∧ ¬ F b⟩] ∧ H = [HP.aE f 150 (cC hL.h L2 s { z2 with at_ := (a : Int), kind := k, id := id }), HP.aE g7 63 [.int .u8 k, .int .i64 id], HP.many [HP.emp, HP.dM (pE L s) (pE.le (L := L) (s := s)), HP.dM (kZ L2 (cG z1.x a k id) (cF z1.y a k id)) (kZ.le (L := L2) (x := cG z1.x a k id) (y := cF z1.y a k id)), HP.dM (bQ L.b0 z1.w0) (bQ.le (a := L.b0) (l := z1.w0)), HP.dM (bQ L.b1 z1.w1) (bQ.le (a := L.b1) (l := z1.w1))], HP.many [HP.emp, dG hL s x]]) ?_ ?_
  ·refine XK.eJ [] ?_
   refine XB.mv 0 ?_
   refine XB.mv 1 ?_
   refine XB.mv 2 ?_
   refine XB.either 3 4 rfl rfl (by kernel_rfl) ?_ ?_
   ·refine bI ?_
    refine XB.bt ?_
    refine XB.next 4 rfl (by kernel_rfl) ?_
    refine bI ?_
    refine XB.bt ?_
    refine XB.next 5 rfl (by kernel_rfl) ?_
    refine bI ?_
    refine XB.bt ?_
    refine XB.next 6 rfl (by kernel_rfl) ?_
    refine gR rfl rfl ?_ (hs := gY.mk 0 rfl dQ.h rfl (by simp [cC]))
    dsimp only [List.set]
    rw [show (cC hL.h L2 s z2).set (0 + 16) (.int .i64 (a : Int)) = cC hL.h L2 s { z2 with at_ := (a : Int) } from rfl]
    refine XB.bt ?_
    refine XB.next 7 rfl (by kernel_rfl) ?_
    refine bI ?_
    refine XB.bt ?_
    refine XB.next 8 rfl (by kernel_rfl) ?_
    refine bI ?_
    refine XB.bt ?_
    refine XB.next 9 rfl (by kernel_rfl) ?_
    refine jP 0 (t := 150) rfl rfl rfl (by kernel_rfl) (by simp [Value.cells, Value.oneCell']) (by simp [Value.cells, cC]) ?_
    dsimp only [List.set]
    rw [show bZ (cC hL.h L2 s { z2 with at_ := (a : Int) }) (0 + 17) (Value.agg #[.int .u8 k, .int .i64 id]).cells.toList = cC hL.h L2 s { z2 with at_ := (a : Int), kind := k, id := id } from rfl]
    refine XB.bt ?_
    refine XB.done (by kernel_rfl) ?_
    refine XK.norm ?_
    exact XK.aL [(0, .pointer (some ⟨f, 0, none⟩))] (XK.meet ⟨rfl, rfl, rfl⟩)
   ·refine bI ?_
    refine XB.bt ?_
    refine XB.either 3 5 rfl rfl (by kernel_rfl) ?_ ?_
    ·refine bI ?_
     refine XB.bt ?_
     refine XB.next 5 rfl (by kernel_rfl) ?_
     refine bI ?_
     refine XB.bt ?_
     refine XB.next 6 rfl (by kernel_rfl) ?_
     refine gR rfl rfl ?_ (hs := gY.mk 0 rfl dQ.h rfl (by simp [cC]))
     dsimp only [List.set]
     rw [show (cC hL.h L2 s z2).set (0 + 16) (.int .i64 (a : Int)) = cC hL.h L2 s { z2 with at_ := (a : Int) } from rfl]
     refine XB.bt ?_
     refine XB.next 7 rfl (by kernel_rfl) ?_
     refine bI ?_
     refine XB.bt ?_
     refine XB.next 8 rfl (by kernel_rfl) ?_
     refine bI ?_
     refine XB.bt ?_
     refine XB.next 9 rfl (by kernel_rfl) ?_
     refine jP 0 (t := 150) rfl rfl rfl (by kernel_rfl) (by simp [Value.cells, Value.oneCell']) (by simp [Value.cells, cC]) ?_
     dsimp only [List.set]
     rw [show bZ (cC hL.h L2 s { z2 with at_ := (a : Int) }) (0 + 17) (Value.agg #[.int .u8 k, .int .i64 id]).cells.toList = cC hL.h L2 s { z2 with at_ := (a : Int), kind := k, id := id } from rfl]
     refine XB.bt ?_
     refine XB.done (by kernel_rfl) ?_
     refine XK.norm ?_
     exact XK.aL [(0, .pointer (some ⟨f, 0, none⟩))] (XK.meet ⟨rfl, rfl, rfl⟩)
    ·refine bI ?_
     refine XB.bt ?_
     refine XB.either 3 6 rfl rfl (by kernel_rfl) ?_ ?_
     ·refine bI ?_
      refine XB.bt ?_
      refine XB.next 6 rfl (by kernel_rfl) ?_
      refine gR rfl rfl ?_ (hs := gY.mk 0 rfl dQ.h rfl (by simp [cC]))
      dsimp only [List.set]
      rw [show (cC hL.h L2 s z2).set (0 + 16) (.int .i64 (a : Int)) = cC hL.h L2 s { z2 with at_ := (a : Int) } from rfl]
      refine XB.bt ?_
      refine XB.next 7 rfl (by kernel_rfl) ?_
      refine bI ?_
      refine XB.bt ?_
      refine XB.next 8 rfl (by kernel_rfl) ?_
      refine bI ?_
      refine XB.bt ?_
      refine XB.next 9 rfl (by kernel_rfl) ?_
      refine jP 0 (t := 150) rfl rfl rfl (by kernel_rfl) (by simp [Value.cells, Value.oneCell']) (by simp [Value.cells, cC]) ?_
      dsimp only [List.set]
      rw [show bZ (cC hL.h L2 s { z2 with at_ := (a : Int) }) (0 + 17) (Value.agg #[.int .u8 k, .int .i64 id]).cells.toList = cC hL.h L2 s { z2 with at_ := (a : Int), kind := k, id := id } from rfl]
      refine XB.bt ?_
      refine XB.done (by kernel_rfl) ?_
      refine XK.norm ?_
      exact XK.aL [(0, .pointer (some ⟨f, 0, none⟩))] (XK.meet ⟨rfl, rfl, rfl⟩)
     ·refine gR rfl rfl ?_ (hs := gY.mk 0 rfl dQ.h rfl (by simp [cC]))
      dsimp only [List.set]
      rw [show (cC hL.h L2 s z2).set (0 + 16) (.int .i64 (a : Int)) = cC hL.h L2 s { z2 with at_ := (a : Int) } from rfl]
      refine XB.bt ?_
      refine XB.next 3 rfl (by kernel_rfl) ?_
      refine bI ?_
      refine XB.bt ?_
      refine XB.next 7 rfl (by kernel_rfl) ?_
      refine bI ?_
      refine XB.bt ?_
      refine XB.next 8 rfl (by kernel_rfl) ?_
      refine bI ?_
      refine XB.bt ?_
      refine XB.next 9 rfl (by kernel_rfl) ?_
      refine jP 0 (t := 150) rfl rfl rfl (by kernel_rfl) (by simp [Value.cells, Value.oneCell']) (by simp [Value.cells, cC]) ?_
      dsimp only [List.set]
      rw [show bZ (cC hL.h L2 s { z2 with at_ := (a : Int) }) (0 + 17) (Value.agg #[.int .u8 k, .int .i64 id]).cells.toList = cC hL.h L2 s { z2 with at_ := (a : Int), kind := k, id := id } from rfl]
      refine XB.bt ?_
      refine XB.done (by kernel_rfl) ?_
      refine XK.norm ?_
      exact XK.aL [(0, .pointer (some ⟨f, 0, none⟩))] (XK.meet ⟨rfl, rfl, rfl⟩)
  rintro _ _ _ ⟨rfl, rfl, rfl⟩
  refine XK.bF 1 0 rfl rfl ?_
  dsimp only [List.set]
  subst hL2
  subst kR
  refine XK.lC 1 (f := fun L : eE => eF f hL.h L s { ({ z1 with x := cG z1.x a k id, y := cF z1.y a k id } : bH) with at_ := (a : Int), kind := k, id := id }) ⟨L.a1, L.a2, L.a3, L.a4, x1, x2, x3, y1, y2, y3, L.b0, L.b1⟩ rfl ?_
  dsimp only [List.set]
  refine XK.weak [1, 0, 2] rfl (by decide) (fun _ h => h) ?_
  refine XK.bF 1 0 rfl rfl ?_
  dsimp only [List.set]
  refine XK.go ?_
  exact XK.aK rfl rfl fun w1 t => ⟨rfl, t.turns hF (by simp) (i := 1) rfl⟩
theorem aAg (f : Nat) (hL : HL) (s : aD) (z : bH) (x : aV) (hH : s.cK) (aX : gZ hL s) (hok : cH s x) (hz : qK s z) (hst : ∀ a, lH z = some a → (fZ s x z a).2.1 = 0 → (fZ s x z a).1 = 0 → mK (eS z a)) (w : World) (F : Nat → Prop) (hp : (cO f hL s z x).sat F w) (hF : ∀ b, F b → b < w.heap.size) :
  Calls Tryz.prog 74 #[.pointer (some ⟨f, 0, none⟩)] w (fun y w' => y = .returned (.bool (gN s x z).2) ∧ ∃ F', (cO f hL s (gN s x z).1 x).sat F' w' ∧ bX w w' F F') := by
 unfold gN
 cases hn : lH z with
 | none => exact aFs f hL s z x hz.la hn w F hp hF
 | some a =>
  obtain ⟨l, hl, jL⟩ : ∃ l : Nat, z.last = (l : Int) ∧ l ≤ 1 := by
   rcases hz.la with h | h
   ·exact ⟨0, h, by omega⟩
   ·exact ⟨1, h, by omega⟩
  have hn2 := hn
  unfold lH at hn
  rw [show (1 - z.last).toNat = 1 - l by omega, show z.last.toNat = l by omega] at hn
  by_cases h2 : tU z (1 - l) = 1
  ·rw [if_pos h2] at hn
   obtain rfl := Option.some.inj hn
   exact aAf f hL s z x hH aX hok hz l _ hl jL (by omega) (.inl ⟨h2, rfl⟩) h2 (hst _ hn2) w F hp hF
  ·rw [if_neg h2] at hn
   by_cases h3 : tU z l = 1
   ·rw [if_pos h3] at hn
    obtain rfl := Option.some.inj hn
    exact aAf f hL s z x hH aX hok hz l _ hl jL (by omega) (.inr ⟨h2, rfl⟩) h3 (hst _ hn2) w F hp hF
   ·rw [if_neg h3] at hn
    cases hn
end
section
set_option maxHeartbeats 4000000
set_option maxRecDepth 20000
section
variable {P : Program} {N : cJ} {w0 w : World} {K : Act → World → Prop} {e : Env} {R : List Piece} {H H' : List HP}
theorem XK.Si {nn : Nat} {F : Nat → Prop} {p : HP} {f : FuncId} {fn : Func} {c : Code} {vs : List Value} {Post : Ending → World → Prop} (hf : P.funcs[f]? = some fn) (hb : fn.body = some c) (hN : fn.ntmps = nn) (hl : vs.length ≤ nn) (hp : p.sat F w) (hF : ∀ b, F b → b < w.heap.size)
  (h : XK ⟨nn, []⟩ w (c.wp P (bodyPostD P fn Post)) (wR 0 vs) [⟨w, fun b => b < w.heap.size ∧ ¬ F b⟩] [p]) : Calls P f vs.toArray w Post := by
 refine calls_of_wp_defers hf hb (h _ _ ⟨?_, rfl, fun t v hv => ?_⟩ (St.Ve hp hF))
 ·simp; omega
 ·obtain ⟨_, h2⟩ := Hu vs 0 t v hv
  rw [Nat.sub_zero] at h2
  have hlt : t < vs.length := by
   rcases Nat.lt_or_ge t vs.length with h | h
   ·exact h
   ·rw [List.getElem?_eq_none h] at h2; cases h2
  rw [Array.getElem?_append_left (by simpa using hlt)]
  simpa using h2
theorem XK.Ez {nn : Nat} {f : FuncId} {fi ca : List Value} {fn : Func} {Post : Ending → World → Prop} {x : Exit} (hx : x = .ret ∨ x = .normal) (hf : eY P f = true)
  (fD : ∀ w, CallsD P f (fi ++ ca).toArray .returning w fun y u' w' => y = .returned (.tuple #[]) ∧ u' = .returning ∧ w' = w) (hr : fn.results = #[])
  (h : ∀ w, St w0 R H w → Post (.returned (.tuple #[])) w) : XK ⟨nn, [xZ f fi ca]⟩ w0 (bodyPostD P fn Post x) e R H := by
 have key : XK ⟨nn, [xZ f fi ca]⟩ w0 (bodyPostD P fn Post .ret) e R H := XK.aEf (H' := H) hf (fun w1 st => (fD w1).mono fun y u' w' h => by
  obtain ⟨h1, h2, rfl⟩ := h
  exact ⟨⟨_, h1⟩, h2, st⟩) fun a w1 _ st => ⟨.tuple #[], results_none hr _ _ _, h w1 st⟩
 rcases hx with rfl | rfl
 ·exact key
 ·exact key
end
theorem Gs (w : World) : CallsD Tryz.prog 73 #[] .returning w fun e u' w' => e = .returned (.tuple #[]) ∧ u' = .returning ∧ w' = w := by
 refine callsD_of_wpS Tryz.func73 rfl fun c₀ cs hu => ?_
 apply wpS_region
 simp [wpOpsS, go_sem, recoverD, hu, Tryz.ntmps73, Exit.thenS]
 cases c₀
 simp_all [bodyPostS, results, Tryz.results73]
section
variable {N : cJ} {w0 w : World} {e : Env} {R : List Piece} {H : List HP} {K : Act → World → Prop} {f : Nat} {hL : HL} {s : aD} {z : bH} {x : aV}
theorem Rd.vQ (i : Nat) {o : Nat} {v : Value} (hi : H[i]? = some (cO f hL s z x)) (hv : ∀ L, (cC hL.h L s z)[o]? = some v) : Rd w0 R H f o v := fun w t => by
 obtain ⟨F, ⟨G, g1, g2, _⟩, h2, _⟩ := t.chunk hi
 obtain ⟨L, hL'⟩ := g1 0 _ rfl
 have := ((eF.reads hL' fun b hb => h2 b (g2 0 b hb)).r0.at_ (hv L)).2
 rwa [Nat.zero_add] at this
end
theorem aAh (f : Nat) (hL : HL) (s : aD) (z : bH) (x : aV) (hH : s.cK) (aX : gZ hL s) (hok : cH s x) (hz : qK s z) (hst : ∀ a, lH z = some a → (fZ s x z a).2.1 = 0 → (fZ s x z a).1 = 0 → mK (eS z a)) (iF : z.at_ < 0) (hno : (gN s x z).2 = false) (w : World) (F : Nat → Prop) (hp : (cO f hL s z x).sat F w) (hF : ∀ b, F b → b < w.heap.size) :
  Calls Tryz.prog 20 #[.pointer (some ⟨f, 0, none⟩)] w (fun y w' => y = .returned (.tuple #[]) ∧ ∃ F', (cO f hL s (gN s x z).1 x).sat F' w' ∧ bX w w' F F') := by
 refine XK.Si (vs := [.pointer (some ⟨f, 0, none⟩)]) (p := cO f hL s z x) Tryz.func20 rfl Tryz.ntmps20 (by simp) hp hF ?_
 refine XK.go ?_
 refine Nf (f := 73) (fi := []) (ca := []) rfl ?_
 refine XK.go ?_
 refine kd (dS rfl (Rd.vQ 0 rfl fun _ => rfl)) ?_
 refine XK.go ?_
 refine bO (t := 8) rfl (fun _ => ?_) (fun h => absurd iF h)
 refine XK.go ?_
 refine iL 0 (cO f hL s (gN s x z).1 x) (fun w1 F1 t h1 h2 h3 => aAg f hL s z x hH aX hok hz hst w1 F1 h1 h2) ?_
 dsimp only [List.set]
 rw [hno]
 refine XK.go ?_
 exact XK.Ez (.inl rfl) (by kernel_rfl) Gs rfl fun w1 t => ⟨rfl, t.turns hF (by simp) (i := 0) rfl⟩
end
section
theorem fO.snoc {l : List Int} {x : Int} (h : fO l) (hx : 0 ≤ x ∧ x < 4294967296) : fO (l ++ [x]) := by
 intro y hy
 rcases List.mem_append.1 hy with hy | hy
 ·exact h y hy
 ·simp at hy; subst hy; exact hx
theorem fO.set {l : List Int} {x : Int} {i : Nat} (h : fO l) (hx : 0 ≤ x ∧ x < 4294967296) : fO (l.set i x) := by
 intro y hy
 rcases List.mem_or_eq_of_mem_set hy with hy | hy
 ·exact h y hy
 ·subst hy; exact hx
theorem fO.take {l : List Int} {n : Nat} (h : fO l) : fO (l.take n) := fun y hy => h y (List.mem_of_mem_take hy)
end
section
theorem Py {s : aD} (h : s.cK) : cH s (hw0 s) := by
 refine ⟨⟨by simp [hw0], fun x hx => ?_⟩, ⟨by simp [hw0], fun x hx => ?_, fun x hx => ?_⟩, ⟨by simp [hw0], fun x hx => ?_⟩, by simp [hw0], fun i d p hd hp => ?_, by simp [hw0]⟩
 ·obtain ⟨c, hc, rfl⟩ := List.mem_map.1 hx
  obtain ⟨i, hi⟩ := List.getElem?_of_mem hc
  have := (h.t.aB i c hi).2
  unfold rI
  dsimp only
  split
  ·omega
  ·omega
 ·obtain ⟨c, hc, rfl⟩ := List.mem_map.1 hx
  simp [rH]
 ·obtain ⟨c, hc, rfl⟩ := List.mem_map.1 hx
  simp [rH]
 ·obtain ⟨c, hc, rfl⟩ := List.mem_map.1 hx
  simp [lJ]
 ·simp only [hw0, List.getElem?_map, hd, Option.map_some] at hp
  cases hp
  have hf := h.t.aG i d hd
  refine ⟨⟨by simp [uZ], by simp [uZ], fun v hv => ?_, fun v hv => ?_⟩, by simp [wT, Bq]⟩
  ·obtain ⟨r, hr, rfl⟩ := List.mem_map.1 hv
   have := hf.2.2.2.2.2.2.2.2.2.1 r hr
   omega
  ·simp only [uZ, List.mem_map] at hv
   obtain ⟨r, _, rfl⟩ := hv
   omega
theorem mN {s : aD} (h : s.iS) : (bG s).sm := by
 have h1 := h.nc
 have h2 := h.nd
 have h3 := h.nr
 exact ⟨by simp [bG]; omega, by simp [bG]; omega, by simp [bG]; omega⟩
def gH : aD := ⟨[], [], [], []⟩
theorem Vi : gH.small := ⟨by decide, by decide, by decide, by decide, (fun c hc => by cases hc), (fun c hc => by cases hc)⟩
theorem Ny : gH.iS := ⟨fun _ _ h => by simp [gH] at h, fun _ _ h => by simp [gH] at h, by decide, by decide, by decide, by decide, by rfl, Vi⟩
theorem Iu : gH.cK := ⟨Ny, fun _ _ h => by simp [gH] at h, by simp [gH]⟩
theorem Vj (w : World) : eO w gH none 0 none 0 none 0 none 0 :=
 ⟨⟨[], trivial, rfl, aI.nil _ _⟩, ⟨[], trivial, rfl, aI.nil _ _⟩, ⟨[], trivial, rfl, aI.nil _ _⟩, ⟨[], trivial, rfl, aI.nil _ _⟩, Vi⟩
end
section
def hB (o : Option Nat) : Int := if o.isSome then 1 else 0
def uQ : List Int := [(jI 0 0 16 5).1]
def zE : bH := { nQ gH with h0 := 1, w0 := uQ }
theorem Er : (jI 0 0 16 5).2 = 0 ∧ bT (jI 0 0 16 5).1 28 4 = 0 ∧ bT (jI 0 0 16 5).1 10 8 = 16 ∧ bT (jI 0 0 16 5).1 0 8 = 0 ∧ 0 ≤ (jI 0 0 16 5).1 ∧ (jI 0 0 16 5).1 < 4294967296 := by decide +kernel
theorem aBw : (kN (nQ gH) 0 uQ) = (0, zE) := by simp [kN, nQ, cL, zE]
theorem Ui : lH zE = some 0 := rfl
theorem aBy : qK gH zE := ⟨.inr rfl, fun x hx => by simp [zE, uQ] at hx; subst hx; exact Er.2.2.2.2, fun x hx => by simp [zE, nQ] at hx, by simp [zE, uQ], by simp [zE, nQ], mN Ny, mN Ny⟩
theorem aBz (x : aV) : fZ gH x zE 0 = (0, 0, 0) := by
 have h : dV gH uQ = (0, 0, 0) := by decide +kernel
 unfold fZ fT
 rw [show eS zE 0 = uQ from rfl, h]
 rfl
theorem Uh (x : aV) : gN gH x zE = ({ zE with last := 0, h0 := 2, w0 := [(jI 0 0 16 5).1, 0, 131072] }, false) := by
 unfold gN
 rw [Ui]
 dsimp only
 unfold rR
 dsimp only
 rw [aBz]
 have hm : iE gH x uQ = [131072] := by
  unfold iE
  dsimp only
  rw [if_pos (show bT (uQ.headD 0) 0 8 = 0 from Er.2.2.2.1)]
 have hw : IntKind.u32.wrap 0 = 0 := by decide +kernel
 simp [gQ, kJ, kB, eS, zE, hm, hw]
 rfl
theorem aBx : mK (eS zE 0) := ⟨⟨_, _, rfl, Er.2.1, fun h => by
 obtain ⟨_, _, h3, h4, _⟩ := Er
 rw [h3, h4] at h
 omega⟩⟩
end
section
section
variable {P : Program} {N : cJ} {w0 : World} {e : Env} {R : List Piece} {H : List HP} {Q : Exit → Act → World → Prop} {ops : Array Oper} {rest : List Oper}
variable {d : Nat} {ty : TypeId} {pos : String} {aJ : Array Edge}
theorem wX {α : Type} (i : Nat) {f : FuncId} {x : Operand} {args : List Operand} {fi ca vs : List Value} {tys : Array TypeId} {p : HP} (v : α → Value) (q : α → HP) (G : α → Prop) (hf : eY P f = true) (hx : e.ev x = some (.func (.func f) fi.toArray ca.toArray)) (ha : e.cU args = some vs) (hi : H[i]? = some p) (hd : d < N.n)
  (hc : ∀ w F, St w0 R H w → p.sat F w → (∀ b, F b → b < w.heap.size) → (∀ q ∈ R, q.Le ⟨w, fun b => b < w.heap.size ∧ ¬ F b⟩) → Calls P f (fi ++ vs ++ ca).toArray w fun y w' => ∃ a, y = .returned (v a) ∧ G a ∧ ∃ F', (q a).sat F' w' ∧ bX w w' F F')
  (k : ∀ a, G a → XK N w0 (wpList P ops Q rest) ((d, v a) :: e) R (H.set i (q a))) : XK N w0 (wpList P ops Q (⟨some d, .call { callee := .value x, args := args.toArray, argTypes := tys }, ty, pos, aJ, none⟩ :: rest)) e R H := fun a w hr st => wpList_plain rfl fun K hK => by
 unfold eY at hf
 cases hq : P.funcs[f]? with
 | none => simp [hq] at hf
 | some fn =>
  simp [hq] at hf
  obtain ⟨eR, fM⟩ := hf
  have hrun : (execOp a.eval (⟨some d, .call { callee := .value x, args := args.toArray, argTypes := tys }, ty, pos, aJ, none⟩ : Oper)).run P w = .ok (.enter f (fi ++ vs ++ ca).toArray) w := by
   cases hb : fn.body with
   | none => simp [hb] at fM
   | some c => simp [execOp, resolve, hr.ev hx, Deferred.ofValue, invoke, callFunc, hq, eR, hb, hr.cU ha]
  obtain ⟨F, hp, hlt, hle, jT⟩ := st.chunk hi
  unfold Oper.wp
  rw [hrun]
  refine (hc w F st hp hlt hle).mono fun y w' hy => ?_
  obtain ⟨a', rfl, hG, F', hs, ht⟩ := hy
  exact hK _ _ (k a' hG _ _ (hr.put hd (v a')) (jT w' F' (q a') hs ht))
end
end
section
set_option maxHeartbeats 4000000
set_option maxRecDepth 20000
theorem aCh (w : World) : Calls Tryz.prog 13 #[] w (Rt (.bool true) w) := by
 refine XK.enter (vs := []) Tryz.func13 rfl Tryz.ntmps13 (by simp) ?_
 refine XK.go ?_
 refine cD (cs := [.slice none 0 0, .slice none 0 0, .slice none 0 0, .slice none 0 0]) (aM (by kernel_rfl)) (by decide) fun g1 => ?_
 refine XK.go ?_
 refine dU (f := 15) (fi := []) (ca := []) (by kernel_rfl) rfl rfl (by decide) (Tr gH) (fun w1 t => Zn gH Iu none none none none 0 0 0 0 0 0 0 0 w1 (Vj w1)) ?_
 rintro _ _ q1 ⟨hL, rfl, rfl, jL, Fz⟩ _
 dsimp only [List.cons_append, List.nil_append]
 refine XK.go ?_
 refine dU (f := 16) (fi := []) (ca := []) (by kernel_rfl) rfl rfl (by decide) (Tt hL.h gH) (fun w1 t => aAm hL.h gH Iu none none none none 0 0 0 0 0 0 0 0 w1 (Vj w1)) ?_
 rintro _ _ q2 ⟨f, rfl, rfl⟩ _
 dsimp only [List.cons_append, List.nil_append]
 refine XK.go ?_
 refine dJ (zs := [.int .i64 0, .int .i64 0, .int .i64 0, .int .i64 0]) (L := [(0, 1), (1, 1), (2, 1), (3, 1)]) (aM (by kernel_rfl)) (by kernel_rfl) rfl (by simp [aS, aT, Value.cells]; rfl) (by decide) ?_
 refine jX [] (f := 18) (fi := []) (ca := []) (by kernel_rfl) rfl rfl (by decide) (by simp) (aBk ((jI 0 0 16 5).1 :: [])) (fun w1 t => aGt 0 0 16 5 none 0 0 [] w1 (aI.nil _ _) rfl (by omega) Er.1) ?_
 rintro _ w1 q3 ⟨Al, cl, rfl, hl⟩ hf _ _
 have hl := hl.le hf
 clear hf
 refine XK.weak [0, 1] rfl (by decide) (R' := [q3, all w]) (by simp) ?_
 refine XK.go ?_
 refine iL 0 (mL f hL.h gH zE) (fun w1 F1 t h1 h2 h3 => by
  have := Sd f hL.h gH (nQ gH) 0 Al _ cl uQ w1 F1 h1 h2 (hl.le (h3 _ (by simp))) rfl (by decide)
  rw [aBw] at this
  exact this) ?_
 dsimp only [List.set]
 refine XK.go ?_
 refine XK.pair ?_
 refine iL 0 (cO f hL gH (gN gH (hw0 gH) zE).1 (hw0 gH)) (fun w1 F1 t h1 h2 h3 => aAh f hL gH zE (hw0 gH) Iu ⟨jL, Fz⟩ (Py Iu) aBy (fun a ha _ _ => by cases ha.symm.trans Ui; exact aBx) (by decide) (by rw [Uh]) w1 F1 h1 h2) ?_
 dsimp only [List.set]
 rw [Uh]
 refine XK.go ?_
 refine XK.take 0 0 rfl rfl ?_
 dsimp only [List.set]
 refine wX (α := AC) 0 (f := 21) (fi := []) (ca := []) (fun c => .tuple #[.slice c.1 3 c.2, .bool true]) (fun c => tF f hL.h gH { zE with last := 0, h0 := 0, w0 := [] } [(jI 0 0 16 5).1, 0, 131072] c) (fun _ => True) (by kernel_rfl) rfl rfl rfl (by decide) (fun w1 F1 t h1 h2 h3 => Gt f hL.h gH { zE with last := 0, h0 := 2, w0 := [(jI 0 0 16 5).1, 0, 131072] } 0 w1 F1 h1 h2) ?_
 rintro ⟨Ar, cr⟩ _
 dsimp only [List.set]
 refine XK.take 0 1 rfl rfl ?_
 dsimp only [List.set]
 refine XK.still [] [0] [] (by simp) rfl (by decide) (by decide) fun q hq _ hfr => ?_
 obtain ⟨F2, kH, kE⟩ := hq 0 _ (by simp) rfl
 have hr : bQ (Ar, cr) [(jI 0 0 16 5).1, 0, 131072] q := bQ.le ⟨q.w, F2⟩ q (fun b hb => ⟨kE b hb, rfl⟩) kH
 unfold uQ at hl
 generalize (jI 0 0 16 5).1 = hd at hr hl ⊢
 obtain ⟨b, off, rfl, hb, hc⟩ := hr.2 (by simp)
 obtain ⟨lb, lo, rfl, hlb, hlc⟩ := hl.2 (by simp)
 have r0 : Rd w [q, q3, all w] [] b off (.int .u32 hd) := Rd.ro (p := q) (by simp) hb (hc 0 _ rfl)
 have r1 : Rd w [q, q3, all w] [] b (off + 1) (.int .u32 0) := Rd.ro (p := q) (by simp) hb (hc 1 _ rfl)
 have r2 : Rd w [q, q3, all w] [] b (off + 2) (.int .u32 131072) := Rd.ro (p := q) (by simp) hb (hc 2 _ rfl)
 have l0 : Rd w [q, q3, all w] [] lb lo (.int .u32 hd) := Rd.ro (p := q3) (by simp) hlb (hlc 0 _ rfl)
 refine XK.go ?_
 refine XK.jD ?_
 refine XQ.go ?_
 refine XQ.kd (dat 0 off) ?_
 refine XQ.go ?_
 refine XQ.kd (dat 0 lo (hlt := by simp)) ?_
 refine XQ.go ?_
 refine XQ.split 65 rfl (fun _ => ?_) (fun h => absurd rfl h)
 refine XQ.go ?_
 refine XQ.kd (dat 1 (off + 1)) ?_
 refine XQ.go ?_
 refine XQ.kd (dat 2 (off + 2)) ?_
 refine XQ.end_ ?_
 refine XK.go ?_
 exact XK.bP (by simp) rfl
end
end Go.Proofs.YticjkhagldkejaaGreatDoor
