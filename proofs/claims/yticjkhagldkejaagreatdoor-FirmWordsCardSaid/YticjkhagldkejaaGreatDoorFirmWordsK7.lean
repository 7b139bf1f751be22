/- One message, at the beginning: what the law's rounds see. No walk in sight. -/
import Derived.Test.YticjkhagldkejaaGreatDoorFirmWordsK6
namespace Go.Proofs.YticjkhagldkejaaGreatDoor
set_option linter.all false
open Go.RowKit
section
def yE (s : aD) (b : Nat) (tk : Bool) : Nat → Option (List Int) → bH → aV → Option (List Int) → bH → aV → Prop
 | 0, g, z, x, g', z', x' => g' = g ∧ z' = z ∧ x' = x
 | n + 1, g, z, x, g', z', x' => Ia s x z ∧ eP (fU s x z).1 (1 - (b : Int)) = none ∧ (eP (fU s x z).1 b = none ∨ g = none) ∧ (tk = true → cH s (fU s x z).2 ∧ ∀ i, fP (fU s x z).2.wt i = 0) ∧
   yE s b tk n ((eP (fU s x z).1 b).or g) (eN (fU s x z).1 b) (if tk then iZ s (fU s x z).2 0 else (fU s x z).2) g' z' x'
structure Idle (s : aD) (z : bH) : Prop where
 fm : qK s z
 at_ : z.at_ = -1
 h0 : z.h0 = 0
 h1 : z.h1 = 0
section
variable {s : aD} {x : aV} {z : bH} {b : Nat} {m : List Int} {k id : Int}
theorem Idle.next (h : Idle s z) : lH z = none := by
 have h2 : ∀ a, tU z a = 0 := fun a => by
  unfold tU
  split
  ·exact h.h0
  ·exact h.h1
 unfold lH
 rw [h2, h2]
 rfl
theorem Idle.step (h : Idle s z) (hok : cH s x) : Ia s x z ∧ fU s x z = (z, x) := by
 have iF : z.at_ < 0 := by rw [h.at_]; decide
 refine ⟨⟨hok, h.fm, .inl iF, fun _ a ha => ?_, fun _ a ha => ?_⟩, ?_⟩
 ·rw [h.next] at ha; cases ha
 ·rw [h.next] at ha; cases ha
 ·unfold fU gN
  rw [h.next]
  dsimp only
  rw [if_pos ⟨iF, rfl⟩]
theorem Idle.eP (h : Idle s z) (a : Int) : eP z a = none := by
 unfold Go.Proofs.YticjkhagldkejaaGreatDoor.eP
 rw [h.h0, h.h1]
 simp
theorem Idle.eN (h : Idle s z) (a : Int) : eN z a = z := by
 unfold Go.Proofs.YticjkhagldkejaaGreatDoor.eN
 rw [h.h0, h.h1]
 simp
theorem Jr (hm : s.made) (h : Idle s z) : ∀ (n : Nat) (tk : Bool) (g : Option (List Int)) (x : aV), cH s x → (∀ i, fP x.wt i = 0) → ∃ x', yE s b tk n g z x g z x' ∧ (tk = false → x' = x)
 | 0, _, g, x, _, _ => ⟨x, ⟨rfl, rfl, rfl⟩, fun _ => rfl⟩
 | n + 1, tk, g, x, hok, mA => by
  obtain ⟨h1, h2⟩ := h.step hok
  cases tk
  ·obtain ⟨x', h3, h4⟩ := Jr hm h n false g x hok mA
   refine ⟨x', ⟨h1, ?_⟩, h4⟩
   rw [h2]
   dsimp only
   rw [h.eP, h.eP, h.eN]
   exact ⟨rfl, .inl rfl, (fun h => by cases h), h3⟩
  ·obtain ⟨x', h3, h4⟩ := Jr hm h n true g (iZ s x 0) (Is hm.cK hok 0) mA
   refine ⟨x', ⟨h1, ?_⟩, fun h => by cases h⟩
   rw [h2]
   dsimp only
   rw [h.eP, h.eP, h.eN]
   exact ⟨rfl, .inl rfl, fun _ => ⟨hok, mA⟩, h3⟩
theorem Zx (hm : s.made) {c : Nat} {ck : cZ} (hc : s.aB[c]? = some ck) (mU : gO s c) :
  ∀ (n : Nat) (x : aV) (y : cR), cH s x → (∀ i, fP x.wt i = 0) → x.ck[c]? = some y → y.left.toNat < n → ∃ x', uG s 99 c n x x' ∧ cH s x' ∧ ∀ i, fP x'.wt i = 0
 | 0, _, _, _, _, _, h => absurd h (by omega)
 | n + 1, x, y, hok, mA, hy, tK => by
  have hlt := (List.getElem?_eq_some_iff.1 hc).1
  have Fy := (List.getElem?_eq_some_iff.1 hy).1
  have hl := hok.ck.left y (List.mem_of_getElem? hy)
  have Qu : ck.kind = 112 ∨ ck.kind = 103 := by rw [← Fa hc]; exact mU
  obtain ⟨f, fs, hs, hf⟩ := Vg hm hc mU
  have fX := Hq hm.aB hc
  rw [hs] at fX
  dsimp only at fX
  rw [Int.toNat_natCast] at fX
  have oN : (iR s x.ck c true).2 = x.ck.set c ⟨true, y.left⟩ := by
   unfold iR
   rw [show cL s.aB.length (c : Int) = true from decide_eq_true (by omega)]
   simp only [Bool.true_eq_false, if_false, Int.toNat_natCast, hc, hy]
   rw [if_neg (by omega)]
   simp [Bt]
  have qB : cH s { x with ck := x.ck.set c ⟨true, y.left⟩ } := by
   have := On hm.cK hok.ck (c : Int) true
   rw [oN] at this
   exact ⟨this, hok.dm, hok.ln, hok.dv, hok.each, hok.wt⟩
  have xK : (x.ck.set c ⟨true, y.left⟩)[c]? = some ⟨true, y.left⟩ := List.getElem?_set_self Fy
  obtain ⟨cf, Cf⟩ := get_some (l := s.aB) (i := f) (by omega)
  have Zg := Hq hm.aB Cf
  have Kq : lE s (x.ck.set c ⟨true, y.left⟩) (f : Int) = runs s (x.ck.set c ⟨true, y.left⟩) f := by
   unfold lE
   rw [show cL s.aB.length (f : Int) = true from decide_eq_true (by omega), Int.toNat_natCast]
   simp
  have hrc : lE s (x.ck.set c ⟨true, y.left⟩) c = (mR ck ⟨true, y.left⟩ && runs s (x.ck.set c ⟨true, y.left⟩) f) := by
   unfold lE
   rw [show cL s.aB.length (c : Int) = true from decide_eq_true (by omega), Int.toNat_natCast, Vn hm.aB hc xK, hs]
   dsimp only
   rw [Int.toNat_natCast]
   simp
  have hact : mI s x 99 c = yA s x c := rfl
  cases qU : runs s (x.ck.set c ⟨true, y.left⟩) f
  ·refine ⟨_, Jk hok ?_, qB, mA⟩
   rw [qU] at Kq
   rw [hact, yA, oN, fX, Zg]
   simp [Kq]
  ·rw [qU] at Kq hrc
   rw [Bool.and_true] at hrc
   by_cases oJ : mR ck ⟨true, y.left⟩ = true
   ·refine ⟨_, Jk hok ?_, qB, mA⟩
    rw [hact, yA, oN, hrc, oJ]
    rfl
   ·have aFf : ck.kind = 112 ∧ y.left ≠ 0 := by
     unfold mR at oJ
     rcases Qu with h | h
     ·rw [if_pos h] at oJ
      exact ⟨h, by simpa using oJ⟩
     ·rw [if_neg (by omega), if_pos h] at oJ
      exact absurd rfl oJ
    have aEw : mR ck ⟨true, y.left⟩ = false := by simpa using oJ
    have zZ : mI s x 99 c = ({ x with ck := x.ck.set c ⟨true, y.left⟩ }, false) := by
     rw [hact, yA, oN, hrc, aEw, fX, Zg]
     simp [Kq]
    have rZ : Bm ck = f := by
     unfold Bm
     rw [hs]
     simp
    have hy3 : (iZ s { x with ck := x.ck.set c ⟨true, y.left⟩ } 0).ck[c]? = some ⟨true, y.left - 1⟩ := by
     show (gE s (x.ck.set c ⟨true, y.left⟩))[c]? = _
     rw [aCb hc xK]
     unfold nY
     rw [if_pos ⟨aFf.1, rfl⟩, rZ, qU, if_neg (by simp), if_pos (by show 0 < y.left; omega)]
    obtain ⟨x', h1, h2⟩ := Zx hm hc mU n _ _ (Is hm.cK qB 0) mA hy3 (by dsimp only; omega)
    exact ⟨x', Jj hok zZ qB mA h1, h2⟩
def Be (s : aD) (k id : Int) : Prop := (k = 117 ∧ ∃ (d : Nat) (c : Dom), id = d ∧ s.domains[d]? = some c ∧ c.above = -1) ∨ (k = 99 ∧ ∃ (c : Nat) (ck : cZ), id = c ∧ s.aB[c]? = some ck ∧ gO s c) ∨ (k = 114 ∧ ∃ r : Nat, id = r ∧ r < s.aU.length)
theorem Be.kind (h : Be s k id) : Dh s k id := by
 rcases h with ⟨rfl, _⟩ | ⟨rfl, c, ck, rfl, hc, _⟩ | ⟨rfl, _⟩
 ·exact ⟨.inl rfl, fun h => absurd h (by decide)⟩
 ·have hlt := (List.getElem?_eq_some_iff.1 hc).1
  exact ⟨.inr (.inl rfl), fun _ => ⟨by omega, by omega⟩⟩
 ·exact ⟨.inr (.inr rfl), fun h => absurd h (by decide)⟩
theorem Be.ne (h : Be s k id) : k ≠ 0 := by
 rcases h with ⟨rfl, _⟩ | ⟨rfl, _⟩ | ⟨rfl, _⟩ <;> decide
theorem Be.go (hm : s.made) (h : Be s k id) : ∃ x', uG s k id 9 (hw0 s) x' ∧ cH s x' ∧ ∀ i, fP x'.wt i = 0 := by
 have hi := Xm hm
 have h0 : ∀ (n i : Nat), hasB (List.replicate n false) i = false := fun n i => by
  rw [Li, List.getElem?_replicate]
  split <;> rfl
 rcases h with ⟨rfl, d, c, rfl, hc, hab⟩ | ⟨rfl, c, ck, rfl, hc, mU⟩ | ⟨rfl, r, rfl, hr⟩
 ·obtain ⟨x', h1, h2⟩ := aFg hm hi hc (.inl hab) (h0 _ _)
  exact ⟨x', h1, h2.ok, h2.wt⟩
 ·have hlt := (List.getElem?_eq_some_iff.1 hc).1
  obtain ⟨y, hy⟩ := get_some (l := (hw0 s).ck) (i := c) (by have := hi.ok.ck.len; omega)
  have hyl := hi.ok.ck.left y (List.mem_of_getElem? hy)
  exact Zx hm hc mU 9 _ y hi.ok hi.wt hy (by omega)
 ·obtain ⟨x', h1, h2⟩ := aFh hm hi hr (h0 _ _)
  exact ⟨x', h1, h2.ok, h2.wt⟩
theorem Wb (hu : fO m) (h : (dV s m).1 = 0) : mK m := by
 cases m with
 | nil => exact absurd h (by show ¬ ((-10 : Int) = 0); decide)
 | cons w r =>
  unfold dV at h
  dsimp only at h
  split at h
  ·exact absurd h (by decide)
  ·rename_i h1
   split at h
   ·exact absurd h (by decide)
   ·split at h
    ·exact absurd h (by decide)
    ·rename_i h3
     have hz : bT w 28 4 = 0 := by
      refine Classical.byContradiction fun hc => h1 (.inl ?_)
      unfold qP
      rw [if_pos hc]
      decide
     refine ⟨⟨w, r, rfl, hz, fun hh => ?_⟩⟩
     have hp : cB w = bT w 10 8 := by rw [cB, if_neg (by simp [hz])]
     have hmm : cI w = bT w 0 8 := by rw [cI, if_neg (by simp [hz])]
     have hn : (cQ (cB w) (cI w)).n = 1 := by
      rw [hp, hmm]
      rcases hh with ⟨a, b⟩ | ⟨a, b⟩ <;> rw [a, b] <;> rfl
     rw [hn] at h3
     have h4 : r.length = 1 := by omega
     obtain ⟨i, rfl⟩ := List.length_eq_one_iff.1 h4
     exact ⟨i, rfl, hu i (by simp)⟩
theorem aCL : -10 ≤ (dV s m).1 ∧ (dV s m).1 ≤ 0 := by
 unfold dV wQ
 repeat' split
 all_goals first | exact ⟨by decide, by decide⟩ | exact ⟨by show -10 ≤ (0 : Int); decide, by show (0 : Int) ≤ 0; decide⟩
theorem aGs (hu : fO m) (b : Nat) : (∀ wt, fT s (bG s) (bG s) wt b m = fT s (bG s) (bG s) [] b m) ∧
  (((fT s (bG s) (bG s) [] b m).2.1 = 0 ∧ -10 ≤ (fT s (bG s) (bG s) [] b m).1 ∧ (fT s (bG s) (bG s) [] b m).1 ≤ 0 ∧ ((fT s (bG s) (bG s) [] b m).1 = 0 → mK m)) ∨
   ((fT s (bG s) (bG s) [] b m).1 = 0 ∧ mK m ∧ Be s (fT s (bG s) (bG s) [] b m).2.1 (fT s (bG s) (bG s) [] b m).2.2)) := by
 have Xw : ∀ k id, kF (if b = 0 then bG s else bG s) k id = false := fun k id => by split <;> exact Ur _ _ _
 have hst := aCL (s := s) (m := m)
 rcases Wc (s := s) hu with ⟨h0, _⟩ | ⟨h1, hk, Qy, zL, _, mU⟩
 ·have hd : ∀ wt, fT s (bG s) (bG s) wt b m = ((dV s m).1, 0, 0) := fun wt => by
   unfold fT
   rw [if_pos (.inr (.inl h0))]
  refine ⟨fun wt => by rw [hd, hd], .inl ?_⟩
  rw [hd]
  exact ⟨rfl, hst.1, hst.2, Wb hu⟩
 ·have kV := Wb hu h1
  generalize hr : dV s m = r at h1 hk Qy zL mU
  obtain ⟨st, k, id⟩ := r
  dsimp only at h1 hk Qy zL mU
  subst h1
  by_cases ho : fJ k
  ·have xM : k ≠ 0 := by rcases ho with rfl | rfl | rfl <;> decide
   have hd := fun wt => aGq (x := bG s) (y := bG s) (wt := wt) (ag := b) hr ho xM (Xw k id)
   refine ⟨fun wt => by rw [hd, hd], ?_⟩
   rw [hd]
   split
   ·exact .inl ⟨rfl, by decide, by decide, fun h => absurd h (by decide)⟩
   ·rename_i hn
    refine .inr ⟨rfl, kV, ?_⟩
    obtain ⟨i, rfl⟩ : ∃ i : Nat, id = i := ⟨id.toNat, by omega⟩
    rcases ho with rfl | rfl | rfl
    ·have hlt : i < s.domains.length := by simpa [oH, vV] using zL
     obtain ⟨c, hc⟩ := get_some hlt
     refine .inl ⟨rfl, i, c, rfl, hc, ?_⟩
     refine Classical.byContradiction fun hab => hn ⟨rfl, ?_⟩
     rw [Int.toNat_natCast, hc]
     simp [hab, lW, Ur]
    ·have hlt : i < s.aB.length := by simpa [oH, vV] using zL
     obtain ⟨c, hc⟩ := get_some hlt
     exact .inr (.inl ⟨rfl, i, c, rfl, hc, mU rfl⟩)
    ·have hlt : i < s.aU.length := by simpa [oH, vV] using zL
     exact .inr (.inr ⟨rfl, i, rfl, hlt⟩)
  ·have hd := fun wt => aGp (x := bG s) (y := bG s) (wt := wt) (ag := b) hr (by rw [Xw]; exact (decide_eq_false ho).symm)
   refine ⟨fun wt => by rw [hd, hd], .inl ?_⟩
   rw [hd]
   exact ⟨rfl, by decide, by decide, fun _ => kV⟩
end
end
section
def zW (s : aD) (b : Nat) (m : List Int) (k id : Int) : bH := { zQ s 1 b m with last := b, x := cG (bG s) b k id, y := cF (bG s) b k id, at_ := b, kind := k, id := id }
def wV (s : aD) (b : Nat) (k id : Int) : bH := { zA s b with x := cG (bG s) b k id, y := cF (bG s) b k id, kind := k, id := id }
section
variable {s : aD} {x : aV} {b : Nat} {m : List Int} {k id : Int}
theorem aBq (hm : s.made) (hb : b < 2) (hu : fO m) (hn : m.length ≤ 1000000) : qK s (zW s b m k id) := by
 have h := Mw (l := 1) (b := b) hm.iS (.inr rfl) hu hn
 exact ⟨by show (b : Int) = 0 ∨ (b : Int) = 1; omega, h.u0, h.u1, h.n0, h.n1, aA0 (mN hm.iS) _ _ _, aAz (mN hm.iS) _ _ _⟩
theorem aB0 (hm : s.made) (hb : b < 2) : Idle s (wV s b k id) :=
 ⟨⟨by show (b : Int) = 0 ∨ (b : Int) = 1; omega, by simp [wV, zA, fO], by simp [wV, zA, fO], by simp [wV, zA], by simp [wV, zA], aA0 (mN hm.iS) _ _ _, aAz (mN hm.iS) _ _ _⟩, rfl, rfl, rfl⟩
theorem aB1 (hm : s.made) (hb : b < 2) : Idle s (zA s b) :=
 ⟨⟨by show (b : Int) = 0 ∨ (b : Int) = 1; omega, by simp [zA, fO], by simp [zA, fO], by simp [zA], by simp [zA], mN hm.iS, mN hm.iS⟩, rfl, rfl, rfl⟩
theorem Mv (hb : b < 2) : fU s x (zW s b m k id) = (rF s (zW s b m k id) (mI s x k id), (mI s x k id).1) := by
 have h0 : ¬ (zW s b m k id).at_ < 0 := by show ¬ (b : Int) < 0; omega
 unfold fU
 dsimp only
 rw [if_neg (fun h => h0 h.1), if_neg h0]
 rfl
theorem aBp (hb : b < 2) : eP (zW s b m k id) (1 - (b : Int)) = none ∧ eP (zW s b m k id) b = none ∧ eN (zW s b m k id) b = zW s b m k id := by
 obtain rfl | rfl : b = 0 ∨ b = 1 := by omega
 ·exact ⟨rfl, rfl, rfl⟩
 ·exact ⟨rfl, rfl, rfl⟩
theorem aBr (hb : b < 2) (x' : aV) : eP (rF s (zW s b m k id) (x', true)) (1 - (b : Int)) = none ∧ eP (rF s (zW s b m k id) (x', true)) b = some (kB s x' m 0) ∧ eN (rF s (zW s b m k id) (x', true)) b = wV s b k id := by
 obtain rfl | rfl : b = 0 ∨ b = 1 := by omega
 ·exact ⟨rfl, rfl, rfl⟩
 ·exact ⟨rfl, rfl, rfl⟩
theorem Wh (hm : s.made) (hb : b < 2) (hu : fO m) (hn : m.length ≤ 1000000) (kV : mK m) (hk : Dh s k id) : ∀ (r n : Nat) (x x' : aV), uG s k id r x x' → cH s x' → (∀ i, fP x'.wt i = 0) → r ≤ n → ∃ x2, yE s b true n none (zW s b m k id) x (some (kB s x' m 0)) (wV s b k id) x2
 | 0, _, _, _, h, _, _, _ => h.elim
 | r + 1, 0, _, _, _, _, _, h => absurd h (by omega)
 | r + 1, n + 1, x, x', ⟨hok, hc⟩, tJ, Fk, hle => by
  have aEV : eS (zW s b m k id) b = m := by
   obtain rfl | rfl : b = 0 ∨ b = 1 := by omega
   ·rfl
   ·rfl
  have h0 : ¬ (zW s b m k id).at_ < 0 := by show ¬ (b : Int) < 0; omega
  have uR : Ia s x (zW s b m k id) := ⟨hok, aBq hm hb hu hn, .inr ⟨b, rfl, hb, hk, by rw [aEV]; exact kV⟩, fun h => absurd h h0, fun h => absurd h h0⟩
  rcases hc with hr | ⟨x1, hr, Qs, aEt, h⟩
  ·obtain ⟨x2, h1, _⟩ := Jr (b := b) hm (aB0 (k := k) (id := id) hm hb) n true (some (kB s x' m 0)) (iZ s x' 0) (Is hm.cK tJ 0) Fk
   obtain ⟨e1, e2, e3⟩ := aBr (s := s) (m := m) (k := k) (id := id) hb x'
   refine ⟨x2, uR, ?_⟩
   rw [Mv hb, hr]
   dsimp only
   rw [e1, e2, e3]
   exact ⟨rfl, .inr rfl, (fun _ => ⟨tJ, Fk⟩), h1⟩
  ·obtain ⟨x2, h1⟩ := Wh hm hb hu hn kV hk r n _ x' h tJ Fk (by omega)
   obtain ⟨e1, e2, e3⟩ := aBp (s := s) (m := m) (k := k) (id := id) hb
   have he : rF s (zW s b m k id) (x1, false) = zW s b m k id := by
    unfold rF
    rw [if_neg (by simp)]
   refine ⟨x2, uR, ?_⟩
   rw [Mv hb, hr]
   dsimp only
   rw [he, e1, e2, e3]
   exact ⟨rfl, .inl rfl, (fun _ => ⟨Qs, aEt⟩), h1⟩
theorem aDg (hm : s.made) (hb : b < 2) (hu : fO m) (hn : m.length ≤ 1000000) (kV : mK m) (hk : Dh s k id) (xM : k ≠ 0) (hok : cH s x) (zT : ∀ wt, fT s (bG s) (bG s) wt b m = (0, k, id)) {n : Nat} {g : Option (List Int)} {z' : bH} {x' : aV} (h : yE s b true (n + 1) none (zW s b m k id) x g z' x') : yE s b true (n + 1) none (zQ s 1 b m) x g z' x' := by
 have qX := Uf (s := s) (m := m) (l := 1) (.inr rfl) hb
 obtain ⟨ex, ey, ea⟩ := Ue (s := s) (l := 1) (b := b) (m := m)
 have zX := Ug (s := s) (l := 1) (m := m) hb
 have hd : fZ s x (zQ s 1 b m) b = (0, k, id) := by
  unfold fZ
  rw [ex, ey, zX]
  exact zT _
 have kT : gN s x (zQ s 1 b m) = (zW s b m k id, true) := by
  unfold gN
  rw [qX]
  dsimp only
  unfold rR
  dsimp only
  rw [hd, if_neg xM, ex, ey]
  rfl
 have hst : fU s x (zQ s 1 b m) = fU s x (zW s b m k id) := by
  rw [Mv hb]
  unfold fU
  dsimp only
  rw [kT, ea, if_neg (by simp), if_pos (by decide)]
  rfl
 obtain ⟨_, h2⟩ := h
 rw [← hst] at h2
 refine ⟨⟨hok, Mw hm.iS (.inr rfl) hu hn, .inl (by rw [ea]; decide), fun _ a ha h0 => ?_, fun _ a ha h0 => ?_⟩, h2⟩
 ·rw [qX] at ha
  cases ha
  rw [hd] at h0
  exact absurd h0 xM
 ·rw [qX] at ha
  cases ha
  rw [hd, zX]
  exact ⟨hk, kV⟩
theorem aDf (hm : s.made) (hb : b < 2) (hu : fO m) (hn : m.length ≤ 1000000) {st : Int} (kV : st = 0 → mK m) (hok : cH s x) (mA : ∀ i, fP x.wt i = 0) {d : Int} (zT : ∀ wt, fT s (bG s) (bG s) wt b m = (st, 0, d)) (n : Nat) : yE s b false (n + 1) none (zQ s 1 b m) x (some (kB s x m st)) (zA s b) x := by
 have qX := Uf (s := s) (m := m) (l := 1) (.inr rfl) hb
 obtain ⟨ex, ey, ea⟩ := Ue (s := s) (l := 1) (b := b) (m := m)
 have zX := Ug (s := s) (l := 1) (m := m) hb
 have hd : fZ s x (zQ s 1 b m) b = (st, 0, d) := by
  unfold fZ
  rw [ex, ey, zX]
  exact zT _
 have kT : gN s x (zQ s 1 b m) = (kJ (zA s b) b 2 (kB s x m st), false) := by
  unfold gN
  rw [qX]
  dsimp only
  unfold rR
  dsimp only
  rw [hd, if_pos rfl]
  unfold gQ
  obtain rfl | rfl : b = 0 ∨ b = 1 := by omega
  ·rfl
  ·rfl
 have hst : fU s x (zQ s 1 b m) = (kJ (zA s b) b 2 (kB s x m st), x) := by
  unfold fU
  dsimp only
  rw [kT, ea, if_pos ⟨by decide, rfl⟩]
 obtain ⟨x2, h1, h2⟩ := Jr (b := b) hm (aB1 hm hb) n false (some (kB s x m st)) x hok mA
 cases h2 rfl
 refine ⟨⟨hok, Mw hm.iS (.inr rfl) hu hn, .inl (by rw [ea]; decide), fun _ a ha _ h0 => ?_, fun _ a ha h0 => ?_⟩, ?_⟩
 ·rw [qX] at ha
  cases ha
  rw [hd] at h0
  rw [zX]
  exact kV h0
 ·rw [qX] at ha
  cases ha
  rw [hd] at h0
  exact absurd rfl h0
 ·rw [hst]
  dsimp only
  rw [aBu hb, aBt hb, show eP (kJ (zA s b) b 2 (kB s x m st)) (1 - (b : Int)) = none by
   obtain rfl | rfl : b = 0 ∨ b = 1 := by omega
   ·rfl
   ·rfl]
  exact ⟨rfl, .inr rfl, (fun h => by cases h), h1⟩
theorem aDh (hm : s.made) (hb : b < 2) (hu : fO m) (hn : m.length ≤ 1000000) (d : Int × Int × Int) (hd : fT s (bG s) (bG s) [] b m = d) : -10 ≤ d.1 ∧ d.1 ≤ 0 ∧ ∃ a z' x', yE s b (decide (d.2.1 ≠ 0)) 120 none (zQ s 1 b m) (hw0 s) (some a) z' x' ∧ z'.at_ = -1 ∧ z'.h0 = 0 ∧ z'.h1 = 0 ∧ 2 ≤ a.length ∧ a[0]? = some (m.headD 0) ∧ a[1]? = some (IntKind.u32.wrap d.1) ∧ (d.2.1 = 0 → x' = hw0 s) := by
 have hi := Xm hm
 obtain ⟨Yy, hc⟩ := aGs (s := s) hu b
 rw [hd] at hc
 obtain ⟨st, k, id⟩ := d
 dsimp only at hc ⊢
 rcases hc with ⟨rfl, h1, h2, h3⟩ | ⟨rfl, h1, h2⟩
 ·refine ⟨h1, h2, kB s (hw0 s) m st, zA s b, hw0 s, aDf hm hb hu hn h3 hi.ok hi.wt (fun wt => (Yy wt).trans hd) 119, rfl, rfl, rfl, by simp [kB], rfl, rfl, fun _ => rfl⟩
 ·obtain ⟨x', hr, tJ, Fk⟩ := h2.go hm
  obtain ⟨x2, h3⟩ := Wh hm hb hu hn h1 h2.kind 9 120 (hw0 s) x' hr tJ Fk (by omega)
  refine ⟨by decide, by decide, kB s x' m 0, wV s b k id, x2, ?_, rfl, rfl, rfl, by simp [kB], rfl, rfl, fun h => absurd h h2.ne⟩
  rw [decide_eq_true h2.ne]
  exact aDg hm hb hu hn h1 h2.kind h2.ne hi.ok (fun wt => (Yy wt).trans hd) h3
end
end
section
set_option maxHeartbeats 4000000
set_option maxRecDepth 20000
theorem aAi (f h : Nat) (L : eE) (s : aD) (z : bH) (hx : z.x.sm) (hy : z.y.sm) (w : World) (kf : pH w f h L s z) :
  Calls Tryz.prog 33 #[.pointer (some ⟨f, 0, none⟩)] w (Ms (fun v w w' => iN (fresh w w') z.x z.y v) w) := by
 obtain ⟨h0, h1, h2⟩ := hx
 obtain ⟨h3, h4, h5⟩ := hy
 obtain ⟨s0, s1, s2, s3, s4, s5⟩ := kf.st
 have k6 : cX w f 5 [.slice L.x1.1 z.x.d.length L.x1.2, .slice L.x2.1 z.x.c.length L.x2.2, .slice L.x3.1 z.x.l.length L.x3.2, .slice L.y1.1 z.y.d.length L.y1.2, .slice L.y2.1 z.y.c.length L.y2.2, .slice L.y3.1 z.y.l.length L.y3.2] := ⟨kf.r0.1, fun j v hj => by
  have := kf.r0.2 (5 + j) v (Tc rfl hj)
  rwa [Nat.zero_add] at this⟩
 refine XK.enter (vs := [.pointer (some ⟨f, 0, none⟩)]) Tryz.func33 rfl Tryz.ntmps33 (by simp) ?_
 refine XK.go ?_
 refine cD (cs := [.slice none 0 0, .slice none 0 0, .slice none 0 0, .slice none 0 0, .slice none 0 0, .slice none 0 0]) (aM (by kernel_rfl)) (by decide) fun g1 => ?_
 refine XK.go ?_
 refine cD (cs := [.slice none 0 0, .slice none 0 0, .slice none 0 0, .slice none 0 0, .slice none 0 0, .slice none 0 0]) (aM (by kernel_rfl)) (by decide) fun g2 => ?_
 refine XK.go ?_
 refine XK.rounds 3 ?_
 refine XK.Bn ?_
 refine XK.go ?_
 refine Io 0 (len := 2) (n := 3) (by kernel_rfl) rfl rfl rfl (by decide) rfl (by decide) ?_
 refine cD (cs := [.slice none 0 0, .slice none 0 0, .slice none 0 0]) (aM (by kernel_rfl)) (by decide) fun g5 => ?_
 refine XK.go ?_
 refine XK.eJ [1, 2, 4, 5, 7, 8, 11] ?_
 refine XB.mv 0 ?_
 refine XB.q 1 ?_
 refine XB.q 2 ?_
 refine XB.q 4 ?_
 refine XB.q 5 ?_
 refine XB.q 7 ?_
 refine XB.q 8 ?_
 refine XB.q 11 ?_
 refine XB.next 3 rfl (by kernel_rfl) ?_
 refine dU (f := 100) (fi := []) (ca := []) (by kernel_rfl) rfl rfl (by decide) (rO z.x.d.length (bU z.x.d)) (fun w1 st => sM _ _ _ _ w1 (s0.le (st.le (by simp))) (sO _) (by have := h0; omega)) ?_
 rintro _ _ q0 ⟨B0, c0, rfl, rfl⟩ _
 dsimp only [List.cons_append, List.nil_append]
 refine XB.bk ?_ (hS := fun _ h => h.aP.tail)
 refine XB.next 6 rfl (by kernel_rfl) ?_
 refine dU (f := 100) (fi := []) (ca := []) (by kernel_rfl) rfl rfl (by decide) (rO z.x.c.length (bU z.x.c)) (fun w1 st => sM _ _ _ _ w1 (s1.le (st.le (by simp))) (sO _) (by have := h1; omega)) ?_
 rintro _ _ q1 ⟨B1, c1, rfl, rfl⟩ _
 dsimp only [List.cons_append, List.nil_append]
 refine XB.bk ?_ (hS := fun _ h => h.aP.aP.tail.tail)
 refine XB.next 9 rfl (by kernel_rfl) ?_
 refine dU (f := 100) (fi := []) (ca := []) (by kernel_rfl) rfl rfl (by decide) (rO z.x.l.length (bU z.x.l)) (fun w1 st => sM _ _ _ _ w1 (s2.le (st.le (by simp))) (sO _) (by have := h2; omega)) ?_
 rintro _ _ q2 ⟨B2, c2, rfl, rfl⟩ _
 dsimp only [List.cons_append, List.nil_append]
 refine XB.bk ?_ (hS := fun _ h => h.aP.aP.aP.tail.tail.tail)
 refine XB.next 10 rfl (by kernel_rfl) ?_
 refine dJ (zs := [.slice none 0 0, .slice none 0 0, .slice none 0 0]) (L := [(0, 1), (1, 1), (2, 1)]) (aM (by kernel_rfl)) (by kernel_rfl) rfl (by simp [aS, aT, Value.cells]; rfl) (by decide) ?_
 refine XB.bk ?_ (hS := fun _ h => h.aP.aP.aP.tail.tail.tail)
 refine XB.next 12 rfl (by kernel_rfl) ?_
 refine kd (eW (sz := 3) 0 0) ?_
 refine XB.bt ?_
 refine XB.next 13 rfl (by kernel_rfl) ?_
 refine eA rfl rfl ?_; simp only [bZ, Value.cells, List.set, List.take, List.drop, List.nil_append, List.append_nil, List.length_cons, List.length_nil, List.cons_append, Nat.reduceAdd]
 refine XB.bt ?_
 refine XB.done (by kernel_rfl) ?_
 refine XK.go ?_
 refine XK.weak [2, 1, 0, 4, 5] rfl (by decide) (R' := [all w]) (by simp) ?_
 refine XK.Bn ?_
 refine XK.go ?_
 refine Io 1 (len := 2) (n := 3) (by kernel_rfl) rfl rfl rfl (by decide) rfl (by decide) ?_
 refine cD (cs := [.slice none 0 0, .slice none 0 0, .slice none 0 0]) (aM (by kernel_rfl)) (by decide) fun g6 => ?_
 refine XK.go ?_
 refine XK.eJ [1, 2, 4, 5, 7, 8, 11] ?_
 refine XB.mv 0 ?_
 refine XB.q 1 ?_
 refine XB.q 2 ?_
 refine XB.q 4 ?_
 refine XB.q 5 ?_
 refine XB.q 7 ?_
 refine XB.q 8 ?_
 refine XB.q 11 ?_
 refine XB.next 3 rfl (by kernel_rfl) ?_
 refine dU (f := 100) (fi := []) (ca := []) (by kernel_rfl) rfl rfl (by decide) (rO z.y.d.length (bU z.y.d)) (fun w1 st => sM _ _ _ _ w1 (s3.le (st.le (by simp))) (sO _) (by have := h3; omega)) ?_
 rintro _ _ q3 ⟨B3, c3, rfl, rfl⟩ _
 dsimp only [List.cons_append, List.nil_append]
 refine XB.bk ?_ (hS := fun _ h => h.aP.tail)
 refine XB.next 6 rfl (by kernel_rfl) ?_
 refine dU (f := 100) (fi := []) (ca := []) (by kernel_rfl) rfl rfl (by decide) (rO z.y.c.length (bU z.y.c)) (fun w1 st => sM _ _ _ _ w1 (s4.le (st.le (by simp))) (sO _) (by have := h4; omega)) ?_
 rintro _ _ q4 ⟨B4, c4, rfl, rfl⟩ _
 dsimp only [List.cons_append, List.nil_append]
 refine XB.bk ?_ (hS := fun _ h => h.aP.aP.tail.tail)
 refine XB.next 9 rfl (by kernel_rfl) ?_
 refine dU (f := 100) (fi := []) (ca := []) (by kernel_rfl) rfl rfl (by decide) (rO z.y.l.length (bU z.y.l)) (fun w1 st => sM _ _ _ _ w1 (s5.le (st.le (by simp))) (sO _) (by have := h5; omega)) ?_
 rintro _ _ q5 ⟨B5, c5, rfl, rfl⟩ _
 dsimp only [List.cons_append, List.nil_append]
 refine XB.bk ?_ (hS := fun _ h => h.aP.aP.aP.tail.tail.tail)
 refine XB.next 10 rfl (by kernel_rfl) ?_
 refine dJ (zs := [.slice none 0 0, .slice none 0 0, .slice none 0 0]) (L := [(0, 1), (1, 1), (2, 1)]) (aM (by kernel_rfl)) (by kernel_rfl) rfl (by simp [aS, aT, Value.cells]; rfl) (by decide) ?_
 refine XB.bk ?_ (hS := fun _ h => h.aP.aP.aP.tail.tail.tail)
 refine XB.next 12 rfl (by kernel_rfl) ?_
 refine kd (eW (sz := 3) 1 3) ?_
 refine XB.bt ?_
 refine XB.next 13 rfl (by kernel_rfl) ?_
 refine eA rfl rfl ?_; simp only [bZ, Value.cells, List.set, List.take, List.drop, List.nil_append, List.append_nil, List.length_cons, List.length_nil, List.cons_append, Nat.reduceAdd]
 refine XB.bt ?_
 refine XB.done (by kernel_rfl) ?_
 refine XK.go ?_
 refine XK.weak [4, 5, 6, 2, 1, 0, 7, 8] rfl (by decide) (R' := [all w]) (by simp) ?_
 refine XK.Bn ?_
 refine XK.weak [6, 7, 0, 1, 2, 3, 4, 5] rfl (by decide) (fun _ h => h) ?_
 refine XK.go ?_
 refine XK.still [] [2, 3, 4, 5, 6, 7] [0, 1] (by simp) rfl (by decide) (by decide) fun q hq _ hfr => ?_
 obtain ⟨F0, Ei, Du⟩ := hq 2 _ (by simp) rfl
 have hs0 := aI.own (q := q) ⟨F0, Ei, Du⟩
 obtain ⟨F1, Eh, Dt⟩ := hq 3 _ (by simp) rfl
 have hs1 := aI.own (q := q) ⟨F1, Eh, Dt⟩
 obtain ⟨F2, kH, kE⟩ := hq 4 _ (by simp) rfl
 have eV := aI.own (q := q) ⟨F2, kH, kE⟩
 obtain ⟨F3, Eg, Ds⟩ := hq 5 _ (by simp) rfl
 have kL := aI.own (q := q) ⟨F3, Eg, Ds⟩
 obtain ⟨F4, Ef, Dr⟩ := hq 6 _ (by simp) rfl
 have lK := aI.own (q := q) ⟨F4, Ef, Dr⟩
 obtain ⟨F5, Ee, Dq⟩ := hq 7 _ (by simp) rfl
 have kU := aI.own (q := q) ⟨F5, Ee, Dq⟩
 refine XK.Bo rfl (n := 6) (vs := [.slice B0 z.x.d.length c0, .slice B1 z.x.c.length c1, .slice B2 z.x.l.length c2, .slice B3 z.y.d.length c3, .slice B4 z.y.c.length c4, .slice B5 z.y.l.length c5]) (by kernel_rfl) rfl rfl (aC.whole 1 rfl) fun w1 st => ⟨⟨_, rfl, ?_⟩, st.below (by simp)⟩
 have hle := st.kX (by simp) (hfr (by simp) (by simp))
 exact ⟨B0, c0, B1, c1, B2, c2, B3, c3, B4, c4, B5, c5, rfl, hs0.le hle, hs1.le hle, eV.le hle, kL.le hle, lK.le hle, kU.le hle⟩
end
section
set_option maxHeartbeats 4000000
set_option maxRecDepth 20000
theorem aEO (L : HL) (s : aD) (x : aV) (w : World) (i : Int) (hi : cL s.aG.length i = false) (hR : nD w L s x) : Calls Tryz.prog 30 #[.pointer (some ⟨L.h, 0, none⟩), .int .i64 i] w (Rt (.bool false) w) := by
 refine XK.enter (vs := [.pointer (some ⟨L.h, 0, none⟩), .int .i64 i]) Tryz.func30 rfl Tryz.ntmps30 (by simp) ?_
 refine XK.go ?_
 refine bB (fun w1 t => Gj L s x w1 i (hR.below (t.below (by simp)))) ?_
 rw [hi]
 refine XK.go ?_
 exact XK.bP (by simp) rfl
theorem aAe (f h : Nat) (L : eE) (s : aD) (z : bH) (w : World) (kf : pH w f h L s z) : Calls Tryz.prog 22 #[.pointer (some ⟨f, 0, none⟩)] w (Rt (.int .i64 z.at_) w) := by
 have k0 := kf.r0.at_ (j := 16) rfl
 refine XK.enter (vs := [.pointer (some ⟨f, 0, none⟩)]) Tryz.func22 rfl Tryz.ntmps22 (by simp) ?_
 refine XK.go ?_
 exact XK.bP (by simp) rfl
section
variable {s : aD}
theorem Xx (i : Int) : mT (hw0 s).dm i = 0 ∨ mT (hw0 s).dm i = 48 := by
 unfold mT hw0
 dsimp only
 split
 ·rw [List.getElem?_map]
  cases s.domains[i.toNat]?
  ·exact .inl rfl
  ·exact .inr rfl
 ·exact .inl rfl
theorem aEv (i : Nat) : Hw s (hw0 s) i = false := by
 unfold Hw
 split
 ·rw [decide_eq_false (by rcases Xx (s := s) (bN.domain ‹_›) with h | h <;> rw [h] <;> decide)]
  simp
 ·rfl
theorem Xy (i : Int) : sE (hw0 s).ln i = true := by
 unfold sE hw0
 dsimp only
 rw [List.getElem?_map]
 cases s.aU[i.toNat]?
 ·simp
 ·simp [lJ]
theorem Kl {i : Nat} (h : i < s.aG.length) : yQ (hw0 s) i = 114 := by
 obtain ⟨d, hd⟩ := get_some h
 unfold yQ hw0
 dsimp only
 rw [List.getElem?_map, hd]
 rfl
theorem aBv {l : Int} {b : Nat} {m : List Int} (hb : b < 2) : kN (zQ s l b m) b m = (7, zQ s l b m) := by
 obtain rfl | rfl : b = 0 ∨ b = 1 := by omega
 ·simp [kN, cL, zA, zQ, kJ]
 ·simp [kN, cL, zA, zQ, kJ]
theorem aCM {z : bH} {b : Nat} (hb : b < 2) (h : eP z (1 - (b : Int)) = none) : eP (eN z b) (1 - (b : Int)) = none ∧ eN (eN z b) (1 - (b : Int)) = eN z b := by
 obtain rfl | rfl : b = 0 ∨ b = 1 := by omega
 ·unfold eP at h
  simp at h
  unfold eP eN
  simp
  split <;> simp_all
 ·unfold eP at h
  simp at h
  unfold eP eN
  simp
  split <;> simp_all
theorem Uo {st : Int} (h1 : -10 ≤ st) (h2 : st ≤ 0) : IntKind.i32.wrap (IntKind.u32.wrap st) = st := by
 have : st = 0 ∨ st = -1 ∨ st = -2 ∨ st = -3 ∨ st = -4 ∨ st = -5 ∨ st = -6 ∨ st = -7 ∨ st = -8 ∨ st = -9 ∨ st = -10 := by omega
 rcases this with rfl | rfl | rfl | rfl | rfl | rfl | rfl | rfl | rfl | rfl | rfl <;> decide +kernel
end
end
section
set_option maxHeartbeats 4000000
set_option maxRecDepth 20000
theorem aFm (A : Option Addr) (n c : Nat) (zs : List Int) (Aw : Option Addr) (nw cw : Nat) (m : List Int) (pk : Int) (w : World) (h0 : aI (all w) 1 A n (aR zs)) (hz : Tq zs) (hn : n = zs.length) (hn2 : n ≤ 9223372036854775807) (hm0 : aI (all w) 1 Aw nw (iI m)) (tK : fO m) (Kx : nw = m.length) (aHl : nw ≤ 9223372036854775807) (hpk : -9223372036854775808 ≤ pk ∧ pk ≤ 9223372036854775807) (jW : pF (all w)) :
  Calls Tryz.prog 6 #[.slice A n c, .slice Aw nw cw, .int .i64 pk] w (Rt (.bool true) w) := by
 refine XK.enter (vs := [.slice A n c, .slice Aw nw cw, .int .i64 pk]) Tryz.func6 rfl Tryz.ntmps6 (by simp) ?_
 refine XK.go ?_
 refine bB (fun w1 t => aCh w1) ?_
 refine XK.go ?_
 refine jX [] (f := 14) (fi := []) (ca := []) (by kernel_rfl) rfl rfl (by decide) (by simp) (fun v w w' => ∃ cs s, v = .agg cs ∧ mJ (dR (fresh w w')) s cs ∧ s.made) (fun w1 st => aG8 A n c zs w1 (h0.le (st.le (by simp))) hz hn hn2) ?_
 rintro _ w1 q1 ⟨cs, s, rfl, hS, hm⟩ hf _ _
 obtain ⟨A1, n1, k1, A2, n2, k2, A3, n3, k3, A4, n4, k4, rfl, mY⟩ := (hS.mono (fV hf)).Q
 clear hf hS
 have hH := hm.cK
 have cS := Xh hm
 refine cD (cs := [.slice none 0 0, .slice none 0 0, .slice none 0 0, .slice none 0 0]) (aM (by kernel_rfl)) (by decide) fun g1 => ?_
 refine XK.go ?_
 refine dU (f := 15) (fi := []) (ca := []) (by kernel_rfl) rfl rfl (by decide) (Tr s) (fun w1 t => Zn s hH A1 A2 A3 A4 n1 k1 n2 k2 n3 k3 n4 k4 w1 (mY.W (t.le (by simp)) cS)) ?_
 rintro _ _ q2 ⟨hL, rfl, rfl, jL, Fz⟩ _
 dsimp only [List.cons_append, List.nil_append]
 refine XK.go ?_
 refine dU (f := 16) (fi := []) (ca := []) (by kernel_rfl) rfl rfl (by decide) (Tt hL.h s) (fun w1 t => aAm hL.h s hH A1 A2 A3 A4 n1 k1 n2 k2 n3 k3 n4 k4 w1 (mY.W (t.le (by simp)) cS)) ?_
 rintro _ _ q3 ⟨f, rfl, rfl⟩ _
 dsimp only [List.cons_append, List.nil_append]
 have aX : gZ hL s := ⟨jL, Fz⟩
 have mD := Py hH
 obtain ⟨rfl, rfl, rfl, rfl⟩ := mY.len
 have Zj := hm.nc
 have Zd := hm.nd
 have oM := hm.nr
 have Yb := hm.nv
 refine XK.go ?_
 refine XK.if_ rfl (fun hlt => ?_) (fun hge => ?_)
 ·refine XK.go ?_
  exact XK.bP (by simp) rfl
 have aHk : nw ≤ 300 := by omega
 refine XK.go ?_
 refine Ip (f := 17) (fi := []) (ca := []) (by kernel_rfl) rfl rfl (by decide) (fun v => ∃ r : Int, v = .int .i64 r ∧ 0 ≤ r ∧ r < 2) (fun w1 st => Wi pk 2 w1 hpk (by omega)) ?_
 rintro _ ⟨r, rfl, Ks, hr9⟩
 obtain ⟨b, rfl⟩ : ∃ n : Nat, r = (n : Int) := ⟨r.toNat, by omega⟩
 have hb : b < 2 := by omega
 generalize hd : fT s (bG s) (bG s) [] b m = d
 obtain ⟨st, k, id⟩ := d
 obtain ⟨hs1, eV, a, z', x', Kv, iF, e0, e1, uW, ga0, Zy, hx'⟩ := aDh hm hb tK (by omega) _ hd
 dsimp only at hs1 eV Kv Zy hx'
 subst Kx
 refine XK.go ?_
 refine XK.weak [0, 1, 2] rfl (by decide) (R' := [q1, all w]) (by simp) ?_
 refine XK.Cx (fun e R H => ∃ g : Nat, e = [(15, .pointer (some ⟨g, 0, none⟩)), (14, .int .i32 st), (13, .int .i64 (b : Int)), (11, .pointer (some ⟨f, 0, none⟩)), (9, .pointer (some ⟨hL.h, 0, none⟩)), (8, .pointer (some ⟨g1, 0, none⟩)), (1, .slice Aw m.length cw)] ∧ R = [q1, all w] ∧ H = [HP.aE g 63 [.int .u8 k, .int .i64 id], mL f hL.h s (nQ s), dG hL s (hw0 s), HP.aE g1 29 [.slice A1 s.aB.length k1, .slice A2 s.domains.length k2, .slice A3 s.aU.length k3, .slice A4 s.aG.length k4]]) ?_ ?_
 ·refine XK.oB 0 rfl fun L => ?_
  dsimp only [List.set]
  refine XK.eJ [0, 7, 8] ?_
  refine XB.mv 1 ?_
  refine XB.mv 3 ?_
  refine XB.mv 4 ?_
  refine XB.q 0 ?_
  refine XB.either 2 9 rfl rfl (by kernel_rfl) ?_ ?_
  ·refine jX [] (f := 33) (fi := []) (ca := []) (by kernel_rfl) rfl rfl (by decide) (by simp) (fun v w w' => iN (fresh w w') (bG s) (bG s) v) (fun w1 t => aAi f hL.h L s (nQ s) (mN hm.iS) (mN hm.iS) w1 (t.nR 0 rfl)) ?_
   rintro _ w4 q4 Rr Rc _ _
   obtain ⟨X1, j1, X2, j2, X3, j3, Y1, l1, Y2, l2, Y3, l3, rfl, c1, c2, c3, c4, c5, c6⟩ := iN.le Rr Rc
   refine XB.bk ?_ (hS := fun _ h => h.aP)
   refine XB.either 5 9 rfl rfl (by kernel_rfl) ?_ ?_
   ·refine bB (v := Df (st, k, id)) (fun w2 t => by
     have := Mh q1 q4 s A1 A2 A3 A4 _ k1 _ k2 _ k3 _ k4 X1 X2 X3 Y1 Y2 Y3 _ j1 _ j2 _ j3 _ l1 _ l2 _ l3 (bG s) (bG s) none 0 0 [] b Aw _ cw m w2 ⟨mY.gX, mY.dom, mY.nZ, mY.dev⟩ hH.t (t.le (by simp)) ⟨_, _, _, _, _, _, _, _, _, _, _, _, rfl, c1, c2, c3, c4, c5, c6⟩ (t.le (by simp)) (aI.nil _ _) rfl hb (hm0.le (t.le (by simp))) rfl (by omega) tK
     rw [hd] at this
     exact this) ?_
    refine XB.bk ?_ (hS := fun _ h => h.aP)
    refine XB.mv 6 ?_
    refine XB.q 7 ?_
    refine XB.q 8 ?_
    refine XB.next 9 rfl (by kernel_rfl) ?_
    refine cD (cs := [.int .u8 0, .int .i64 0]) (aM (by kernel_rfl)) (by decide) fun g7 => ?_
    refine XB.bk ?_ (hS := fun _ h => h.aP.tail)
    refine XB.next 10 rfl (by kernel_rfl) ?_
    refine bI ?_
    refine XB.bk ?_ (hS := fun _ h => h.aP.tail)
    refine XB.next 11 rfl (by kernel_rfl) ?_
    refine tI 0 rfl ?_
    dsimp only [List.set]
    refine XB.bt ?_
    refine XB.done (by kernel_rfl) ?_
    refine XK.norm ?_
    refine XK.lC 1 (f := fun L : eE => eF f hL.h L s (nQ s)) L rfl ?_
    dsimp only [List.set]
    refine XK.weak [0, 1, 2, 3] rfl (by decide) (R' := [q1, all w]) (by simp) ?_
    exact XK.aL [(15, .pointer (some ⟨g7, 0, none⟩)), (14, .int .i32 st), (13, .int .i64 (b : Int)), (11, .pointer (some ⟨f, 0, none⟩)), (9, .pointer (some ⟨hL.h, 0, none⟩)), (8, .pointer (some ⟨g1, 0, none⟩)), (1, .slice Aw m.length cw)] (XK.meet ⟨g7, rfl, rfl, rfl⟩)
   ·refine cD (cs := [.int .u8 0, .int .i64 0]) (aM (by kernel_rfl)) (by decide) fun g7 => ?_
    refine XB.bk ?_ (hS := fun _ h => h.aP.tail)
    refine XB.next 5 rfl (by kernel_rfl) ?_
    refine bB (v := Df (st, k, id)) (fun w2 t => by
     have := Mh q1 q4 s A1 A2 A3 A4 _ k1 _ k2 _ k3 _ k4 X1 X2 X3 Y1 Y2 Y3 _ j1 _ j2 _ j3 _ l1 _ l2 _ l3 (bG s) (bG s) none 0 0 [] b Aw _ cw m w2 ⟨mY.gX, mY.dom, mY.nZ, mY.dev⟩ hH.t (t.le (by simp)) ⟨_, _, _, _, _, _, _, _, _, _, _, _, rfl, c1, c2, c3, c4, c5, c6⟩ (t.le (by simp)) (aI.nil _ _) rfl hb (hm0.le (t.le (by simp))) rfl (by omega) tK
     rw [hd] at this
     exact this) ?_
    refine XB.bk ?_ (hS := fun _ h => h.aP.tail)
    refine XB.mv 6 ?_
    refine XB.q 7 ?_
    refine XB.q 8 ?_
    refine XB.next 10 rfl (by kernel_rfl) ?_
    refine bI ?_
    refine XB.bk ?_ (hS := fun _ h => h.aP.tail)
    refine XB.next 11 rfl (by kernel_rfl) ?_
    refine tI 0 rfl ?_
    dsimp only [List.set]
    refine XB.bt ?_
    refine XB.done (by kernel_rfl) ?_
    refine XK.norm ?_
    refine XK.lC 1 (f := fun L : eE => eF f hL.h L s (nQ s)) L rfl ?_
    dsimp only [List.set]
    refine XK.weak [0, 1, 2, 3] rfl (by decide) (R' := [q1, all w]) (by simp) ?_
    exact XK.aL [(15, .pointer (some ⟨g7, 0, none⟩)), (14, .int .i32 st), (13, .int .i64 (b : Int)), (11, .pointer (some ⟨f, 0, none⟩)), (9, .pointer (some ⟨hL.h, 0, none⟩)), (8, .pointer (some ⟨g1, 0, none⟩)), (1, .slice Aw m.length cw)] (XK.meet ⟨g7, rfl, rfl, rfl⟩)
  ·refine cD (cs := [.int .u8 0, .int .i64 0]) (aM (by kernel_rfl)) (by decide) fun g7 => ?_
   refine XB.bk ?_
   refine XB.next 2 rfl (by kernel_rfl) ?_
   refine jX [] (f := 33) (fi := []) (ca := []) (by kernel_rfl) rfl rfl (by decide) (by simp) (fun v w w' => iN (fresh w w') (bG s) (bG s) v) (fun w1 t => aAi f hL.h L s (nQ s) (mN hm.iS) (mN hm.iS) w1 (t.nR 1 rfl)) ?_
   rintro _ w4 q4 Rr Rc _ _
   obtain ⟨X1, j1, X2, j2, X3, j3, Y1, l1, Y2, l2, Y3, l3, rfl, c1, c2, c3, c4, c5, c6⟩ := iN.le Rr Rc
   refine XB.bk ?_ (hS := fun _ h => h.aP.tail)
   refine XB.next 5 rfl (by kernel_rfl) ?_
   refine bB (v := Df (st, k, id)) (fun w2 t => by
    have := Mh q1 q4 s A1 A2 A3 A4 _ k1 _ k2 _ k3 _ k4 X1 X2 X3 Y1 Y2 Y3 _ j1 _ j2 _ j3 _ l1 _ l2 _ l3 (bG s) (bG s) none 0 0 [] b Aw _ cw m w2 ⟨mY.gX, mY.dom, mY.nZ, mY.dev⟩ hH.t (t.le (by simp)) ⟨_, _, _, _, _, _, _, _, _, _, _, _, rfl, c1, c2, c3, c4, c5, c6⟩ (t.le (by simp)) (aI.nil _ _) rfl hb (hm0.le (t.le (by simp))) rfl (by omega) tK
    rw [hd] at this
    exact this) ?_
   refine XB.bk ?_ (hS := fun _ h => h.aP.tail)
   refine XB.mv 6 ?_
   refine XB.q 7 ?_
   refine XB.q 8 ?_
   refine XB.next 10 rfl (by kernel_rfl) ?_
   refine bI ?_
   refine XB.bk ?_ (hS := fun _ h => h.aP.tail)
   refine XB.next 11 rfl (by kernel_rfl) ?_
   refine tI 0 rfl ?_
   dsimp only [List.set]
   refine XB.bt ?_
   refine XB.done (by kernel_rfl) ?_
   refine XK.norm ?_
   refine XK.lC 1 (f := fun L : eE => eF f hL.h L s (nQ s)) L rfl ?_
   dsimp only [List.set]
   refine XK.weak [0, 1, 2, 3] rfl (by decide) (R' := [q1, all w]) (by simp) ?_
   exact XK.aL [(15, .pointer (some ⟨g7, 0, none⟩)), (14, .int .i32 st), (13, .int .i64 (b : Int)), (11, .pointer (some ⟨f, 0, none⟩)), (9, .pointer (some ⟨hL.h, 0, none⟩)), (8, .pointer (some ⟨g1, 0, none⟩)), (1, .slice Aw m.length cw)] (XK.meet ⟨g7, rfl, rfl, rfl⟩)
 rintro _ _ _ ⟨g, rfl, rfl, rfl⟩
 refine XK.go ?_
 refine iL 1 (mL f hL.h s (zQ s 1 b m)) (fun w1 F1 t h1 h2 h3 => by
  have := Sd f hL.h s (nQ s) b Aw _ cw m w1 F1 h1 h2 (hm0.le (h3 _ (by simp))) rfl (by omega)
  rw [show nQ s = zA s 1 from rfl, aBs hb] at this
  exact this) ?_
 dsimp only [List.set]
 refine XK.go ?_
 refine iL 1 (mL f hL.h s (zQ s 1 b m)) (fun w1 F1 t h1 h2 h3 => by
  have := Sd f hL.h s (zQ s 1 b m) b Aw _ cw m w1 F1 h1 h2 (hm0.le (h3 _ (by simp))) rfl (by omega)
  rw [aBv hb] at this
  exact this) ?_
 dsimp only [List.set]
 refine XK.go ?_
 refine XK.weak [1, 2, 0, 3] rfl (by decide) (fun _ h => h) ?_
 refine XK.pair ?_
 refine XK.uF (p := HP.dM (bQ (none, 0) []) (bQ.le (a := (none, 0)) (l := []))) (fun w1 => Lp _ rfl) ?_
 refine XK.weak [1, 0, 2, 3] rfl (by decide) (fun _ h => h) ?_
 change XK _ _ _ _ _ [cO f hL s (zQ s 1 b m) (hw0 s), HP.dM (bQ (none, 0) []) (bQ.le (a := (none, 0)) (l := [])), HP.aE g 63 [.int .u8 k, .int .i64 id], HP.aE g1 29 [.slice A1 s.aB.length k1, .slice A2 s.domains.length k2, .slice A3 s.aU.length k3, .slice A4 s.aG.length k4]]
 refine XK.aL [(18, .int .i64 0), (17, .slice none 0 0), (16, .int .i64 0), (15, .pointer (some ⟨g, 0, none⟩)), (14, .int .i32 st), (13, .int .i64 (b : Int)), (11, .pointer (some ⟨f, 0, none⟩)), (9, .pointer (some ⟨hL.h, 0, none⟩)), (8, .pointer (some ⟨g1, 0, none⟩)), (1, .slice Aw m.length cw)] ?_
 refine XK.loop (fun n e R H => ∃ (j : Nat) (gt : Option (List Int)) (z : bH) (x : aV) (cg : AC), j + n = 120 ∧ yE s b (decide (k ≠ 0)) n gt z x (some a) z' x' ∧ e = [(18, .int .i64 (j : Int)), (17, .slice cg.1 (gt.getD []).length cg.2), (16, .int .i64 (if gt.isSome then 1 else 0)), (15, .pointer (some ⟨g, 0, none⟩)), (14, .int .i32 st), (13, .int .i64 (b : Int)), (11, .pointer (some ⟨f, 0, none⟩)), (9, .pointer (some ⟨hL.h, 0, none⟩)), (8, .pointer (some ⟨g1, 0, none⟩)), (1, .slice Aw m.length cw)] ∧ R = [q1, all w] ∧ H = [cO f hL s z x, HP.dM (bQ cg (gt.getD [])) (bQ.le (a := cg) (l := gt.getD [])), HP.aE g 63 [.int .u8 k, .int .i64 id], HP.aE g1 29 [.slice A1 s.aB.length k1, .slice A2 s.domains.length k2, .slice A3 s.aU.length k3, .slice A4 s.aG.length k4]]) 120 ⟨0, none, zQ s 1 b m, hw0 s, (none, 0), rfl, Kv, rfl, rfl, rfl⟩ fun n e R H hI => ?_
 obtain ⟨j, gt, z, x, cg, hj, hp, rfl, rfl, rfl⟩ := hI
 refine XK.go ?_
 refine XK.if_ rfl (fun hlt => ?_) (fun hge => ?_)
 ·cases n with
  | zero => exact absurd hlt (by omega)
  | succ n =>
  obtain ⟨uR, cT, dW, hok, hp⟩ := hp
  generalize hst : fU s x z = r at cT dW hok hp
  obtain ⟨z3, x3⟩ := r
  dsimp only at cT dW hok hp
  obtain ⟨oM, sA⟩ := aCM hb cT
  refine XK.go ?_
  refine iL 0 (cO f hL s z3 x3) (fun w1 F1 t h1 h2 h3 => by
   have := aFu f hL s z x w1 hH aX uR F1 h1 h2 (pF.le jW (h3 _ (by simp)))
   rw [hst] at this
   exact this) ?_
  dsimp only [List.set]
  refine XK.go ?_
  refine XK.take 0 0 rfl rfl ?_
  dsimp only [List.set]
  cases hrb : eP z3 b with
  | some a1 =>
   have hgn : gt = none := by
    rcases dW with h | h
    ·rw [hrb] at h; cases h
    ·exact h
   subst hgn
   rw [hrb] at hp
   refine wX (α := AC) 0 (f := 21) (fi := []) (ca := []) (fun c => .tuple #[.slice c.1 a1.length c.2, .bool true]) (fun c => tF f hL.h s (eN z3 b) a1 c) (fun _ => True) (by kernel_rfl) rfl rfl rfl (by decide) (fun w1 F1 t h1 h2 h3 => by
    have := Gt f hL.h s z3 b w1 F1 h1 h2
    rw [hrb] at this
    exact this) ?_
   rintro cn _
   dsimp only [List.set]
   refine XK.take 0 1 rfl rfl ?_
   dsimp only [List.set]
   refine XK.take 1 0 rfl rfl ?_
   dsimp only [List.set]
   refine XK.bF 2 0 rfl rfl ?_
   dsimp only [List.set]
   refine XK.weak [2, 0, 4, 5] rfl (by decide) (fun _ h => h) ?_
   refine XK.go ?_
   refine XK.take 0 0 rfl rfl ?_
   dsimp only [List.set]
   refine wX (α := AC) 0 (f := 21) (fi := []) (ca := []) (fun c => .tuple #[.slice none 0 0, .bool false]) (fun c => tF f hL.h s (eN z3 b) [] c) (fun _ => True) (by kernel_rfl) rfl rfl rfl (by decide) (fun w1 F1 t h1 h2 h3 => by
    have := Gt f hL.h s (eN z3 b) (1 - (b : Int)) w1 F1 h1 h2
    rw [oM, sA] at this
    exact this) ?_
   rintro ⟨Ar, cr⟩ _
   dsimp only [List.set]
   refine XK.take 0 0 rfl rfl ?_
   dsimp only [List.set]
   refine XK.bF 1 0 rfl rfl ?_
   dsimp only [List.set]
   refine XK.weak [1, 2, 3, 4] rfl (by decide) (fun _ h => h) ?_
   refine XK.go ?_
   refine XK.if_ rfl (fun hk => ?_) (fun hk => ?_)
   ·have hk : k ≠ 0 := hk
    rw [if_pos (decide_eq_true hk)] at hp
    obtain ⟨zJ, Px⟩ := hok (decide_eq_true hk)
    refine XK.go ?_
    refine XK.take 0 1 rfl rfl ?_
    dsimp only [List.set]
    refine iL 0 (dG hL s (iZ s x3 0)) (fun w1 F1 t h1 h2 h3 => Za hL s x3 w1 hH aX zJ 0 (by decide) Px F1 h1 h2) ?_
    dsimp only [List.set]
    refine XK.go ?_
    refine XK.bF 0 1 rfl rfl ?_
    dsimp only [List.set]
    refine XK.aL [(18, .int .i64 (j + 1 : Nat)), (17, .slice cn.1 a1.length cn.2), (16, .int .i64 1), (15, .pointer (some ⟨g, 0, none⟩)), (14, .int .i32 st), (13, .int .i64 (b : Int)), (11, .pointer (some ⟨f, 0, none⟩)), (9, .pointer (some ⟨hL.h, 0, none⟩)), (8, .pointer (some ⟨g1, 0, none⟩)), (1, .slice Aw m.length cw)] ?_
    exact XK.round n (by omega) ⟨j + 1, some a1, eN z3 b, iZ s x3 0, cn, by omega, hp, rfl, rfl, rfl⟩
   ·have hk : ¬ k ≠ 0 := hk
    rw [if_neg (by rw [decide_eq_false hk]; simp)] at hp
    refine XK.go ?_
    refine XK.aL [(18, .int .i64 (j + 1 : Nat)), (17, .slice cn.1 a1.length cn.2), (16, .int .i64 1), (15, .pointer (some ⟨g, 0, none⟩)), (14, .int .i32 st), (13, .int .i64 (b : Int)), (11, .pointer (some ⟨f, 0, none⟩)), (9, .pointer (some ⟨hL.h, 0, none⟩)), (8, .pointer (some ⟨g1, 0, none⟩)), (1, .slice Aw m.length cw)] ?_
    exact XK.round n (by omega) ⟨j + 1, some a1, eN z3 b, x3, cn, by omega, hp, rfl, rfl, rfl⟩
  | none =>
   rw [hrb] at hp
   refine wX (α := AC) 0 (f := 21) (fi := []) (ca := []) (fun c => .tuple #[.slice none 0 0, .bool false]) (fun c => tF f hL.h s (eN z3 b) [] c) (fun _ => True) (by kernel_rfl) rfl rfl rfl (by decide) (fun w1 F1 t h1 h2 h3 => by
    have := Gt f hL.h s z3 b w1 F1 h1 h2
    rw [hrb] at this
    exact this) ?_
   rintro ⟨Ar, cr⟩ _
   dsimp only [List.set]
   refine XK.take 0 0 rfl rfl ?_
   dsimp only [List.set]
   refine XK.bF 1 0 rfl rfl ?_
   dsimp only [List.set]
   refine XK.weak [1, 2, 3, 4] rfl (by decide) (fun _ h => h) ?_
   refine XK.go ?_
   refine XK.take 0 0 rfl rfl ?_
   dsimp only [List.set]
   refine wX (α := AC) 0 (f := 21) (fi := []) (ca := []) (fun c => .tuple #[.slice none 0 0, .bool false]) (fun c => tF f hL.h s (eN z3 b) [] c) (fun _ => True) (by kernel_rfl) rfl rfl rfl (by decide) (fun w1 F1 t h1 h2 h3 => by
    have := Gt f hL.h s (eN z3 b) (1 - (b : Int)) w1 F1 h1 h2
    rw [oM, sA] at this
    exact this) ?_
   rintro ⟨Ar, cr⟩ _
   dsimp only [List.set]
   refine XK.take 0 0 rfl rfl ?_
   dsimp only [List.set]
   refine XK.bF 1 0 rfl rfl ?_
   dsimp only [List.set]
   refine XK.weak [1, 2, 3, 4] rfl (by decide) (fun _ h => h) ?_
   refine XK.go ?_
   refine XK.if_ rfl (fun hk => ?_) (fun hk => ?_)
   ·have hk : k ≠ 0 := hk
    rw [if_pos (decide_eq_true hk)] at hp
    obtain ⟨zJ, Px⟩ := hok (decide_eq_true hk)
    refine XK.go ?_
    refine XK.take 0 1 rfl rfl ?_
    dsimp only [List.set]
    refine iL 0 (dG hL s (iZ s x3 0)) (fun w1 F1 t h1 h2 h3 => Za hL s x3 w1 hH aX zJ 0 (by decide) Px F1 h1 h2) ?_
    dsimp only [List.set]
    refine XK.go ?_
    refine XK.bF 0 1 rfl rfl ?_
    dsimp only [List.set]
    refine XK.aL [(18, .int .i64 (j + 1 : Nat)), (17, .slice cg.1 (gt.getD []).length cg.2), (16, .int .i64 (if gt.isSome then 1 else 0)), (15, .pointer (some ⟨g, 0, none⟩)), (14, .int .i32 st), (13, .int .i64 (b : Int)), (11, .pointer (some ⟨f, 0, none⟩)), (9, .pointer (some ⟨hL.h, 0, none⟩)), (8, .pointer (some ⟨g1, 0, none⟩)), (1, .slice Aw m.length cw)] ?_
    exact XK.round n (by omega) ⟨j + 1, gt, eN z3 b, iZ s x3 0, cg, by omega, hp, rfl, rfl, rfl⟩
   ·have hk : ¬ k ≠ 0 := hk
    rw [if_neg (by rw [decide_eq_false hk]; simp)] at hp
    refine XK.go ?_
    refine XK.aL [(18, .int .i64 (j + 1 : Nat)), (17, .slice cg.1 (gt.getD []).length cg.2), (16, .int .i64 (if gt.isSome then 1 else 0)), (15, .pointer (some ⟨g, 0, none⟩)), (14, .int .i32 st), (13, .int .i64 (b : Int)), (11, .pointer (some ⟨f, 0, none⟩)), (9, .pointer (some ⟨hL.h, 0, none⟩)), (8, .pointer (some ⟨g1, 0, none⟩)), (1, .slice Aw m.length cw)] ?_
    exact XK.round n (by omega) ⟨j + 1, gt, eN z3 b, x3, cg, by omega, hp, rfl, rfl, rfl⟩
 obtain rfl : n = 0 := by omega
 obtain ⟨rfl, rfl, rfl⟩ := hp
 dsimp only [Option.getD_some, Option.isSome_some]
 refine XK.still [] [1] [0, 2, 3] (by simp) rfl (by decide) (by decide) fun q hq _ hfr => ?_
 obtain ⟨F2, kH, kE⟩ := hq 1 _ (by simp) rfl
 have hr : bQ cg a q := bQ.le ⟨q.w, F2⟩ q (fun b hb => ⟨kE b hb, rfl⟩) kH
 obtain ⟨Ac, cc⟩ := cg
 obtain ⟨bb, off, hA, fE, hc⟩ := hr.2 (by omega)
 obtain rfl : Ac = _ := hA
 refine XK.take 0 0 rfl rfl ?_
 dsimp only [List.set]
 refine XK.oB 0 rfl fun L => ?_
 dsimp only [List.set]
 have r0 : Rd w [q, q1, all w] [eF f hL.h L s z', HP.many [HP.emp, dG hL s x'], HP.aE g 63 [.int .u8 k, .int .i64 id], HP.aE g1 29 [.slice A1 s.aB.length k1, .slice A2 s.domains.length k2, .slice A3 s.aU.length k3, .slice A4 s.aG.length k4]] bb off (.int .u32 (m.headD 0)) := Rd.ro (p := q) (by simp) fE (hc 0 _ (by simp [iI, ga0]))
 have r1 : Rd w [q, q1, all w] [eF f hL.h L s z', HP.many [HP.emp, dG hL s x'], HP.aE g 63 [.int .u8 k, .int .i64 id], HP.aE g1 29 [.slice A1 s.aB.length k1, .slice A2 s.domains.length k2, .slice A3 s.aU.length k3, .slice A4 s.aG.length k4]] bb (off + 1) (.int .u32 (IntKind.u32.wrap st)) := Rd.ro (p := q) (by simp) fE (hc 1 _ (by simp [iI, Zy]))
 refine XK.go ?_
 refine XK.Cx (fun e R H => e = [(158, .bool false), (15, .pointer (some ⟨g, 0, none⟩)), (14, .int .i32 st), (13, .int .i64 (b : Int)), (11, .pointer (some ⟨f, 0, none⟩)), (9, .pointer (some ⟨hL.h, 0, none⟩)), (8, .pointer (some ⟨g1, 0, none⟩)), (1, .slice Aw m.length cw)] ∧ R = [q, q1, all w] ∧ H = [eF f hL.h L s z', HP.many [HP.emp, dG hL s x'], HP.aE g 63 [.int .u8 k, .int .i64 id], HP.aE g1 29 [.slice A1 s.aB.length k1, .slice A2 s.domains.length k2, .slice A3 s.aU.length k3, .slice A4 s.aG.length k4]]) ?_ ?_
 ·refine XK.jD ?_
  refine XQ.go ?_
  refine XQ.split 121 rfl (fun h => absurd h (by omega)) (fun _ => ?_)
  refine XQ.go ?_
  refine XQ.split 125 rfl (fun hne => ?_) (fun zR => ?_)
  ·obtain ⟨bw, Wq, hAw, hbw, hcw⟩ := hm0.2 (by omega)
   have rw0 : Rd w [q, q1, all w] [eF f hL.h L s z', HP.many [HP.emp, dG hL s x'], HP.aE g 63 [.int .u8 k, .int .i64 id], HP.aE g1 29 [.slice A1 s.aB.length k1, .slice A2 s.domains.length k2, .slice A3 s.aU.length k3, .slice A4 s.aG.length k4]] bw Wq (.int .u32 (m.headD 0)) := Rd.ro (p := all w) (by simp) hbw (hcw 0 _ (by
    cases m with
    | nil => exact absurd hne (by simp)
    | cons v r => rfl))
   refine XQ.go ?_
   refine XQ.kd (dat 0 off) ?_
   refine XQ.go ?_
   refine XQ.kd (dat 0 Wq (hx := by rw [← hAw]; rfl)) ?_
   refine XQ.go ?_
   refine XQ.split 135 rfl (fun h => absurd rfl h) (fun _ => ?_)
   refine XQ.go ?_
   refine XQ.split 139 rfl (fun h => absurd h (by omega)) (fun _ => ?_)
   refine XQ.go ?_
   refine XQ.kd (dat 1 (off + 1)) ?_
   refine XQ.go ?_
   refine XQ.kd (Cu (ds := .int .u32) (kd := .i32) (c := st) (by kernel_rfl) (by kernel_rfl) rfl (Uo hs1 eV)) ?_
   refine XQ.go ?_
   refine XQ.split 154 rfl (fun h => absurd rfl h) (fun _ => ?_)
   refine XQ.go ?_
   refine XQ.call (fun w1 t => by
    have := aAe f hL.h L s z' w1 (t.nR 0 rfl)
    rw [iF] at this
    exact this) ?_
   refine XQ.end_ ?_
   refine XK.aL [(158, .bool false), (15, .pointer (some ⟨g, 0, none⟩)), (14, .int .i32 st), (13, .int .i64 (b : Int)), (11, .pointer (some ⟨f, 0, none⟩)), (9, .pointer (some ⟨hL.h, 0, none⟩)), (8, .pointer (some ⟨g1, 0, none⟩)), (1, .slice Aw m.length cw)] (XK.meet ⟨rfl, rfl, rfl⟩)
  ·have aE5 : m.headD 0 = 0 := by
    cases m with
    | nil => rfl
    | cons v r => exact absurd zR (by simp)
   refine XQ.go ?_
   refine XQ.split 139 rfl (fun _ => ?_) (fun h => absurd (by omega) h)
   refine XQ.go ?_
   refine XQ.kd (dat 0 off) ?_
   refine XQ.go ?_
   refine XQ.split 146 rfl (fun h => absurd aE5 h) (fun _ => ?_)
   refine XQ.go ?_
   refine XQ.kd (dat 1 (off + 1)) ?_
   refine XQ.go ?_
   refine XQ.kd (Cu (ds := .int .u32) (kd := .i32) (c := st) (by kernel_rfl) (by kernel_rfl) rfl (Uo hs1 eV)) ?_
   refine XQ.go ?_
   refine XQ.split 154 rfl (fun h => absurd rfl h) (fun _ => ?_)
   refine XQ.go ?_
   refine XQ.call (fun w1 t => by
    have := aAe f hL.h L s z' w1 (t.nR 0 rfl)
    rw [iF] at this
    exact this) ?_
   refine XQ.end_ ?_
   refine XK.aL [(158, .bool false), (15, .pointer (some ⟨g, 0, none⟩)), (14, .int .i32 st), (13, .int .i64 (b : Int)), (11, .pointer (some ⟨f, 0, none⟩)), (9, .pointer (some ⟨hL.h, 0, none⟩)), (8, .pointer (some ⟨g1, 0, none⟩)), (1, .slice Aw m.length cw)] (XK.meet ⟨rfl, rfl, rfl⟩)
 rintro _ _ _ ⟨rfl, rfl, rfl⟩
 refine XK.go ?_
 refine XK.if_ rfl (fun hk => ?_) (fun hk => ?_)
 ·refine XK.go ?_
  exact XK.bP (by simp) rfl
 obtain rfl := hx' (Classical.not_not.1 hk)
 refine XK.take 1 1 rfl rfl ?_
 dsimp only [List.set]
 refine XK.weak [0, 4] rfl (by decide) (fun _ h => h) ?_
 refine XK.go ?_
 refine XK.aL [(23, .int .i64 (0)), (9, .pointer (some ⟨hL.h, 0, none⟩)), (8, .pointer (some ⟨g1, 0, none⟩))] ?_
 refine XK.loop (fun n e R H => ∃ i : Nat, i ≤ 9 ∧ n = 9 - i ∧ e = [(23, .int .i64 (i : Int)), (9, .pointer (some ⟨hL.h, 0, none⟩)), (8, .pointer (some ⟨g1, 0, none⟩))] ∧ R = [q, q1, all w] ∧ H = [dG hL s (hw0 s), HP.aE g1 29 [.slice A1 s.aB.length k1, .slice A2 s.domains.length k2, .slice A3 s.aU.length k3, .slice A4 s.aG.length k4]]) 9 ⟨0, by omega, rfl, rfl, rfl, rfl⟩ fun n e R H hI => ?_
 obtain ⟨i, hi, rfl, rfl, rfl, rfl⟩ := hI
 refine XK.go ?_
 refine XK.if_ rfl (fun hlt => ?_) (fun hge => ?_)
 ·refine XK.go ?_
  refine bB (v := .bool false) (fun w1 t => by
   have hR := t.iM 0 rfl aX mD
   by_cases hlt : i < s.aG.length
   ·have := aEP hL s (hw0 s) w1 hH aX mD i hlt hR
    rw [aEv] at this
    exact this
   ·exact aEO hL s (hw0 s) w1 i (decide_eq_false (by omega)) hR) ?_
  refine XK.go ?_
  rcases Xx (s := s) i with mC | mC
  ·refine bB (fun w1 t => Gi hL s (hw0 s) w1 mD.dm i (t.iM 0 rfl aX mD)) ?_
   rw [mC]
   refine XK.go ?_
   refine bO (t := 187) rfl (fun h1 => ?_) (fun h1 => ?_)
   ·refine XK.go ?_
    refine bB (fun w1 t => Rh hL s (hw0 s) w1 i (t.iM 0 rfl aX mD)) ?_
    rw [Xy]
    refine XK.go ?_
    refine bO (t := 200) rfl (fun h2 => ?_) (fun h2 => ?_)
    ·have h2 : i < s.aG.length := by omega
     refine XK.go ?_
     refine bB (fun w1 t => Gh hL s (hw0 s) w1 aX mD i h2 (jW.at_ (t.le (by simp))) (t.iM 0 rfl aX mD)) ?_
     rw [Kl h2]
     refine XK.go ?_
     refine XK.aL [(23, .int .i64 (i + 1 : Nat)), (9, .pointer (some ⟨hL.h, 0, none⟩)), (8, .pointer (some ⟨g1, 0, none⟩))] ?_
     exact XK.round (9 - (i + 1)) (by omega) ⟨i + 1, by omega, rfl, rfl, rfl, rfl⟩
    ·refine XK.go ?_
     refine XK.aL [(23, .int .i64 (i + 1 : Nat)), (9, .pointer (some ⟨hL.h, 0, none⟩)), (8, .pointer (some ⟨g1, 0, none⟩))] ?_
     exact XK.round (9 - (i + 1)) (by omega) ⟨i + 1, by omega, rfl, rfl, rfl, rfl⟩
   ·refine XK.go ?_
    refine bO (t := 200) rfl (fun h2 => ?_) (fun h2 => ?_)
    ·have h2 : i < s.aG.length := by omega
     refine XK.go ?_
     refine bB (fun w1 t => Gh hL s (hw0 s) w1 aX mD i h2 (jW.at_ (t.le (by simp))) (t.iM 0 rfl aX mD)) ?_
     rw [Kl h2]
     refine XK.go ?_
     refine XK.aL [(23, .int .i64 (i + 1 : Nat)), (9, .pointer (some ⟨hL.h, 0, none⟩)), (8, .pointer (some ⟨g1, 0, none⟩))] ?_
     exact XK.round (9 - (i + 1)) (by omega) ⟨i + 1, by omega, rfl, rfl, rfl, rfl⟩
    ·refine XK.go ?_
     refine XK.aL [(23, .int .i64 (i + 1 : Nat)), (9, .pointer (some ⟨hL.h, 0, none⟩)), (8, .pointer (some ⟨g1, 0, none⟩))] ?_
     exact XK.round (9 - (i + 1)) (by omega) ⟨i + 1, by omega, rfl, rfl, rfl, rfl⟩
  ·refine bB (fun w1 t => Gi hL s (hw0 s) w1 mD.dm i (t.iM 0 rfl aX mD)) ?_
   rw [mC]
   refine XK.go ?_
   refine bB (fun w1 t => Gi hL s (hw0 s) w1 mD.dm i (t.iM 0 rfl aX mD)) ?_
   rw [mC]
   refine XK.go ?_
   refine bO (t := 187) rfl (fun h1 => ?_) (fun h1 => ?_)
   ·refine XK.go ?_
    refine bB (fun w1 t => Rh hL s (hw0 s) w1 i (t.iM 0 rfl aX mD)) ?_
    rw [Xy]
    refine XK.go ?_
    refine bO (t := 200) rfl (fun h2 => ?_) (fun h2 => ?_)
    ·have h2 : i < s.aG.length := by omega
     refine XK.go ?_
     refine bB (fun w1 t => Gh hL s (hw0 s) w1 aX mD i h2 (jW.at_ (t.le (by simp))) (t.iM 0 rfl aX mD)) ?_
     rw [Kl h2]
     refine XK.go ?_
     refine XK.aL [(23, .int .i64 (i + 1 : Nat)), (9, .pointer (some ⟨hL.h, 0, none⟩)), (8, .pointer (some ⟨g1, 0, none⟩))] ?_
     exact XK.round (9 - (i + 1)) (by omega) ⟨i + 1, by omega, rfl, rfl, rfl, rfl⟩
    ·refine XK.go ?_
     refine XK.aL [(23, .int .i64 (i + 1 : Nat)), (9, .pointer (some ⟨hL.h, 0, none⟩)), (8, .pointer (some ⟨g1, 0, none⟩))] ?_
     exact XK.round (9 - (i + 1)) (by omega) ⟨i + 1, by omega, rfl, rfl, rfl, rfl⟩
   ·refine XK.go ?_
    refine bO (t := 200) rfl (fun h2 => ?_) (fun h2 => ?_)
    ·have h2 : i < s.aG.length := by omega
     refine XK.go ?_
     refine bB (fun w1 t => Gh hL s (hw0 s) w1 aX mD i h2 (jW.at_ (t.le (by simp))) (t.iM 0 rfl aX mD)) ?_
     rw [Kl h2]
     refine XK.go ?_
     refine XK.aL [(23, .int .i64 (i + 1 : Nat)), (9, .pointer (some ⟨hL.h, 0, none⟩)), (8, .pointer (some ⟨g1, 0, none⟩))] ?_
     exact XK.round (9 - (i + 1)) (by omega) ⟨i + 1, by omega, rfl, rfl, rfl, rfl⟩
    ·refine XK.go ?_
     refine XK.aL [(23, .int .i64 (i + 1 : Nat)), (9, .pointer (some ⟨hL.h, 0, none⟩)), (8, .pointer (some ⟨g1, 0, none⟩))] ?_
     exact XK.round (9 - (i + 1)) (by omega) ⟨i + 1, by omega, rfl, rfl, rfl, rfl⟩
 refine XK.go ?_
 exact XK.bP (by simp) rfl
end
section
theorem aGW {a : Int} (h : (Lit.int .u32 a).wf = true) : 0 ≤ a ∧ a < 4294967296 := by
 simp [Lit.wf, IntKind.min, IntKind.max, IntKind.signed, IntKind.bits] at h
 omega
open Go.ChangeShapes Go.WideShapes Go.ChangeAt in
theorem aDx {H : Type} {enc : TypeId × Value → H} {P : Program} {w : World} {t e : TypeId} {v : Value} {d : DataW H} {ps : List MemPlace} {base : Nat}
    (ht : P.underlying t = some (.slice e)) (he : P.underlying e = some (.int .u32)) (hc : P.cellsOf e = 1) (hval : Value.okWide P w .any base t v)
    (h : DataW.Trod enc P w 0 (fun _ => true) true t v d ps) :
    ∃ (A : Option Addr) (n c : Nat) (zs : List Int), v = .slice A n c ∧ Sl w w.heap.size 1 A n (iI zs) ∧ fO zs ∧ n = zs.length ∧ n ≤ 9223372036854775807 := by
  obtain ⟨a0, len, cap, rfl⟩ := okWide_slice ht hval
  obtain ⟨fuel, hf⟩ := h
  rcases open_ints ht he hc hf with ⟨hcs, hx⟩ | ⟨a, len', cap', zs, hcs, _, hl, hm, hz, hx, hcell, Pw⟩
  · simp [Value.cells] at hcs
    obtain ⟨rfl, rfl, rfl⟩ := hcs
    exact ⟨none, 0, 0, [], rfl, Sl.nil, (fun x hx => by cases hx), rfl, by omega⟩
  · simp [Value.cells] at hcs
    obtain ⟨rfl, rfl, rfl⟩ := hcs
    simp at hz
    unfold maxLen at hm
    refine ⟨some a, len, cap, zs.take len, rfl, ⟨by simp [iI]; omega, fun hk => ?_⟩, fun x hx => aGW (Pw _ (List.mem_of_mem_take hx)), by simp; omega, by omega⟩
    have h0 := hcell 0 (by omega)
    rw [show a.add 0 = a from rfl] at h0
    refine ⟨a.block, a.off, by rw [← aAS h0], World.block_lt_of_cell? _ _ h0, fun j u hu => ?_⟩
    have hj : j < len := by
      rcases Nat.lt_or_ge j len with hlt | hge
      · exact hlt
      · rw [List.getElem?_eq_none (by simp [iI]; omega)] at hu; cases hu
    have hj' := hcell j (by omega)
    rw [Th h0] at hj'
    rw [hj', ← hu]
    simp only [iI, List.getElem?_map]
    rw [List.getElem?_take, if_pos hj, List.getElem?_eq_getElem (by omega)]
    simp [List.getD, List.getElem?_eq_getElem (show j < zs.length by omega)]
end
end Go.Proofs.YticjkhagldkejaaGreatDoor
