/- regs.New, quiet.New. -/
import Derived.Test.YticjkhagldkejaaGreatDoorFirmSleepsK3
namespace Go.Proofs.YticjkhagldkejaaGreatDoor
set_option linter.all false
open Go.RowKit
section
set_option maxHeartbeats 4000000
set_option maxRecDepth 20000
theorem XK.four {N : cN} {w0 : World} {e : Env} {R : List Piece} {H : List HP} {K : Act → World → Prop} {p q r s : HP} (h : XK N w0 K e R (HP.many [p, q, r, s] :: H)) : XK N w0 K e R (p :: q :: r :: s :: H) := by
 refine XK.pair ?_
 refine fun a w hr st => ?_
 have swap : ∀ {x y : HP} {H : List HP} {w : World}, St w0 R (x :: y :: H) w → St w0 R (y :: x :: H) w := fun st => st.weak (fun _ h => h) (fun i => match i with
  | 0 => 1
  | 1 => 0
  | i + 2 => i + 2) (fun i j _ _ he => by
   match i, j with
   | 0, 0 => rfl
   | 0, 1 => simp at he
   | 0, j + 2 => simp at he
   | 1, 0 => simp at he
   | 1, 1 => rfl
   | 1, j + 2 => simp at he
   | i + 2, 0 => simp at he
   | i + 2, 1 => simp at he
   | i + 2, j + 2 => simpa using he) (fun i p hi => by
   match i, hi with
   | 0, hi => simpa using hi
   | 1, hi => simpa using hi
   | i + 2, hi => simpa using hi)
 refine (XK.push (ps := [p, q]) (p := r) (H := s :: H) (fun a w hr st => ?_)) a w hr (swap st)
 exact (XK.push (ps := [p, q, r]) (p := s) h) a w hr (swap st)
def aCs (d : bB) (v : Value) (hs : List HP) (_ : Piece) : Prop := ∃ L : FL, v = .tuple #[.pointer (some ⟨L.f, 0, none⟩), .int .i64 0] ∧ hs = [dM L d (wN d)]
theorem vW (l : List Rg) : List.replicate l.length (Value.int .u32 0) = jI (l.map fun _ => 0) := by
 refine List.ext_getElem? fun j => ?_
 simp only [jI, List.map_map, List.getElem?_replicate, List.getElem?_map]
 by_cases h : j < l.length
 ·rw [if_pos h, List.getElem?_eq_getElem h]; rfl
 ·rw [if_neg h, List.getElem?_eq_none (by omega)]; rfl
theorem aDB (d : bB) (hrl : d.aQ.length ≤ 8) (cJ : ∀ r ∈ d.aQ, 0 ≤ r.reset ∧ r.reset < 4294967296) (A : Option Addr) (c : Nat) (w : World) (hs : aH (all w) 2 A d.aQ.length (d.aQ.flatMap Rg.cells)) :
  Calls Tryz.prog 63 #[.slice A d.aQ.length c] w (fun y w' => (∃ v hs q, y = .returned v ∧ q.w = w' ∧ aCs d v hs q ∧ kA w hs q) ∧ Below w.heap.size w w') := by
 refine XK.enter (vs := [.slice A d.aQ.length c]) Tryz.func63 rfl Tryz.ntmps63 (by simp) ?_
 refine XK.seq ?_
 refine XK.region ?_
 refine bJ ?_
 refine bJ ?_
 refine XK.aE ?_
 refine XK.seq ?_
 refine XK.seq ?_
 refine XK.region ?_
 refine bJ ?_
 refine bJ ?_
 refine bJ ?_
 refine XK.aE ?_
 refine XK.if_ rfl (fun h => absurd h (by omega)) (fun _ => ?_)
 refine XK.skip ?_
 refine XK.norm ?_
 refine XK.cut (fun e R H => ∃ B j gn gs g3, e = [(4, .pointer (some ⟨g3, 0, none⟩))] ∧ R = [all w] ∧ H = [HP.aF g3 240 [.slice B d.aQ.length j, .slice (some ⟨gn, 0, none⟩) d.aQ.length d.aQ.length, .slice (some ⟨gs, 0, none⟩) d.aQ.length d.aQ.length, .bool false], HP.aF gn 44 (jI (d.aQ.map fun _ => 0)), HP.aF gs 44 (jI (d.aQ.map fun _ => 0)), HP.own 92 2 (.slice B d.aQ.length j) d.aQ.length (d.aQ.flatMap Rg.cells)]) ?_ ?_
 ·refine XK.draw 8 (by kernel_rfl) (by kernel_rfl) ?_
  refine XA.q 0 ?_
  refine XA.q 2 ?_
  refine XA.q 3 ?_
  refine XA.q 5 ?_
  refine XA.q 6 ?_
  refine XA.three 1 4 7 rfl rfl rfl (by kernel_rfl) ?_ ?_ ?_
  ·skip
   refine dZ (f := 141) (fi := []) (ca := []) (by kernel_rfl) rfl rfl (by decide) (Gd d.aQ.length (d.aQ.flatMap Rg.cells)) (fun w1 st => Lo A _ c _ w1 (hs.le (st.le (by simp))) Du (by omega)) ?_
   rintro _ _ q ⟨B, j, rfl, rfl⟩ _
   dsimp only [List.cons_append, List.nil_append]
   refine XA.bk ?_ (hS := (fun _ h => h.aN.tail))
   refine XA.either 4 7 rfl rfl (by kernel_rfl) ?_ ?_
   ·skip
    refine kD (n := d.aQ.length) 4 (el := 44) (z := .int .u32 0) (by kernel_rfl) (by kernel_rfl) rfl rfl rfl (by omega) (by omega) (by decide) fun gn => ?_
    rw [vW d.aQ]
    refine XA.bk ?_ (hS := (fun _ h => h.tail.aN.tail))
    refine XA.next 7 rfl (by kernel_rfl) ?_
    refine kD (n := d.aQ.length) 4 (el := 44) (z := .int .u32 0) (by kernel_rfl) (by kernel_rfl) rfl rfl rfl (by omega) (by omega) (by decide) fun gs => ?_
    rw [vW d.aQ]
    refine XA.bk ?_ (hS := (fun _ h => h.tail.tail.aN.tail))
    refine XA.next 8 rfl (by kernel_rfl) ?_
    refine dB (zs := [.slice none 0 0, .slice none 0 0, .slice none 0 0, .bool false]) (L := [(0, 1), (1, 1), (2, 1), (3, 1)]) (aM (by kernel_rfl)) (by kernel_rfl) rfl (by simp [aR, aU, Value.cells]; rfl) (by decide) ?_
    refine XA.bt ?_
    refine XA.next 9 rfl (by kernel_rfl) ?_
    refine bY rfl (by decide) fun g3 => ?_
    dsimp only [Value.cells]
    refine XA.bt ?_
    refine XA.next 10 rfl (by kernel_rfl) ?_
    refine bJ ?_
    refine XA.bt ?_
    refine XA.done (by kernel_rfl) ?_
    refine XK.norm ?_
    exact XK.weak [0, 2, 1, 3] rfl (by decide) (by simp) (XK.aK [(4, .pointer (some ⟨g3, 0, none⟩))] (XK.meet ⟨B, j, gn, gs, g3, rfl, rfl, rfl⟩))
   ·skip
    refine kD (n := d.aQ.length) 4 (el := 44) (z := .int .u32 0) (by kernel_rfl) (by kernel_rfl) rfl rfl rfl (by omega) (by omega) (by decide) fun gs => ?_
    rw [vW d.aQ]
    refine XA.bk ?_ (hS := (fun _ h => h.tail.aN.tail))
    refine XA.next 4 rfl (by kernel_rfl) ?_
    refine kD (n := d.aQ.length) 4 (el := 44) (z := .int .u32 0) (by kernel_rfl) (by kernel_rfl) rfl rfl rfl (by omega) (by omega) (by decide) fun gn => ?_
    rw [vW d.aQ]
    refine XA.bk ?_ (hS := (fun _ h => h.tail.tail.aN.tail))
    refine XA.next 8 rfl (by kernel_rfl) ?_
    refine dB (zs := [.slice none 0 0, .slice none 0 0, .slice none 0 0, .bool false]) (L := [(0, 1), (1, 1), (2, 1), (3, 1)]) (aM (by kernel_rfl)) (by kernel_rfl) rfl (by simp [aR, aU, Value.cells]; rfl) (by decide) ?_
    refine XA.bt ?_
    refine XA.next 9 rfl (by kernel_rfl) ?_
    refine bY rfl (by decide) fun g3 => ?_
    dsimp only [Value.cells]
    refine XA.bt ?_
    refine XA.next 10 rfl (by kernel_rfl) ?_
    refine bJ ?_
    refine XA.bt ?_
    refine XA.done (by kernel_rfl) ?_
    refine XK.norm ?_
    exact XK.weak [0, 1, 2, 3] rfl (by decide) (by simp) (XK.aK [(4, .pointer (some ⟨g3, 0, none⟩))] (XK.meet ⟨B, j, gn, gs, g3, rfl, rfl, rfl⟩))
  ·skip
   refine kD (n := d.aQ.length) 4 (el := 44) (z := .int .u32 0) (by kernel_rfl) (by kernel_rfl) rfl rfl rfl (by omega) (by omega) (by decide) fun gn => ?_
   rw [vW d.aQ]
   refine XA.bk ?_ (hS := (fun _ h => h.tail))
   refine XA.either 1 7 rfl rfl (by kernel_rfl) ?_ ?_
   ·skip
    refine dZ (f := 141) (fi := []) (ca := []) (by kernel_rfl) rfl rfl (by decide) (Gd d.aQ.length (d.aQ.flatMap Rg.cells)) (fun w1 st => Lo A _ c _ w1 (hs.le (st.le (by simp))) Du (by omega)) ?_
    rintro _ _ q ⟨B, j, rfl, rfl⟩ _
    dsimp only [List.cons_append, List.nil_append]
    refine XA.bk ?_ (hS := (fun _ h => h.aN.tail.tail))
    refine XA.next 7 rfl (by kernel_rfl) ?_
    refine kD (n := d.aQ.length) 4 (el := 44) (z := .int .u32 0) (by kernel_rfl) (by kernel_rfl) rfl rfl rfl (by omega) (by omega) (by decide) fun gs => ?_
    rw [vW d.aQ]
    refine XA.bk ?_ (hS := (fun _ h => h.tail.aN.tail.tail))
    refine XA.next 8 rfl (by kernel_rfl) ?_
    refine dB (zs := [.slice none 0 0, .slice none 0 0, .slice none 0 0, .bool false]) (L := [(0, 1), (1, 1), (2, 1), (3, 1)]) (aM (by kernel_rfl)) (by kernel_rfl) rfl (by simp [aR, aU, Value.cells]; rfl) (by decide) ?_
    refine XA.bt ?_
    refine XA.next 9 rfl (by kernel_rfl) ?_
    refine bY rfl (by decide) fun g3 => ?_
    dsimp only [Value.cells]
    refine XA.bt ?_
    refine XA.next 10 rfl (by kernel_rfl) ?_
    refine bJ ?_
    refine XA.bt ?_
    refine XA.done (by kernel_rfl) ?_
    refine XK.norm ?_
    exact XK.weak [0, 3, 1, 2] rfl (by decide) (by simp) (XK.aK [(4, .pointer (some ⟨g3, 0, none⟩))] (XK.meet ⟨B, j, gn, gs, g3, rfl, rfl, rfl⟩))
   ·skip
    refine kD (n := d.aQ.length) 4 (el := 44) (z := .int .u32 0) (by kernel_rfl) (by kernel_rfl) rfl rfl rfl (by omega) (by omega) (by decide) fun gs => ?_
    rw [vW d.aQ]
    refine XA.bk ?_ (hS := (fun _ h => h.tail.tail))
    refine XA.next 1 rfl (by kernel_rfl) ?_
    refine dZ (f := 141) (fi := []) (ca := []) (by kernel_rfl) rfl rfl (by decide) (Gd d.aQ.length (d.aQ.flatMap Rg.cells)) (fun w1 st => Lo A _ c _ w1 (hs.le (st.le (by simp))) Du (by omega)) ?_
    rintro _ _ q ⟨B, j, rfl, rfl⟩ _
    dsimp only [List.cons_append, List.nil_append]
    refine XA.bk ?_ (hS := (fun _ h => h.aN.tail.tail.tail))
    refine XA.next 8 rfl (by kernel_rfl) ?_
    refine dB (zs := [.slice none 0 0, .slice none 0 0, .slice none 0 0, .bool false]) (L := [(0, 1), (1, 1), (2, 1), (3, 1)]) (aM (by kernel_rfl)) (by kernel_rfl) rfl (by simp [aR, aU, Value.cells]; rfl) (by decide) ?_
    refine XA.bt ?_
    refine XA.next 9 rfl (by kernel_rfl) ?_
    refine bY rfl (by decide) fun g3 => ?_
    dsimp only [Value.cells]
    refine XA.bt ?_
    refine XA.next 10 rfl (by kernel_rfl) ?_
    refine bJ ?_
    refine XA.bt ?_
    refine XA.done (by kernel_rfl) ?_
    refine XK.norm ?_
    exact XK.weak [0, 3, 2, 1] rfl (by decide) (by simp) (XK.aK [(4, .pointer (some ⟨g3, 0, none⟩))] (XK.meet ⟨B, j, gn, gs, g3, rfl, rfl, rfl⟩))
  ·skip
   refine kD (n := d.aQ.length) 4 (el := 44) (z := .int .u32 0) (by kernel_rfl) (by kernel_rfl) rfl rfl rfl (by omega) (by omega) (by decide) fun gs => ?_
   rw [vW d.aQ]
   refine XA.bk ?_ (hS := (fun _ h => h.tail))
   refine XA.either 1 4 rfl rfl (by kernel_rfl) ?_ ?_
   ·skip
    refine dZ (f := 141) (fi := []) (ca := []) (by kernel_rfl) rfl rfl (by decide) (Gd d.aQ.length (d.aQ.flatMap Rg.cells)) (fun w1 st => Lo A _ c _ w1 (hs.le (st.le (by simp))) Du (by omega)) ?_
    rintro _ _ q ⟨B, j, rfl, rfl⟩ _
    dsimp only [List.cons_append, List.nil_append]
    refine XA.bk ?_ (hS := (fun _ h => h.aN.tail.tail))
    refine XA.next 4 rfl (by kernel_rfl) ?_
    refine kD (n := d.aQ.length) 4 (el := 44) (z := .int .u32 0) (by kernel_rfl) (by kernel_rfl) rfl rfl rfl (by omega) (by omega) (by decide) fun gn => ?_
    rw [vW d.aQ]
    refine XA.bk ?_ (hS := (fun _ h => h.tail.aN.tail.tail))
    refine XA.next 8 rfl (by kernel_rfl) ?_
    refine dB (zs := [.slice none 0 0, .slice none 0 0, .slice none 0 0, .bool false]) (L := [(0, 1), (1, 1), (2, 1), (3, 1)]) (aM (by kernel_rfl)) (by kernel_rfl) rfl (by simp [aR, aU, Value.cells]; rfl) (by decide) ?_
    refine XA.bt ?_
    refine XA.next 9 rfl (by kernel_rfl) ?_
    refine bY rfl (by decide) fun g3 => ?_
    dsimp only [Value.cells]
    refine XA.bt ?_
    refine XA.next 10 rfl (by kernel_rfl) ?_
    refine bJ ?_
    refine XA.bt ?_
    refine XA.done (by kernel_rfl) ?_
    refine XK.norm ?_
    exact XK.weak [0, 1, 3, 2] rfl (by decide) (by simp) (XK.aK [(4, .pointer (some ⟨g3, 0, none⟩))] (XK.meet ⟨B, j, gn, gs, g3, rfl, rfl, rfl⟩))
   ·skip
    refine kD (n := d.aQ.length) 4 (el := 44) (z := .int .u32 0) (by kernel_rfl) (by kernel_rfl) rfl rfl rfl (by omega) (by omega) (by decide) fun gn => ?_
    rw [vW d.aQ]
    refine XA.bk ?_ (hS := (fun _ h => h.tail.tail))
    refine XA.next 1 rfl (by kernel_rfl) ?_
    refine dZ (f := 141) (fi := []) (ca := []) (by kernel_rfl) rfl rfl (by decide) (Gd d.aQ.length (d.aQ.flatMap Rg.cells)) (fun w1 st => Lo A _ c _ w1 (hs.le (st.le (by simp))) Du (by omega)) ?_
    rintro _ _ q ⟨B, j, rfl, rfl⟩ _
    dsimp only [List.cons_append, List.nil_append]
    refine XA.bk ?_ (hS := (fun _ h => h.aN.tail.tail.tail))
    refine XA.next 8 rfl (by kernel_rfl) ?_
    refine dB (zs := [.slice none 0 0, .slice none 0 0, .slice none 0 0, .bool false]) (L := [(0, 1), (1, 1), (2, 1), (3, 1)]) (aM (by kernel_rfl)) (by kernel_rfl) rfl (by simp [aR, aU, Value.cells]; rfl) (by decide) ?_
    refine XA.bt ?_
    refine XA.next 9 rfl (by kernel_rfl) ?_
    refine bY rfl (by decide) fun g3 => ?_
    dsimp only [Value.cells]
    refine XA.bt ?_
    refine XA.next 10 rfl (by kernel_rfl) ?_
    refine bJ ?_
    refine XA.bt ?_
    refine XA.done (by kernel_rfl) ?_
    refine XK.norm ?_
    exact XK.weak [0, 2, 3, 1] rfl (by decide) (by simp) (XK.aK [(4, .pointer (some ⟨g3, 0, none⟩))] (XK.meet ⟨B, j, gn, gs, g3, rfl, rfl, rfl⟩))
 rintro _ _ _ ⟨B, j, gn, gs, g3, rfl, rfl, rfl⟩
 refine XK.sN 3 (Φ := nN d B) (hm := nN.le (d := d) (A := B)) rfl (fun p h => h) ?_
 dsimp only [List.set]
 refine XK.four ?_
 refine XK.go ?_
 refine fE 0 (dM ⟨g3, gn, gs, B, j⟩ d (wR d ⟨d.aQ.map fun _ => 0, d.aQ.map fun _ => 0, false⟩)) (fun w1 G t hG rT hle => Nd ⟨g3, gn, gs, B, j⟩ d ⟨d.aQ.map fun _ => 0, d.aQ.map fun _ => 0, false⟩ (by omega) ⟨by simp, by simp, fun v hv => by
  obtain ⟨r, hr, rfl⟩ := List.mem_map.1 hv
  decide, fun v hv => by
  obtain ⟨r, hr, rfl⟩ := List.mem_map.1 hv
  decide⟩ w1 G hG rT) ?_
 dsimp only [List.set]
 refine XK.go ?_
 refine XK.still [] [] [0] (by simp) rfl (by decide) (by decide) fun q _ _ hfr => ?_
 exact XK.fQ rfl rfl rfl fun w1 t => ⟨⟨_, _, ⟨w1, q.Z⟩, rfl, rfl, ⟨⟨g3, gn, gs, B, j⟩, rfl, rfl⟩, t.newR (by simp) (by simp) (hfr (by simp) (by simp))⟩, t.below (by simp)⟩
theorem aDM (w : World) :
  Calls Tryz.prog 65 #[] w (fun y w' => (∃ v hs q, y = .returned v ∧ q.w = w' ∧ (∃ g, v = .pointer (some ⟨g, 0, none⟩) ∧ hs = [HP.aF g 242 [.int .i64 0, .int .i64 0]]) ∧ kA w hs q) ∧ Below w.heap.size w w') := by
 refine XK.enter (vs := []) Tryz.func65 rfl Tryz.ntmps65 (by simp) ?_
 refine XK.go ?_
 refine dB (zs := [.int .i64 0, .int .i64 0]) (L := [(0, 1), (1, 1)]) (aM (by kernel_rfl)) (by kernel_rfl) rfl (by simp [aR, aU, Value.cells]; rfl) (by decide) ?_
 refine bY rfl (by decide) fun g => ?_
 dsimp only [Value.cells]
 refine XK.go ?_
 refine XK.still [] [] [0] (by simp) rfl (by decide) (by decide) fun q _ _ hfr => ?_
 exact XK.aI rfl rfl fun w1 t => ⟨⟨_, _, ⟨w1, q.Z⟩, rfl, rfl, ⟨g, rfl, rfl⟩, t.newR (by simp) (by simp) (hfr (by simp) (by simp))⟩, t.below (by simp)⟩
end
section
set_option maxHeartbeats 4000000
set_option maxRecDepth 20000
def Fy (x : cG) : List Value := [.int .i64 x.at_, .int .i64 x.denied]
def mM (g : Nat) (x : cG) : HP := HP.aF g 242 (Fy x)
def Fz (w : World) : Prop := ∀ i v, [(114 : Int), 97, 115, 100][i]? = some v → eW w 0 i (.int .u8 v)
theorem Fz.below {w w' : World} (h : Fz w) (hb : Below w.heap.size w w') : Fz w' := fun i v hv =>
 ⟨Nat.lt_of_lt_of_le (h i v hv).1 hb.size, (hb.cell (p := ⟨0, i, none⟩) (h i v hv).1).trans (h i v hv).2⟩
theorem aDO (g : Nat) (x : cG) (hx : vM x) (w : World) (hL : Fz w) (hR : cZ w g 0 (Fy x)) :
  Calls Tryz.prog 93 #[.pointer (some ⟨g, 0, none⟩)] w (Rt (.int .u8 (lF x.at_)) w) := by
 have k0 := hR.at_ (j := 0) rfl
 obtain ⟨h1, h2⟩ := hx
 obtain ⟨i, hi⟩ : ∃ i : Nat, x.at_ = i := ⟨x.at_.toNat, by omega⟩
 have hv : [(114 : Int), 97, 115, 100][i]? = some (lF x.at_) := by
  have : i = 0 ∨ i = 1 ∨ i = 2 ∨ i = 3 := by omega
  rcases this with rfl | rfl | rfl | rfl <;> rw [hi] <;> rfl
 have k1 := hL i _ hv
 have hlt : i < 4 := by omega
 rw [hi] at k0 k1 ⊢
 refine XK.enter (vs := [.pointer (some ⟨g, 0, none⟩)]) Tryz.func93 rfl Tryz.ntmps93 (by simp) ?_
 refine XK.go ?_
 refine kd (fJ i i) ?_
 refine XK.go ?_
 exact XK.bU (by simp) rfl
section
variable {g : Nat} {x : cG} {w : World} {F : Nat → Prop}
theorem aDQ (hp : (mM g x).sat F w) (hF : ∀ b, F b → b < w.heap.size) :
  Calls Tryz.prog 259 #[.pointer (some ⟨g, 0, none⟩)] w (fun y w' => y = .returned (.int .i64 (mJ x).1) ∧ ∃ F', (mM g (mJ x).2).sat F' w' ∧ bI w w' F F') := by
 refine XK.dD (p := mM g x) (F := F) (vs := [.pointer (some ⟨g, 0, none⟩)]) Tryz.func259 rfl Tryz.ntmps259 (by simp) hp hF ?_
 dsimp only [mM, Fy]
 refine XK.go ?_
 refine XK.if_ rfl (fun h => ?_) (fun h => ?_)
 ·have hr : mJ x = (6, x) := if_pos (by simpa using h)
  rw [hr]
  refine XK.go ?_
  exact XK.aI rfl rfl fun w1 t => ⟨rfl, t.turns hF (by simp) (i := 0) rfl⟩
 ·have hr : mJ x = (0, ⟨1, x.denied⟩) := if_neg (by simpa using h)
  rw [hr]
  refine XK.go ?_
  exact XK.aI rfl rfl fun w1 t => ⟨rfl, t.turns hF (by simp) (i := 0) rfl⟩
theorem aDP (hp : (mM g x).sat F w) (hF : ∀ b, F b → b < w.heap.size) :
  Calls Tryz.prog 245 #[.pointer (some ⟨g, 0, none⟩)] w (fun y w' => y = .returned (.int .i64 (jM x).1) ∧ ∃ F', (mM g (jM x).2).sat F' w' ∧ bI w w' F F') := by
 refine XK.dD (p := mM g x) (F := F) (vs := [.pointer (some ⟨g, 0, none⟩)]) Tryz.func245 rfl Tryz.ntmps245 (by simp) hp hF ?_
 dsimp only [mM, Fy]
 refine XK.go ?_
 refine bT (t := 11) rfl (fun h2 => ?_) (fun h2 => ?_)
 ·refine XK.go ?_
  refine XK.if_ rfl (fun h => ?_) (fun h => ?_)
  ·have hr : jM x = (6, x) := if_pos ⟨by simpa using h2, by simpa using h⟩
   rw [hr]
   refine XK.go ?_
   exact XK.aI rfl rfl fun w1 t => ⟨rfl, t.turns hF (by simp) (i := 0) rfl⟩
  ·have hr : jM x = (0, ⟨0, x.denied⟩) := if_neg fun h3 => h3.2 (by simpa using h)
   rw [hr]
   refine XK.go ?_
   exact XK.aI rfl rfl fun w1 t => ⟨rfl, t.turns hF (by simp) (i := 0) rfl⟩
 ·have hr : jM x = (0, ⟨0, x.denied⟩) := if_neg fun h3 => h3.1 (by simpa using h2)
  rw [hr]
  refine XK.go ?_
  exact XK.aI rfl rfl fun w1 t => ⟨rfl, t.turns hF (by simp) (i := 0) rfl⟩
theorem aDN (Ai dP : Bool) (hp : (mM g x).sat F w) (hF : ∀ b, F b → b < w.heap.size) :
  Calls Tryz.prog 81 #[.pointer (some ⟨g, 0, none⟩), .bool Ai, .bool dP] w (fun y w' => y = .returned (.tuple #[]) ∧ ∃ F', (mM g (nR x Ai dP)).sat F' w' ∧ bI w w' F F') := by
 refine XK.dD (p := mM g x) (F := F) (vs := [.pointer (some ⟨g, 0, none⟩), .bool Ai, .bool dP]) Tryz.func81 rfl Tryz.ntmps81 (by simp) hp hF ?_
 dsimp only [mM, Fy]
 refine XK.go ?_
 refine XK.if_ rfl (fun h => ?_) (fun h => ?_)
 ·have hr : nR x Ai dP = x := if_pos (by simpa using h)
  rw [hr]
  refine XK.go ?_
  exact XK.kV (.inl rfl) rfl fun w1 t => ⟨rfl, t.turns hF (by simp) (i := 0) rfl⟩
 ·have h1 : ¬ x.at_ ≠ 1 := by simpa using h
  cases dP
  ·cases Ai
   ·have hr : nR x false false = ⟨2, 0⟩ := (if_neg h1).trans ((if_neg (by decide)).trans (if_neg (by decide)))
    rw [hr]
    refine XK.go ?_
    exact XK.kV (.inr rfl) rfl fun w1 t => ⟨rfl, t.turns hF (by simp) (i := 0) rfl⟩
   ·have hr : nR x true false = x := (if_neg h1).trans ((if_neg (by decide)).trans (if_pos rfl))
    rw [hr]
    refine XK.go ?_
    exact XK.kV (.inr rfl) rfl fun w1 t => ⟨rfl, t.turns hF (by simp) (i := 0) rfl⟩
  ·have hr : nR x Ai true = ⟨3, IntKind.i64.wrap (x.denied + 1)⟩ := (if_neg h1).trans (if_pos rfl)
   rw [hr]
   refine XK.go ?_
   refine dO rfl rfl rfl (by decide) ?_
   refine XK.go ?_
   exact XK.kV (.inr rfl) rfl fun w1 t => ⟨rfl, t.turns hF (by simp) (i := 0) rfl⟩
end
end
section
set_option maxHeartbeats 4000000
set_option maxRecDepth 20000
structure TL where
 t : Nat
 A : Option Addr
 c : Nat
 fa : List (Option Addr × Nat)
def mN (c : dG) (a : Option Addr × Nat) (x : cT) : List Value := [.int .u8 c.kind, .slice a.1 c.src.length a.2, .int .u64 c.rate, .int .i64 c.mul, .int .i64 c.div, .int .i64 c.lock, .bool x.on, .int .i64 x.left, .int .i64 0, .int .i64 0, .int .i64 (Ww c)]
def fY (s : aC) (fa : List (Option Addr × Nat)) (st : List cT) : List (List Value) := List.zipWith (fun c p => mN c p.1 p.2) s.aB (fa.zip st)
structure rE (w : World) (L : TL) (s : aC) (st : List cT) : Prop where
 r0 : eW w L.t 0 (.slice L.A s.aB.length L.c)
 row : aH (all w) 11 L.A s.aB.length (fY s L.fa st).flatten
 mU : ∀ (i : Nat) (c : dG) (a : Option Addr × Nat), s.aB[i]? = some c → L.fa[i]? = some a → aH (all w) 1 a.1 c.src.length (aO c.src)
 fl : L.fa.length = s.aB.length
 ok : lS s st
theorem rE.below {w w' : World} {L : TL} {s : aC} {st : List cT} (h : rE w L s st) (hb : Below w.heap.size w w') : rE w' L s st :=
 ⟨⟨Nat.lt_of_lt_of_le h.r0.1 hb.size, (hb.cell (p := ⟨_, 0, none⟩) h.r0.1).trans h.r0.2⟩, h.row.le (fU hb), fun i c a hc ha => (h.mU i c a hc ha).le (fU hb), h.fl, h.ok⟩
theorem rE.node {w : World} {L : TL} {s : aC} {st : List cT} (h : rE w L s st) {i : Nat} (hi : i < s.aB.length) :
  ∃ b off c a x, s.aB[i]? = some c ∧ st[i]? = some x ∧ L.A = some ⟨b, off, none⟩ ∧ cZ w b (off + i * 11) (mN c a x) ∧ aH (all w) 1 a.1 c.src.length (aO c.src) := by
 obtain ⟨c, hc⟩ := get_some hi
 obtain ⟨a, ha⟩ := get_some (l := L.fa) (i := i) (by rw [h.fl]; exact hi)
 obtain ⟨x, hx⟩ := get_some (l := st) (i := i) (by rw [h.ok.len]; exact hi)
 have hr : (fY s L.fa st)[i]? = some (mN c a x) := by
  rw [fY, List.getElem?_zipWith, hc, (List.getElem?_zip_eq_some (z := (a, x))).2 ⟨ha, hx⟩]
 obtain ⟨b, off, hA, hro⟩ := aH.row h.row (fun r hr => by
  obtain ⟨j, hj⟩ := List.getElem?_of_mem hr
  rw [fY, List.getElem?_zipWith] at hj
  split at hj <;> cases hj
  rfl) hr hi
 exact ⟨b, off, c, a, x, hc, hx, hA, hro, h.mU i c a hc ha⟩
def nO (s : aC) (fa : List (Option Addr × Nat)) (p : Piece) : Prop := ∀ (i : Nat) (c : dG) (a : Option Addr × Nat), s.aB[i]? = some c → fa[i]? = some a → aH p 1 a.1 c.src.length (aO c.src)
theorem nO.le {s : aC} {fa : List (Option Addr × Nat)} (p q : Piece) (hl : p.Le q) (h : nO s fa p) : nO s fa q := fun i c a hc ha => (h i c a hc ha).le hl
def jF (L : TL) (s : aC) (st : List cT) : HP := HP.many [HP.aF L.t 225 [.slice L.A s.aB.length L.c], HP.own 227 11 (.slice L.A s.aB.length L.c) s.aB.length (fY s L.fa st).flatten, HP.dV (nO s L.fa) (nO.le (s := s) (fa := L.fa))]
theorem jF.reads {L : TL} {s : aC} {st : List cT} {F : Nat → Prop} {w : World} (h : (jF L s st).sat F w) (hF : ∀ b, F b → b < w.heap.size) (hfl : L.fa.length = s.aB.length) (hok : lS s st) : rE w L s st := by
 obtain ⟨G, g1, g2, _⟩ := h
 have h0 := g1 0 _ rfl
 have h1 := g1 1 _ rfl
 have h2 := g1 2 _ rfl
 have hl : ∀ i b, G i b → b < w.heap.size := fun i b hb => hF b (g2 i b hb)
 obtain ⟨A', c', he, hs⟩ := aH.rN (Y := fun b => b < w.heap.size) h1 (hl 1)
 injection he with he
 subst he
 exact ⟨⟨h0.2.lt, by rw [h0.2.cell]; rfl⟩, hs, fun i c a hc ha => (h2 i c a hc ha).le (fun b hb => ⟨hl 2 b hb, rfl⟩), hfl, hok⟩
theorem aBI (t n c b off i : Nat) (w : World) (h0 : eW w t 0 (.slice (some ⟨b, off, none⟩) n c)) (hi : i < n) :
  Calls Tryz.prog 160 #[.pointer (some ⟨t, 0, none⟩), .int .i64 (i : Int)] w (Rt (.pointer (some ⟨b, off + i * 11, none⟩)) w) := by
 refine XK.enter (vs := [.pointer (some ⟨t, 0, none⟩), .int .i64 (i : Int)]) Tryz.func160 rfl Tryz.ntmps160 (by simp) ?_
 refine XK.go ?_
 refine bT (t := 11) rfl (fun h => absurd h (by omega)) (fun _ => ?_)
 refine XK.go ?_
 refine XK.if_ rfl (fun h => absurd h (by omega)) (fun _ => ?_)
 refine XK.go ?_
 refine kd (dat i (off + i * 11)) ?_
 refine XK.go ?_
 exact XK.bU (by simp) rfl
theorem aBH (t n c : Nat) (A : Option Addr) (i : Int) (w : World) (h0 : eW w t 0 (.slice A n c)) (hi : cF n i = false) :
  Calls Tryz.prog 160 #[.pointer (some ⟨t, 0, none⟩), .int .i64 i] w (Rt (.pointer none) w) := by
 have hi := of_decide_eq_false hi
 refine XK.enter (vs := [.pointer (some ⟨t, 0, none⟩), .int .i64 i]) Tryz.func160 rfl Tryz.ntmps160 (by simp) ?_
 refine XK.go ?_
 refine bT (t := 11) rfl (fun h => ?_) (fun h => ?_)
 ·refine XK.go ?_
  exact XK.bU (by simp) rfl
 ·refine XK.go ?_
  refine XK.if_ rfl (fun h => ?_) (fun h => absurd hi (by omega))
  refine XK.go ?_
  exact XK.bU (by simp) rfl
theorem Fq (L : TL) (s : aC) (st : List cT) (i f : Nat) (c : dG) (fs : List Int) (w : World) (hR : rE w L s st) (hi : s.aB[i]? = some c) (hf : c.src = (f : Int) :: fs) :
  Calls Tryz.prog 167 #[.pointer (some ⟨L.t, 0, none⟩), .int .i64 (i : Int)] w (Rt (.int .i64 (f : Int)) w) := by
 have hlt : i < s.aB.length := (List.getElem?_eq_some_iff.1 hi).1
 obtain ⟨b, off, c', a, x, hc, hx, hA, hro, hs⟩ := hR.node hlt
 obtain rfl : c = c' := by rw [hi] at hc; exact Option.some.inj hc
 have h0 := hR.r0
 rw [hA] at h0
 have h1 := hro.at_ (j := 1) rfl
 have h8 := hro.at_ (j := 8) rfl
 rw [hf] at h1 hs
 obtain ⟨b2, o2, Kj, lG, uW⟩ := hs.2 (by simp)
 rw [Kj] at h1
 have h2 : eW w b2 o2 (.int .i64 (f : Int)) := ⟨lG, uW 0 _ rfl⟩
 refine XK.enter (vs := [.pointer (some ⟨L.t, 0, none⟩), .int .i64 (i : Int)]) Tryz.func167 rfl Tryz.ntmps167 (by simp) ?_
 refine XK.go ?_
 refine kd (dat i (off + i * 11)) ?_
 refine XK.go ?_
 refine XK.jD ?_
 refine XQ.go ?_
 refine XQ.kd (dat 0 o2 (hlt := by simp)) ?_
 refine XQ.end_ ?_
 refine XK.go ?_
 exact XK.bU (by simp) rfl
theorem aHA (L : TL) (s : aC) (st : List cT) (hH : s.bO) (b1 b2 : Nat) : ∀ (i : Nat), i < s.aB.length → ∀ w, rE w L s st → eW w b1 0 (.pointer (some ⟨L.t, 0, none⟩)) → eW w b2 0 (.func (.func 173) #[] #[.pointer (some ⟨b1, 0, none⟩), .pointer (some ⟨b2, 0, none⟩)]) →
  Calls Tryz.prog 173 #[.int .i64 (i : Int), .pointer (some ⟨b1, 0, none⟩), .pointer (some ⟨b2, 0, none⟩)] w (Rt (.bool (runs s st i)) w) := by
 intro i
 induction i using Nat.strongRecOn with
 | _ i ih =>
  intro hlt w hR Ch cX
  obtain ⟨b, off, c, a, x, hc, hx, hA, hro, hs⟩ := hR.node hlt
  have hrun := Zm hH.t.aB hc hx
  have h0 := hR.r0
  rw [hA] at h0
  have k0 := hro.at_ (j := 0) rfl
  have k6 := hro.at_ (j := 6) rfl
  have k7 := hro.at_ (j := 7) rfl
  have Ey : ∀ {w1}, Below w.heap.size w w1 → eW w1 b1 0 (.pointer (some ⟨L.t, 0, none⟩)) := fun hb => ⟨Nat.lt_of_lt_of_le Ch.1 hb.size, (hb.cell (p := ⟨_, 0, none⟩) Ch.1).trans Ch.2⟩
  have go2 : ∀ {w1}, Below w.heap.size w w1 → eW w1 b2 0 (.func (.func 173) #[] #[.pointer (some ⟨b1, 0, none⟩), .pointer (some ⟨b2, 0, none⟩)]) := fun hb => ⟨Nat.lt_of_lt_of_le cX.1 hb.size, (hb.cell (p := ⟨_, 0, none⟩) cX.1).trans cX.2⟩
  obtain ⟨hsrc, hfit⟩ := hH.t.aB i c hc
  refine XK.enter (vs := [.int .i64 (i : Int), .pointer (some ⟨b1, 0, none⟩), .pointer (some ⟨b2, 0, none⟩)]) Tryz.func173 rfl Tryz.ntmps173 (by simp) ?_
  refine XK.go ?_
  refine kd (dat i (off + i * 11)) ?_
  rcases hfit with ⟨hk, hs0, _⟩ | hfit
  ·rw [hk] at k0
   refine XK.go ?_
   refine XK.bU (by simp) ?_
   rw [hrun, hs0]
   simp [lU, hk]
  obtain ⟨f, fs, hf⟩ : ∃ (f : Nat) (fs : List Int), c.src = (f : Int) :: fs := by
   cases hs0 : c.src with
   | nil => rw [hs0] at hfit; simp at hfit
   | cons f fs => exact ⟨f.toNat, fs, by have := (hsrc f (by rw [hs0]; simp)).1; rw [Int.toNat_of_nonneg this]⟩
  have Cb : f < i := by have := (hsrc f (by rw [hf]; simp)).2; omega
  have Bs : runs s st i = (lU c x && runs s st f) := by rw [hrun, hf]; rfl
  clear hrun
  rcases hfit with ⟨hk, _⟩ | ⟨hk, _⟩ | ⟨hk, _⟩ | ⟨hk, _⟩
  ·rw [hk] at k0
   cases qR : x.on
   ·rw [qR] at k6
    refine XK.go ?_
    refine XK.jD ?_
    refine XQ.end_ ?_
    refine XK.go ?_
    refine XK.bU (by simp) ?_
    rw [Bs]
    simp [lU, hk, qR]
   ·rw [qR] at k6
    refine XK.go ?_
    refine XK.jD ?_
    refine XQ.go ?_
    refine XQ.split 32 rfl (fun h => ?_) (fun h => ?_)
    ·refine XQ.go ?_
     refine XQ.call (fun w1 jA => Fq L s st i f c fs w1 (hR.below (jA.below (by simp))) hc hf) ?_
     refine XQ.go ?_
     refine XQ.yM (fi := []) (vs := [.int .i64 (f : Int)]) (ca := [.pointer (some ⟨b1, 0, none⟩), .pointer (some ⟨b2, 0, none⟩)]) (fun w1 jA => ih f Cb (by omega) w1 (hR.below (jA.below (by simp))) (Ey (jA.below (by simp))) (go2 (jA.below (by simp)))) ?_
     refine XQ.end_ ?_
     refine XK.go ?_
     refine XK.bU (by simp) ?_
     rw [Bs]
     simp [lU, hk, qR, h]
    ·refine XQ.end_ ?_
     refine XK.go ?_
     refine XK.bU (by simp) ?_
     rw [Bs]
     simp [lU, hk, qR, h]
  ·rw [hk] at k0
   refine XK.go ?_
   refine XK.jD ?_
   refine XQ.go ?_
   refine XQ.call (fun w1 jA => Fq L s st i f c fs w1 (hR.below (jA.below (by simp))) hc hf) ?_
   refine XQ.yM (fi := []) (vs := [.int .i64 (f : Int)]) (ca := [.pointer (some ⟨b1, 0, none⟩), .pointer (some ⟨b2, 0, none⟩)]) (fun w1 jA => ih f Cb (by omega) w1 (hR.below (jA.below (by simp))) (Ey (jA.below (by simp))) (go2 (jA.below (by simp)))) ?_
   refine XQ.end_ ?_
   refine XK.go ?_
   refine XK.bU (by simp) ?_
   rw [Bs]
   simp [lU, hk]
  ·rw [hk] at k0
   cases qR : x.on
   ·rw [qR] at k6
    refine XK.go ?_
    refine XK.jD ?_
    refine XQ.end_ ?_
    refine XK.go ?_
    refine XK.bU (by simp) ?_
    rw [Bs]
    simp [lU, hk, qR]
   ·rw [qR] at k6
    refine XK.go ?_
    refine XK.jD ?_
    refine XQ.go ?_
    refine XQ.call (fun w1 jA => Fq L s st i f c fs w1 (hR.below (jA.below (by simp))) hc hf) ?_
    refine XQ.go ?_
    refine XQ.yM (fi := []) (vs := [.int .i64 (f : Int)]) (ca := [.pointer (some ⟨b1, 0, none⟩), .pointer (some ⟨b2, 0, none⟩)]) (fun w1 jA => ih f Cb (by omega) w1 (hR.below (jA.below (by simp))) (Ey (jA.below (by simp))) (go2 (jA.below (by simp)))) ?_
    refine XQ.end_ ?_
    refine XK.go ?_
    refine XK.bU (by simp) ?_
    rw [Bs]
    simp [lU, hk, qR]
  ·rw [hk] at k0
   refine XK.go ?_
   refine XK.jD ?_
   refine XQ.go ?_
   refine XQ.call (fun w1 jA => Fq L s st i f c fs w1 (hR.below (jA.below (by simp))) hc hf) ?_
   refine XQ.yM (fi := []) (vs := [.int .i64 (f : Int)]) (ca := [.pointer (some ⟨b1, 0, none⟩), .pointer (some ⟨b2, 0, none⟩)]) (fun w1 jA => ih f Cb (by omega) w1 (hR.below (jA.below (by simp))) (Ey (jA.below (by simp))) (go2 (jA.below (by simp)))) ?_
   refine XQ.end_ ?_
   refine XK.go ?_
   refine XK.bU (by simp) ?_
   rw [Bs]
   simp [lU, hk]
end
section
set_option maxHeartbeats 4000000
set_option maxRecDepth 20000
section
variable {N : cN} {w0 w : World} {e : Env} {R : List Piece} {H : List HP} {K : Act → World → Prop} {L : TL} {s : aC} {st : List cT}
theorem St.Re (t : St w0 R H w) (i : Nat) (hi : H[i]? = some (jF L s st)) (hfl : L.fa.length = s.aB.length) (hok : lS s st) : rE w L s st := by
 obtain ⟨F, h1, h2, _⟩ := t.chunk hi
 exact jF.reads h1 h2 hfl hok
theorem Rd.tree (i : Nat) (hi : H[i]? = some (jF L s st)) (hfl : L.fa.length = s.aB.length) (hok : lS s st) : Rd w0 R H L.t 0 (.slice L.A s.aB.length L.c) := fun w t => (t.Re i hi hfl hok).r0.2
theorem Si (hfl : L.fa.length = s.aB.length) (hok : lS s st) : (fY s L.fa st).length = s.aB.length ∧ ∀ r ∈ fY s L.fa st, r.length = 11 := by
 have := hok.len
 refine ⟨by simp [fY]; omega, fun r hr => ?_⟩
 obtain ⟨j, hj⟩ := List.getElem?_of_mem hr
 rw [fY, List.getElem?_zipWith] at hj
 split at hj <;> cases hj
 rfl
theorem Eb {i : Nat} {c : dG} {a : Option Addr × Nat} {x : cT} (hc : s.aB[i]? = some c) (ha : L.fa[i]? = some a) (hx : st[i]? = some x) : (fY s L.fa st)[i]? = some (mN c a x) := by
 rw [fY, List.getElem?_zipWith, hc, (List.getElem?_zip_eq_some (z := (a, x))).2 ⟨ha, hx⟩]
theorem aAq {i : Nat} {c : dG} {a : Option Addr × Nat} {x : cT} (hc : s.aB[i]? = some c) (ha : L.fa[i]? = some a) (hi : i < st.length) : (fY s L.fa st).set i (mN c a x) = fY s L.fa (st.set i x) := by
 refine List.ext_getElem? fun j => ?_
 rw [List.getElem?_set]
 by_cases he : i = j
 ·subst he
  rw [if_pos rfl, Eb hc ha (x := x) (by rw [List.getElem?_set_self hi])]
  rw [if_pos]
  have h1 := (List.getElem?_eq_some_iff.1 hc).1
  have h2 := (List.getElem?_eq_some_iff.1 ha).1
  simp [fY]; omega
 ·rw [if_neg he, fY, fY, List.getElem?_zipWith, List.getElem?_zipWith]
  have hz : (L.fa.zip st)[j]? = (L.fa.zip (st.set i x))[j]? := by
   rw [List.zip_eq_zipWith, List.zip_eq_zipWith, List.getElem?_zipWith, List.getElem?_zipWith, List.getElem?_set_ne he]
  rw [hz]
theorem St.aCP {g : Nat} {cs : List Value} (t : St w0 R H w) (i j : Nat) (hi : H[i]? = some (HP.aF g 227 cs)) (hj : H[j]? = some (HP.many [HP.aF L.t 225 [.slice (some ⟨g, 0, none⟩) s.aB.length L.c], HP.emp, HP.dV (nO s L.fa) (nO.le (s := s) (fa := L.fa))])) (hA : L.A = some ⟨g, 0, none⟩) (h2 : cs.take (s.aB.length * 11) = (fY s L.fa st).flatten) (hfl : L.fa.length = s.aB.length) (hok : lS s st) : rE w L s st := by
 obtain ⟨gY, fM⟩ := Si hfl hok
 have hb := t.aF hi
 obtain ⟨F, ⟨G, g1, g2, _⟩, hlt, _⟩ := t.chunk hj
 have h0 := g1 0 _ rfl
 have aF3 := g1 2 _ rfl
 refine ⟨⟨h0.2.lt, by rw [h0.2.cell, hA]; rfl⟩, ⟨by rw [Rx _ fM, gY], fun _ => ⟨g, 0, hA, hb.lt, fun k u hu => ?_⟩⟩, fun k c a hc ha => (aF3 k c a hc ha).le (fun b hbG => ⟨hlt b (g2 2 b hbG), rfl⟩), hfl, hok⟩
 rw [← h2] at hu
 rw [Nat.zero_add]
 show w.cell? _ = _
 rw [hb.cell]
 have hk : k < s.aB.length * 11 := by
  rcases Nat.lt_or_ge k (s.aB.length * 11) with h | h
  ·exact h
  ·rw [List.getElem?_eq_none (by rw [List.length_take]; omega)] at hu; cases hu
 rw [List.getElem?_take_of_lt hk] at hu
 simpa using hu
theorem XK.aAn (i : Nat) (hi : H[i]? = some (jF L s st)) (hn : 0 < s.aB.length) (h : ∀ g cs, L.A = some ⟨g, 0, none⟩ → cs.length = L.c * 11 → cs.take (s.aB.length * 11) = (fY s L.fa st).flatten → s.aB.length ≤ L.c → L.c ≤ maxLen →
  XK N w0 K e R (HP.aF g 227 cs :: H.set i (HP.many [HP.aF L.t 225 [.slice L.A s.aB.length L.c], HP.emp, HP.dV (nO s L.fa) (nO.le (s := s) (fa := L.fa))]))) : XK N w0 K e R H := by
 refine XK.take i 1 hi rfl ?_
 refine XK.Nj 0 rfl hn fun g hA => ?_
 dsimp only [List.set]
 rw [hA]
 refine XK.vY 0 rfl fun cs h1 h2 h3 h4 => ?_
 have := h g cs hA h1 h2 h3 h4
 rw [hA] at this
 exact this
theorem XK.tH (i : Nat) {g : Nat} {cs : List Value} {st' : List cT} (hA : L.A = some ⟨g, 0, none⟩) (h1 : cs.length = L.c * 11) (h2 : cs.take (s.aB.length * 11) = (fY s L.fa st').flatten) (h3 : s.aB.length ≤ L.c) (h4 : L.c ≤ maxLen)
  (hi : H[i]? = some (HP.many [HP.aF L.t 225 [.slice (some ⟨g, 0, none⟩) s.aB.length L.c], HP.emp, HP.dV (nO s L.fa) (nO.le (s := s) (fa := L.fa))]))
  (h : XK N w0 K e R (H.set i (jF L s st'))) : XK N w0 K e R (HP.aF g 227 cs :: H) := by
 refine XK.vJ 0 (n := s.aB.length) (c := L.c) (sz := 11) rfl h1 h2 h3 h4 ?_
 dsimp only [List.set]
 rw [← hA] at hi ⊢
 exact XK.aX i 1 hi rfl h
end
theorem Lp (L : TL) (s : aC) (st : List cT) (hH : s.bO) (i : Int) (w : World) (hR : rE w L s st) :
  Calls Tryz.prog 91 #[.pointer (some ⟨L.t, 0, none⟩), .int .i64 i] w (Rt (.bool (kU s st i)) w) := by
 cases hi : cF s.aB.length i
 ·refine XK.enter (vs := [.pointer (some ⟨L.t, 0, none⟩), .int .i64 i]) Tryz.func91 rfl Tryz.ntmps91 (by simp) ?_
  refine XK.go ?_
  refine bY rfl (by decide) fun g1 => ?_
  refine XK.go ?_
  refine aZ (fun w1 t => aBH L.t s.aB.length L.c L.A i w1 ((hR.below (t.below (by simp))).r0) hi) ?_
  refine XK.go ?_
  refine XK.bU (by simp) ?_
  simp [kU, hi]
 ·obtain ⟨n, rfl⟩ : ∃ n : Nat, i = n := ⟨i.toNat, by have := of_decide_eq_true hi; omega⟩
  have hlt : n < s.aB.length := by have := of_decide_eq_true hi; omega
  obtain ⟨b, off, c, a, x, hc, hx, hA, _⟩ := hR.node hlt
  refine XK.enter (vs := [.pointer (some ⟨L.t, 0, none⟩), .int .i64 (n : Int)]) Tryz.func91 rfl Tryz.ntmps91 (by simp) ?_
  refine XK.go ?_
  refine bY rfl (by decide) fun g1 => ?_
  refine XK.go ?_
  refine aZ (fun w1 t => aBI L.t s.aB.length L.c b off n w1 (by rw [← hA]; exact (hR.below (t.below (by simp))).r0) hlt) ?_
  refine XK.go ?_
  refine bZ (cs := [.nilFunc]) (aM (by kernel_rfl)) (by decide) fun g2 => ?_
  refine XK.go ?_
  refine iL (vf := []) (vc := [.pointer (some ⟨g1, 0, none⟩), .pointer (some ⟨g2, 0, none⟩)]) rfl rfl (by decide) ?_
  refine XK.go ?_
  refine Oc (fi := []) (vs := [.int .i64 (n : Int)]) (ca := [.pointer (some ⟨g1, 0, none⟩), .pointer (some ⟨g2, 0, none⟩)]) (fun w1 t => aHA L s st hH g1 g2 n hlt w1 (hR.below (t.below (by simp))) ((t.box (i := 1) rfl).at_ (j := 0) rfl) ((t.box (i := 0) rfl).at_ (j := 0) rfl)) ?_
  refine XK.go ?_
  refine XK.bU (by simp) ?_
  simp [kU, hi]
theorem aHC (L : TL) (s : aC) (st : List cT) (hfl : L.fa.length = s.aB.length) (hok : lS s st) (i : Int) (on : Bool) (w : World) (F : Nat → Prop) (hp : (jF L s st).sat F w) (hF : ∀ b, F b → b < w.heap.size) :
  Calls Tryz.prog 78 #[.pointer (some ⟨L.t, 0, none⟩), .int .i64 i, .bool on] w (fun y w' => y = .returned (.int .i64 (iC s st i on).1) ∧ ∃ F', (jF L s (iC s st i on).2).sat F' w' ∧ bI w w' F F') := by
 cases hi : cF s.aB.length i
 ·have hr : iC s st i on = (4, st) := by simp [iC, hi]
  rw [hr]
  refine XK.dD (p := jF L s st) (F := F) (vs := [.pointer (some ⟨L.t, 0, none⟩), .int .i64 i, .bool on]) Tryz.func78 rfl Tryz.ntmps78 (by simp) hp hF ?_
  refine XK.go ?_
  refine aZ (fun w1 t => aBH L.t s.aB.length L.c L.A i w1 ((t.Re 0 rfl hfl hok).r0) hi) ?_
  refine XK.go ?_
  exact XK.aI rfl rfl fun w1 t => ⟨rfl, t.turns hF (by simp) (i := 0) rfl⟩
 ·obtain ⟨n, rfl⟩ : ∃ n : Nat, i = n := ⟨i.toNat, by have := of_decide_eq_true hi; omega⟩
  have hlt : n < s.aB.length := by have := of_decide_eq_true hi; omega
  have hl := hok.len
  obtain ⟨c, hc⟩ := get_some hlt
  obtain ⟨a, ha⟩ := get_some (l := L.fa) (i := n) (by omega)
  obtain ⟨x, hx⟩ := get_some (l := st) (i := n) (by omega)
  obtain ⟨gY, fM⟩ := Si hfl hok
  refine XK.dD (p := jF L s st) (F := F) (vs := [.pointer (some ⟨L.t, 0, none⟩), .int .i64 (n : Int), .bool on]) Tryz.func78 rfl Tryz.ntmps78 (by simp) hp hF ?_
  refine XK.aAn 0 rfl (by omega) fun g cs hA h1 h2 h3 h4 => ?_
  dsimp only [List.set]
  rw [hA]
  have hs := xY h2 gY fM (Eb hc ha hx)
  have hlen : n * 11 + 11 ≤ cs.length := by omega
  refine XK.take 1 0 rfl rfl ?_
  dsimp only [List.set]
  refine XK.go ?_
  refine aZ (fun w1 t => aBI L.t s.aB.length L.c g 0 n w1 ((t.box (i := 0) rfl).at_ (j := 0) rfl) hlt) ?_
  refine XK.aX 1 0 rfl rfl ?_
  dsimp only [List.set]
  rw [Nat.zero_add]
  refine XK.go ?_
  have hpq : ∀ x' : cT, (fY s L.fa st).set n (mN c a x') = fY s L.fa (st.set n x') := fun x' => aAq hc ha (by omega)
  refine bT (t := 19) rfl (fun hk => ?_) (fun hk => ?_)
  ·refine XK.go ?_
   refine XK.if_ rfl (fun hg => ?_) (fun hg => ?_)
   ·have hr : iC s st (n : Int) on = (1, st) := by simp [iC, hi, hc, hx, hk, hg]
    rw [hr]
    refine XK.go ?_
    refine XK.tH 0 hA h1 h2 h3 h4 rfl ?_
    exact XK.aI rfl rfl fun w1 t => ⟨rfl, t.turns hF (by simp) (i := 0) rfl⟩
   ·have hg : c.kind = 103 := Classical.not_not.1 hg
    have hr : iC s st (n : Int) on = (0, st.set n ⟨on, x.left⟩) := by simp [iC, hi, hc, hx, hg, Ea]
    rw [hr]
    have hs1 := hs.set 6 (.bool on) (by simp [mN]) (by omega)
    have pH := (pT.refl cs (n * 11) 11).set 6 (.bool on) (by decide)
    have fG := wM (r' := mN c a ⟨on, x.left⟩) h2 gY fM hlt (by omega) rfl hs1 pH
    rw [hpq] at fG
    refine XK.go ?_
    refine bT (t := 37) rfl (fun h => absurd h hk) (fun _ => ?_)
    refine XK.go ?_
    refine XK.tH 0 hA (by simpa using h1) fG h3 h4 rfl ?_
    exact XK.aI rfl rfl fun w1 t => ⟨rfl, t.turns hF (by simp) (i := 0) rfl⟩
  ·have hk : c.kind = 112 := Classical.not_not.1 hk
   have hs1 := hs.set 6 (.bool on) (by simp [mN]) (by omega)
   have pH := (pT.refl cs (n * 11) 11).set 6 (.bool on) (by decide)
   cases on
   ·have hr : iC s st (n : Int) false = (0, st.set n ⟨false, c.lock⟩) := by simp [iC, hi, hc, hx, hk, Ea]
    rw [hr]
    refine XK.go ?_
    refine bT (t := 37) rfl (fun _ => ?_) (fun h => absurd hk h)
    have fF := hs1.set 7 (.int .i64 c.lock) (by simp [mN]) (by simp; omega)
    have To := pH.set 7 (.int .i64 c.lock) (by decide)
    have fG := wM (r' := mN c a ⟨false, c.lock⟩) h2 gY fM hlt (by omega) rfl fF To
    rw [hpq] at fG
    refine XK.go ?_
    refine XK.tH 0 hA (by simpa using h1) fG h3 h4 rfl ?_
    exact XK.aI rfl rfl fun w1 t => ⟨rfl, t.turns hF (by simp) (i := 0) rfl⟩
   ·have hr : iC s st (n : Int) true = (0, st.set n ⟨true, x.left⟩) := by simp [iC, hi, hc, hx, hk, Ea]
    rw [hr]
    have fG := wM (r' := mN c a ⟨true, x.left⟩) h2 gY fM hlt (by omega) rfl hs1 pH
    rw [hpq] at fG
    refine XK.go ?_
    refine bT (t := 37) rfl (fun _ => ?_) (fun h => absurd hk h)
    refine XK.go ?_
    refine XK.tH 0 hA (by simpa using h1) fG h3 h4 rfl ?_
    exact XK.aI rfl rfl fun w1 t => ⟨rfl, t.turns hF (by simp) (i := 0) rfl⟩
end
section
set_option maxHeartbeats 4000000
set_option maxRecDepth 20000
theorem aH.xC {p : Piece} {sz n : Nat} {A : Option Addr} {rows : List (List Value)} (h : aH p sz A n rows.flatten) (hl : ∀ r ∈ rows, r.length = sz) {k : Nat} {r : List Value} (hk : rows[k]? = some r) (hn : k < n) :
  ∃ b off, A = some ⟨b, off, none⟩ ∧ p.Z b ∧ ∀ j u, r[j]? = some u → p.w.cell? ⟨b, off + k * sz + j, none⟩ = some u := by
 obtain ⟨b, off, hA, hz, hc⟩ := aH.at_ h hn
 refine ⟨b, off, hA, hz, fun j u hu => hc j u ?_⟩
 have hj : j < sz := by
  rw [← hl r (List.mem_of_getElem? hk)]
  exact (List.getElem?_eq_some_iff.1 hu).1
 rw [Kn rows hl k j r hk hj, hu]
theorem aD.roP {w0 : World} {R : List Piece} {H : List HP} {p : Piece} {b o : Nat} {vs : List Value} (hp : p ∈ R) (hz : p.Z b) (h : ∀ j u, vs[j]? = some u → p.w.cell? ⟨b, o + j, none⟩ = some u) : aD w0 R H b o vs := .of fun j v hj => Rd.ro hp hz (h j v hj)
theorem Lq (s : aC) (A1 A2 A3 A4 : Option Addr) (n1 k1 n2 k2 n3 k3 n4 k4 : Nat) (w : World) (hW : fA w s A1 n1 A2 n2 A3 n3 A4 n4) (aFW : Px s = 0) :
  Calls Tryz.prog 59 #[.agg #[.slice A1 n1 k1, .slice A2 n2 k2, .slice A3 n3 k3, .slice A4 n4 k4]] w (Rt (.int .i64 0) w) := by
 have := aBK s A1 A2 A3 A4 n1 k1 n2 k2 n3 k3 n4 k4 w hW
 rw [aFW] at this
 exact this
def aCe (s : aC) (v : Value) (hs : List HP) (_ : Piece) : Prop := ∃ L : TL, v = .tuple #[.pointer (some ⟨L.t, 0, none⟩), .int .i64 0] ∧ hs = [jF L s (s.aB.map sC)] ∧ L.fa.length = s.aB.length
theorem aHD (s : aC) (hH : s.bO) (A1 A2 A3 A4 : Option Addr) (n1 k1 n2 k2 n3 k3 n4 k4 : Nat) (w : World) (hW : fA w s A1 n1 A2 n2 A3 n3 A4 n4) :
  Calls Tryz.prog 60 #[.agg #[.slice A1 n1 k1, .slice A2 n2 k2, .slice A3 n3 k3, .slice A4 n4 k4]] w (fun y w' => (∃ v hs q, y = .returned v ∧ q.w = w' ∧ aCe s v hs q ∧ kA w hs q) ∧ Below w.heap.size w w') := by
 have hnc := hH.t.nc
 have Jd : ∀ d ∈ s.aA, d.aQ.length ≤ 1000000 := fun d hd => by
  obtain ⟨i, hi⟩ := List.getElem?_of_mem hd
  have := hH.t.aA i d hi
  unfold bB.fit at this
  omega
 refine XK.enter (vs := [.agg #[.slice A1 n1 k1, .slice A2 n2 k2, .slice A3 n3 k3, .slice A4 n4 k4]]) Tryz.func60 rfl Tryz.ntmps60 (by simp) ?_
 refine XK.go ?_
 refine bY rfl (by decide) fun g1 => ?_
 dsimp only [Value.cells]
 refine XK.go ?_
 refine aZ (fun w1 t => Lq s A1 A2 A3 A4 n1 k1 n2 k2 n3 k3 n4 k4 w1 (hW.le (t.started (by simp))) hH.t.Fs) ?_
 refine XK.go ?_
 refine dB (zs := [.slice none 0 0]) (L := [(0, 1)]) (aM (by kernel_rfl)) (by kernel_rfl) rfl (by simp [aR, aU, Value.cells]; rfl) (by decide) ?_
 refine bY rfl (by decide) fun g2 => ?_
 dsimp only [Value.cells]
 refine XK.go ?_
 refine iY [] (f := 67) (fi := []) (ca := []) (by kernel_rfl) rfl rfl (by decide) (by simp) (Xs s) (fun w1 t => aBD s A1 A2 A3 A4 n1 k1 n2 k2 n3 k3 n4 k4 w1 (hW.le (t.started (by simp))) Jd) ?_
 rintro _ w1 q1 ⟨cs1, rfl, hS⟩ fG _ Uw
 have Uw := Uw (by simp)
 obtain ⟨B1, m1, j1, B2, m2, j2, B3, m3, j3, B4, m4, j4, rfl, mF⟩ := (hS.mono (gE fG)).Q
 clear fG hS
 obtain ⟨rc, hrc, Uj, hsc⟩ := mF.fH
 obtain ⟨fa, hfl, rfl, Pc⟩ := Ws hrc
 subst Uj
 obtain ⟨eN, uT⟩ := Mh (f := tJ) (es := s.aB) (bs := fa) (sz := 6) hfl (fun _ _ => rfl)
 have pM : (s.aB.map sC).length = s.aB.length := by simp
 refine kd (aB9 (off := 0) (cs := [.slice B1 s.aB.length j1, .slice B2 m2 j2, .slice B3 m3 j3, .slice B4 m4 j4]) (by kernel_rfl) rfl rfl) ?_
 refine XK.go ?_
 refine XK.kN 227 11 ?_
 refine XK.aK [(20, .int .i64 0), (19, .int .i64 s.aB.length), (18, .slice B1 s.aB.length j1), (5, .pointer (some ⟨g2, 0, none⟩))] ?_
 refine XK.loop (fun m e R H => ∃ (i : Nat) (A : Option Addr) (k : Nat), i ≤ s.aB.length ∧ m = s.aB.length - i ∧ e = [(20, .int .i64 i), (19, .int .i64 s.aB.length), (18, .slice B1 s.aB.length j1), (5, .pointer (some ⟨g2, 0, none⟩))] ∧ R = [q1, all w] ∧ H = [HP.own 227 11 (.slice A i k) i ((fY s fa (s.aB.map sC)).take i).flatten, HP.aF g2 225 [.slice A i k], HP.aF g1 29 [.slice A1 n1 k1, .slice A2 n2 k2, .slice A3 n3 k3, .slice A4 n4 k4]]) s.aB.length ⟨0, none, 0, by omega, rfl, rfl, rfl, by simp⟩ fun m e R H hI => ?_
 obtain ⟨i, A, k, hi, rfl, rfl, rfl, rfl⟩ := hI
 refine XK.go ?_
 refine XK.if_ rfl (fun hlt => ?_) (fun hge => ?_)
 ·have hlt : i < s.aB.length := by omega
  obtain ⟨c, hc⟩ := get_some hlt
  obtain ⟨a, ha⟩ := get_some (l := fa) (i := i) (by omega)
  obtain ⟨b, off, hB, hz, hcell⟩ := aH.xC hsc uT (Gg hc ha) hlt
  subst hB
  have hrow : (fY s fa (s.aB.map sC))[i]? = some (mN c a (sC c)) := Eb (L := ⟨0, none, 0, fa⟩) hc ha (by rw [List.getElem?_map, hc]; rfl)
  have iF : ((fY s fa (s.aB.map sC)).take (i + 1)).flatten = ((fY s fa (s.aB.map sC)).take i).flatten ++ mN c a (sC c) := by
   rw [List.take_succ, hrow, List.flatten_append]; simp
  have hrn : ∀ H, aD w [q1, all w] H b (off + i * 6) (tJ c a) := fun H => aD.roP (by simp) hz hcell
  have aIr := hrn [HP.own 227 11 (.slice A i k) i ((fY s fa (s.aB.map sC)).take i).flatten, HP.aF g2 225 [.slice A i k], HP.aF g1 29 [.slice A1 n1 k1, .slice A2 n2 k2, .slice A3 n3 k3, .slice A4 n4 k4]]
  refine XK.go ?_
  refine kd (dat i (off + i * 6)) ?_
  refine XK.go ?_
  refine bZ (cs := [.int .u8 0, .slice none 0 0, .int .u64 0, .int .i64 0, .int .i64 0, .int .i64 0]) (aM (by kernel_rfl)) (by decide) fun g3 => ?_
  obtain ⟨kd, src, rate, mul, dv, lock⟩ := c
  dsimp only [tJ]
  refine XK.go ?_
  refine dB (zs := [.int .u8 0, .slice none 0 0, .int .u64 0, .int .i64 0, .int .i64 0, .int .i64 0, .bool false, .int .i64 0, .int .i64 0, .int .i64 0, .int .i64 0]) (L := [(0, 6), (6, 1), (7, 1), (8, 1), (9, 1), (10, 1)]) (aM (by kernel_rfl)) (by kernel_rfl) rfl (by simp [aR, aU, Value.cells]; rfl) (by decide) ?_
  refine bZ (cs := [.int .u8 0, .slice none 0 0, .int .u64 0, .int .i64 0, .int .i64 0, .int .i64 0, .bool false, .int .i64 0, .int .i64 0, .int .i64 0, .int .i64 0]) (aM (by kernel_rfl)) (by decide) fun g4 => ?_
  have hfit := (hH.t.aB i _ hc).2
  dsimp only at hfit
  rcases hfit with ⟨rfl, _⟩ | ⟨rfl, _⟩ | ⟨rfl, _⟩ | ⟨rfl, _⟩ | ⟨rfl, _⟩
  ·skip
   refine XK.go ?_
   refine XK.eR [2, 3, 4, 5] ?_
   refine XB.mv 0 ?_
   refine XB.mv 1 ?_
   refine XB.q 2 ?_
   refine XB.q 3 ?_
   refine XB.q 4 ?_
   refine XB.q 5 ?_
   refine XB.next 6 rfl (by kernel_rfl) ?_
   refine eP (el := 227) (sz := 11) (zs := [.int .u8 0, .slice none 0 0, .int .u64 0, .int .i64 0, .int .i64 0, .int .i64 0, .bool false, .int .i64 0, .int .i64 0, .int .i64 0, .int .i64 0]) (by kernel_rfl) (aM (by kernel_rfl)) (by kernel_rfl) rfl (by decide) (by decide) rfl (by simp [aR, aU, Value.cells, List.range_succ, List.set]; rfl) (by decide) fun g5 => ?_
   refine XB.bk ?_
   refine XB.next 7 rfl (by kernel_rfl) ?_
   refine fI 3 11 104 1 (el := 227) (by kernel_rfl) (by kernel_rfl) (by decide) rfl rfl rfl (kL 0 rfl rfl) (by simp [Value.oneCell']) rfl (by omega) (by omega) (by decide) fun A' k' => ?_
   dsimp only [List.set]
   refine XB.bt ?_
   refine XB.next 8 rfl (by kernel_rfl) ?_
   refine bJ ?_
   refine XB.bt ?_
   refine XB.next 9 rfl (by kernel_rfl) ?_
   refine bJ ?_
   refine XB.bt ?_
   refine XB.next 10 rfl (by kernel_rfl) ?_
   refine iE rfl rfl ?_
   dsimp only [List.set]
   refine XB.bt ?_
   refine XB.done (by kernel_rfl) ?_
   refine XK.go ?_
   refine XK.weak [3, 4, 5] rfl (by decide) (fun _ h => h) ?_
   refine XK.aK [(20, .int .i64 (i + 1 : Nat)), (19, .int .i64 s.aB.length), (18, .slice (some ⟨b, off, none⟩) s.aB.length j1), (5, .pointer (some ⟨g2, 0, none⟩))] ?_
   exact XK.round (s.aB.length - (i + 1)) (by omega) ⟨i + 1, A', k', hlt, rfl, rfl, rfl, by rw [iF]; rfl⟩
  ·skip
   refine XK.go ?_
   refine XK.eR [2, 3, 4, 5] ?_
   refine XB.mv 0 ?_
   refine XB.mv 1 ?_
   refine XB.q 2 ?_
   refine XB.q 3 ?_
   refine XB.q 4 ?_
   refine XB.q 5 ?_
   refine XB.next 6 rfl (by kernel_rfl) ?_
   refine eP (el := 227) (sz := 11) (zs := [.int .u8 0, .slice none 0 0, .int .u64 0, .int .i64 0, .int .i64 0, .int .i64 0, .bool false, .int .i64 0, .int .i64 0, .int .i64 0, .int .i64 0]) (by kernel_rfl) (aM (by kernel_rfl)) (by kernel_rfl) rfl (by decide) (by decide) rfl (by simp [aR, aU, Value.cells, List.range_succ, List.set]; rfl) (by decide) fun g5 => ?_
   refine XB.bk ?_
   refine XB.next 7 rfl (by kernel_rfl) ?_
   refine fI 3 11 104 1 (el := 227) (by kernel_rfl) (by kernel_rfl) (by decide) rfl rfl rfl (kL 0 rfl rfl) (by simp [Value.oneCell']) rfl (by omega) (by omega) (by decide) fun A' k' => ?_
   dsimp only [List.set]
   refine XB.bt ?_
   refine XB.next 8 rfl (by kernel_rfl) ?_
   refine bJ ?_
   refine XB.bt ?_
   refine XB.next 9 rfl (by kernel_rfl) ?_
   refine bJ ?_
   refine XB.bt ?_
   refine XB.next 10 rfl (by kernel_rfl) ?_
   refine iE rfl rfl ?_
   dsimp only [List.set]
   refine XB.bt ?_
   refine XB.done (by kernel_rfl) ?_
   refine XK.go ?_
   refine XK.weak [3, 4, 5] rfl (by decide) (fun _ h => h) ?_
   refine XK.aK [(20, .int .i64 (i + 1 : Nat)), (19, .int .i64 s.aB.length), (18, .slice (some ⟨b, off, none⟩) s.aB.length j1), (5, .pointer (some ⟨g2, 0, none⟩))] ?_
   exact XK.round (s.aB.length - (i + 1)) (by omega) ⟨i + 1, A', k', hlt, rfl, rfl, rfl, by rw [iF]; rfl⟩
  ·skip
   refine XK.go ?_
   refine XK.eR [2, 3, 4, 5] ?_
   refine XB.mv 0 ?_
   refine XB.mv 1 ?_
   refine XB.q 2 ?_
   refine XB.q 3 ?_
   refine XB.q 4 ?_
   refine XB.q 5 ?_
   refine XB.next 6 rfl (by kernel_rfl) ?_
   refine eP (el := 227) (sz := 11) (zs := [.int .u8 0, .slice none 0 0, .int .u64 0, .int .i64 0, .int .i64 0, .int .i64 0, .bool false, .int .i64 0, .int .i64 0, .int .i64 0, .int .i64 0]) (by kernel_rfl) (aM (by kernel_rfl)) (by kernel_rfl) rfl (by decide) (by decide) rfl (by simp [aR, aU, Value.cells, List.range_succ, List.set]; rfl) (by decide) fun g5 => ?_
   refine XB.bk ?_
   refine XB.next 7 rfl (by kernel_rfl) ?_
   refine fI 3 11 104 1 (el := 227) (by kernel_rfl) (by kernel_rfl) (by decide) rfl rfl rfl (kL 0 rfl rfl) (by simp [Value.oneCell']) rfl (by omega) (by omega) (by decide) fun A' k' => ?_
   dsimp only [List.set]
   refine XB.bt ?_
   refine XB.next 8 rfl (by kernel_rfl) ?_
   refine bJ ?_
   refine XB.bt ?_
   refine XB.next 9 rfl (by kernel_rfl) ?_
   refine bJ ?_
   refine XB.bt ?_
   refine XB.next 10 rfl (by kernel_rfl) ?_
   refine iE rfl rfl ?_
   dsimp only [List.set]
   refine XB.bt ?_
   refine XB.done (by kernel_rfl) ?_
   refine XK.go ?_
   refine XK.weak [3, 4, 5] rfl (by decide) (fun _ h => h) ?_
   refine XK.aK [(20, .int .i64 (i + 1 : Nat)), (19, .int .i64 s.aB.length), (18, .slice (some ⟨b, off, none⟩) s.aB.length j1), (5, .pointer (some ⟨g2, 0, none⟩))] ?_
   exact XK.round (s.aB.length - (i + 1)) (by omega) ⟨i + 1, A', k', hlt, rfl, rfl, rfl, by rw [iF]; rfl⟩
  ·skip
   refine XK.go ?_
   refine XK.eR [2, 3, 4, 5] ?_
   refine XB.mv 0 ?_
   refine XB.mv 1 ?_
   refine XB.q 2 ?_
   refine XB.q 3 ?_
   refine XB.q 4 ?_
   refine XB.q 5 ?_
   refine XB.next 6 rfl (by kernel_rfl) ?_
   refine eP (el := 227) (sz := 11) (zs := [.int .u8 0, .slice none 0 0, .int .u64 0, .int .i64 0, .int .i64 0, .int .i64 0, .bool false, .int .i64 0, .int .i64 0, .int .i64 0, .int .i64 0]) (by kernel_rfl) (aM (by kernel_rfl)) (by kernel_rfl) rfl (by decide) (by decide) rfl (by simp [aR, aU, Value.cells, List.range_succ, List.set]; rfl) (by decide) fun g5 => ?_
   refine XB.bk ?_
   refine XB.next 7 rfl (by kernel_rfl) ?_
   refine fI 3 11 104 1 (el := 227) (by kernel_rfl) (by kernel_rfl) (by decide) rfl rfl rfl (kL 0 rfl rfl) (by simp [Value.oneCell']) rfl (by omega) (by omega) (by decide) fun A' k' => ?_
   dsimp only [List.set]
   refine XB.bt ?_
   refine XB.next 8 rfl (by kernel_rfl) ?_
   refine bJ ?_
   refine XB.bt ?_
   refine XB.next 9 rfl (by kernel_rfl) ?_
   refine bJ ?_
   refine XB.bt ?_
   refine XB.next 10 rfl (by kernel_rfl) ?_
   refine iE rfl rfl ?_
   dsimp only [List.set]
   refine XB.bt ?_
   refine XB.done (by kernel_rfl) ?_
   refine XK.go ?_
   refine XK.weak [3, 4, 5] rfl (by decide) (fun _ h => h) ?_
   refine XK.aK [(20, .int .i64 (i + 1 : Nat)), (19, .int .i64 s.aB.length), (18, .slice (some ⟨b, off, none⟩) s.aB.length j1), (5, .pointer (some ⟨g2, 0, none⟩))] ?_
   exact XK.round (s.aB.length - (i + 1)) (by omega) ⟨i + 1, A', k', hlt, rfl, rfl, rfl, by rw [iF]; rfl⟩
  ·skip
   refine XK.go ?_
   refine XK.eR [2, 3, 4, 5] ?_
   refine XB.mv 0 ?_
   refine XB.mv 1 ?_
   refine XB.q 2 ?_
   refine XB.q 3 ?_
   refine XB.q 4 ?_
   refine XB.q 5 ?_
   refine XB.next 6 rfl (by kernel_rfl) ?_
   refine eP (el := 227) (sz := 11) (zs := [.int .u8 0, .slice none 0 0, .int .u64 0, .int .i64 0, .int .i64 0, .int .i64 0, .bool false, .int .i64 0, .int .i64 0, .int .i64 0, .int .i64 0]) (by kernel_rfl) (aM (by kernel_rfl)) (by kernel_rfl) rfl (by decide) (by decide) rfl (by simp [aR, aU, Value.cells, List.range_succ, List.set]; rfl) (by decide) fun g5 => ?_
   refine XB.bk ?_
   refine XB.next 7 rfl (by kernel_rfl) ?_
   refine fI 3 11 104 1 (el := 227) (by kernel_rfl) (by kernel_rfl) (by decide) rfl rfl rfl (kL 0 rfl rfl) (by simp [Value.oneCell']) rfl (by omega) (by omega) (by decide) fun A' k' => ?_
   dsimp only [List.set]
   refine XB.bt ?_
   refine XB.next 8 rfl (by kernel_rfl) ?_
   refine bJ ?_
   refine XB.bt ?_
   refine XB.next 9 rfl (by kernel_rfl) ?_
   refine bJ ?_
   refine XB.bt ?_
   refine XB.next 10 rfl (by kernel_rfl) ?_
   refine iE rfl rfl ?_
   dsimp only [List.set]
   refine XB.bt ?_
   refine XB.done (by kernel_rfl) ?_
   refine XK.go ?_
   refine XK.weak [3, 4, 5] rfl (by decide) (fun _ h => h) ?_
   refine XK.aK [(20, .int .i64 (i + 1 : Nat)), (19, .int .i64 s.aB.length), (18, .slice (some ⟨b, off, none⟩) s.aB.length j1), (5, .pointer (some ⟨g2, 0, none⟩))] ?_
   exact XK.round (s.aB.length - (i + 1)) (by omega) ⟨i + 1, A', k', hlt, rfl, rfl, rfl, by rw [iF]; rfl⟩
 ·obtain rfl : i = s.aB.length := by omega
  refine XK.go ?_
  have hfull : (fY s fa (s.aB.map sC)).take s.aB.length = fY s fa (s.aB.map sC) := List.take_of_length_le (by simp [fY]; omega)
  rw [hfull]
  refine XK.weak [1, 0] rfl (by decide) (fun _ h => h) ?_
  refine XK.Ni Uw (by simp [all]) (Φ := nO s fa) (hm := nO.le (s := s) (fa := fa)) (fun i c a hc ha => Pc i c a hc ha) ?_
  refine XK.weak [1, 2, 0] rfl (by decide) (fun _ h => h) ?_
  refine XK.three ?_
  refine XK.still [] [] [0] (by simp) rfl (by decide) (by decide) fun q _ _ hfr => ?_
  exact XK.fQ rfl rfl rfl fun w1 t => ⟨⟨_, _, ⟨w1, q.Z⟩, rfl, rfl, ⟨⟨g2, A, k, fa⟩, rfl, rfl, hfl⟩, t.newR (by simp) (by simp) (hfr (by simp) (by simp))⟩, t.below (by simp)⟩
end
section
set_option maxHeartbeats 4000000
set_option maxRecDepth 20000
def eY (r : Int) (x : fV) : Value := .agg #[.int .i64 r, .int .i64 x.left, .bool x.held, .bool x.wanted]
def Bm (s : aC) (st : List fV) (i : Nat) : Int × Value := ((i : Int), eY (s.aW.getD i 0) (st.getD i mO))
def jV (s : aC) (st : List fV) : List (Int × Value) := (List.range st.length).map (Bm s st)
theorem aAy (f : Nat → Value) (n : Nat) (i : Int) : jU ((List.range n).map fun j : Nat => ((j : Int), f j)) i = if cF n i then some (f i.toNat) else none := by
 induction n with
 | zero =>
  have : cF 0 i = false := decide_eq_false (by omega)
  rw [this]; rfl
 | succ n ih =>
  have h0 : jU ((List.range (n + 1)).map fun j : Nat => ((j : Int), f j)) i = (jU ((List.range n).map fun j : Nat => ((j : Int), f j)) i).or (jU [((n : Int), f n)] i) := by
   rw [List.range_succ, List.map_append]
   unfold jU
   rw [List.find?_append]
   cases List.find? (fun p => decide (p.1 = i)) ((List.range n).map fun j : Nat => ((j : Int), f j)) <;> rfl
  rw [h0, ih]
  by_cases h1 : cF n i = true
  ·have : cF (n + 1) i = true := by have := of_decide_eq_true h1; exact decide_eq_true (by omega)
   rw [if_pos h1, if_pos this]; rfl
  ·have hf : cF n i = false := by simpa using h1
   have := of_decide_eq_false hf
   rw [if_neg h1, Il]
   by_cases h2 : (n : Int) = i
   ·subst h2
    have : cF (n + 1) (n : Int) = true := decide_eq_true (by omega)
    rw [if_pos rfl, if_pos this]; rfl
   ·have h3 : cF (n + 1) i = false := decide_eq_false (by omega)
    rw [if_neg h2, h3]; rfl
theorem aEF (f : Nat → Value) (n i : Nat) (v : Value) (hi : i < n) : lD ((List.range n).map fun j : Nat => ((j : Int), f j)) (i : Int) v = (List.range n).map fun j : Nat => ((j : Int), if j = i then v else f j) := by
  have key : ∀ (l : List Nat), i ∈ l → l.Nodup → lD (l.map fun j : Nat => ((j : Int), f j)) (i : Int) v = l.map fun j : Nat => ((j : Int), if j = i then v else f j) := by
    intro l
    induction l with
    | nil => intro h; simp at h
    | cons a l ih =>
      intro h hn
      rw [List.map_cons, lD, List.map_cons]
      by_cases ha : (a : Int) = (i : Int)
      · have uZ : a = i := by omega
        subst uZ
        rw [if_pos rfl, if_pos rfl]
        congr 1
        refine List.map_congr_left fun j hj => ?_
        rw [if_neg (fun he : j = a => (List.nodup_cons.1 hn).1 (he ▸ hj))]
      · rw [if_neg ha, if_neg (by omega)]
        congr 1
        exact ih (by rcases List.mem_cons.1 h with h | h
                     · omega
                     · exact h) (List.nodup_cons.1 hn).2
  exact key _ (List.mem_range.2 hi) List.nodup_range
theorem aAz {s : aC} {st : List fV} (i : Int) : jU (jV s st) i = if cF st.length i then some (eY (s.aW.getD i.toNat 0) (st.getD i.toNat mO)) else none := aAy (fun j => eY (s.aW.getD j 0) (st.getD j mO)) st.length i
theorem Sm {s : aC} {st : List fV} {i : Nat} {x : fV} {r : Int} (hr : s.aW.getD i 0 = r) (hi : i < st.length) : lD (jV s st) (i : Int) (eY r x) = jV s (st.set i x) := by
 have := aEF (fun j => eY (s.aW.getD j 0) (st.getD j mO)) st.length i (eY r x) hi
 refine this.trans ?_
 unfold jV
 rw [List.length_set]
 refine List.map_congr_left fun j hj => ?_
 unfold Bm
 congr 1
 by_cases he : j = i
 ·subst he
  rw [if_pos rfl, ← hr, List.getD_eq_getElem?_getD (l := st.set j x), List.getElem?_set_self hi]
  rfl
 ·rw [if_neg he, List.getD_eq_getElem?_getD (l := st.set i x), List.getElem?_set_ne (Ne.symm he), List.getD_eq_getElem?_getD (l := st)]
structure RL where
 t : Nat
 g : Nat
def iH (L : RL) (s : aC) (st : List fV) : HP := HP.many [HP.aF L.t 235 [.map (some L.g)], HP.map L.g (jV s st)]
structure Ak (w : World) (L : RL) (s : aC) (st : List fV) : Prop where
 r0 : eW w L.t 0 (.map (some L.g))
 m : sF w L.g (jV s st)
theorem Ak.below {w w' : World} {L : RL} {s : aC} {st : List fV} (h : Ak w L s st) (hb : Below w.heap.size w w') : Ak w' L s st :=
 ⟨⟨Nat.lt_of_lt_of_le h.r0.1 hb.size, (hb.cell (p := ⟨_, 0, none⟩) h.r0.1).trans h.r0.2⟩, h.m.below hb⟩
section
variable {N : cN} {w0 w : World} {e : Env} {R : List Piece} {H : List HP} {K : Act → World → Prop} {L : RL} {s : aC} {st : List fV}
theorem iH.reads {F : Nat → Prop} (h : (iH L s st).sat F w) : Ak w L s st := by
 obtain ⟨G, g1, g2, _⟩ := h
 have h0 := g1 0 _ rfl
 exact ⟨⟨h0.2.lt, by rw [h0.2.cell]; rfl⟩, (g1 1 _ rfl).2⟩
theorem St.Ef (t : St w0 R H w) (i : Nat) (hi : H[i]? = some (iH L s st)) : Ak w L s st := by
 obtain ⟨F, h1, h2, _⟩ := t.chunk hi
 exact iH.reads h1
end
theorem aA7 : (Tryz.prog.info? 237).bind (·.zero) = some (eY 0 ⟨0, false, false⟩) := by kernel_rfl
def oG (s : aC) (st : List fV) (i : Int) : Value := if cF st.length i then eY (s.aW.getD i.toNat 0) (st.getD i.toNat mO) else eY 0 ⟨0, false, false⟩
theorem aGG (s : aC) (st : List fV) (i : Int) : ∃ r x, oG s st i = eY r x := by
 unfold oG
 split
 ·exact ⟨_, _, rfl⟩
 ·exact ⟨_, _, rfl⟩
theorem Hu (L : RL) (s : aC) (st : List fV) (i : Int) (w : World) (hR : Ak w L s st) :
  Calls Tryz.prog 174 #[.pointer (some ⟨L.t, 0, none⟩), .int .i64 i] w (Rt (.tuple #[oG s st i, .bool (cF st.length i)]) w) := by
 have h0 := hR.r0
 obtain ⟨r, x, hv⟩ := aGG s st i
 have hm := aAz (s := s) (st := st) i
 have hz : (jU (jV s st) i).getD (eY 0 ⟨0, false, false⟩) = eY r x := by
  rw [hm, ← hv, oG]
  split <;> rfl
 have hb : (jU (jV s st) i).isSome = cF st.length i := by
  rw [hm]
  split
  ·rename_i h; rw [h]; rfl
  ·rename_i h; simp at h; rw [h]; rfl
 rw [hv]
 refine XK.enter (vs := [.pointer (some ⟨L.t, 0, none⟩), .int .i64 i]) Tryz.func174 rfl Tryz.ntmps174 (by simp) ?_
 refine XK.go ?_
 refine bZ (cs := [.int .i64 0, .int .i64 0, .bool false, .bool false]) (aM (by kernel_rfl)) (by decide) fun g1 => ?_
 refine XK.go ?_
 refine Qq (kt := 3) (et := 237) (kd := .i64) (z := eY 0 ⟨0, false, false⟩) (l := jV s st) true (by kernel_rfl) (by kernel_rfl) aA7 rfl rfl (fun w1 t => (hR.below (t.below (by simp))).m) (by decide) ?_
 simp only [if_true]
 rw [hz, hb]
 refine XK.go ?_
 refine bZ (cs := [.int .i64 0, .int .i64 0, .bool false, .bool false]) (aM (by kernel_rfl)) (by decide) fun g2 => ?_
 unfold eY
 refine XK.go ?_
 exact XK.Hw rfl (by kernel_rfl) rfl rfl (by first | assumption | exact aD.whole 0 rfl | exact aD.whole 1 rfl | exact aD.whole 2 rfl | exact aD.whole 3 rfl | exact aD.whole 4 rfl | exact aD.whole 5 rfl | exact aD.whole 6 rfl | exact aD.whole 7 rfl | exact aD.whole 8 rfl | exact aD.fD (by simp) (by assumption)) rfl fun w1 t => ⟨rfl, t.below (by simp)⟩
theorem Zw (L : RL) (s : aC) (st : List fV) (i : Int) (w : World) (hR : Ak w L s st) :
  Calls Tryz.prog 92 #[.pointer (some ⟨L.t, 0, none⟩), .int .i64 i] w (Rt (.bool (tB st i)) w) := by
 refine XK.enter (vs := [.pointer (some ⟨L.t, 0, none⟩), .int .i64 i]) Tryz.func92 rfl Tryz.ntmps92 (by simp) ?_
 refine XK.go ?_
 refine aZ (fun w1 t => Hu L s st i w1 (hR.below (t.below (by simp)))) ?_
 refine XK.go ?_
 refine bZ (cs := [.int .i64 0, .int .i64 0, .bool false, .bool false]) (aM (by kernel_rfl)) (by decide) fun g2 => ?_
 cases hi : cF st.length i
 ·have hv : oG s st i = eY 0 ⟨0, false, false⟩ := by simp [oG, hi]
  rw [hv]
  unfold eY
  refine XK.go ?_
  refine XK.bU (by simp) ?_
  simp [tB, hi]
 ·have hv : oG s st i = eY (s.aW.getD i.toNat 0) (st.getD i.toNat mO) := by simp [oG, hi]
  rw [hv]
  unfold eY
  refine XK.go ?_
  refine XK.bU (by simp) ?_
  have : i.toNat < st.length := by have := of_decide_eq_true hi; omega
  simp [tB, hi, List.getElem?_eq_getElem this]
end
section
set_option maxHeartbeats 4000000
set_option maxRecDepth 20000
theorem aB6 : ∀ {cl : List Dom} {rs : List (List Value)}, Rows tS 3 cl rs → rs = cl.map fun d => [.int .i64 d.above, .int .i64 d.delay, .bool d.ret]
 | [], [], _ => rfl
 | e :: es, r :: rs, h => by
  have h1 : r = [.int .i64 e.above, .int .i64 e.delay, .bool e.ret] := h.2.1
  rw [h1, aB6 h.2.2]
  rfl
theorem Zv : ∀ {cl : List Int} {rs : List (List Value)}, Rows tO 1 cl rs → rs = cl.map fun d => [.int .i64 d]
 | [], [], _ => rfl
 | e :: es, r :: rs, h => by
  have h1 : r = [.int .i64 e] := h.2.1
  rw [h1, Zv h.2.2]
  rfl
def aCr (s : aC) (v : Value) (hs : List HP) (_ : Piece) : Prop := ∃ L : GL, v = .tuple #[.pointer (some ⟨L.t, 0, none⟩), .int .i64 0] ∧ hs = [lR L s (s.domains.map fun _ => sA)]
theorem aDZ (s : aC) (hH : s.bO) (A1 A2 A3 A4 : Option Addr) (n1 k1 n2 k2 n3 k3 n4 k4 : Nat) (w : World) (hW : fA w s A1 n1 A2 n2 A3 n3 A4 n4) :
  Calls Tryz.prog 61 #[.agg #[.slice A1 n1 k1, .slice A2 n2 k2, .slice A3 n3 k3, .slice A4 n4 k4]] w (fun y w' => (∃ v hs q, y = .returned v ∧ q.w = w' ∧ aCr s v hs q ∧ kA w hs q) ∧ Below w.heap.size w w') := by
 have hnd := hH.t.nd
 obtain ⟨rd, hrd, hn2, Tv⟩ := hW.dom
 have hrd := aB6 hrd
 subst hrd; subst hn2
 have jX : (s.domains.map fun _ => sA).length = s.domains.length := by simp
 refine XK.enter (vs := [.agg #[.slice A1 n1 k1, .slice A2 s.domains.length k2, .slice A3 n3 k3, .slice A4 n4 k4]]) Tryz.func61 rfl Tryz.ntmps61 (by simp) ?_
 refine XK.go ?_
 refine bY rfl (by decide) fun g1 => ?_
 dsimp only [Value.cells]
 refine XK.go ?_
 refine aZ (fun w1 t => Lq s A1 A2 A3 A4 n1 k1 _ k2 n3 k3 n4 k4 w1 (hW.le (t.started (by simp))) hH.t.Fs) ?_
 refine XK.go ?_
 refine dB (zs := [.slice none 0 0]) (L := [(0, 1)]) (aM (by kernel_rfl)) (by kernel_rfl) rfl (by simp [aR, aU, Value.cells]; rfl) (by decide) ?_
 refine bY rfl (by decide) fun g2 => ?_
 dsimp only [Value.cells]
 refine XK.go ?_
 refine XK.kN 232 7 ?_
 refine XK.aK [(18, .int .i64 0), (17, .int .i64 s.domains.length), (16, .slice A2 s.domains.length k2), (5, .pointer (some ⟨g2, 0, none⟩))] ?_
 refine XK.loop (fun m e R H => ∃ (i : Nat) (A : Option Addr) (k : Nat), i ≤ s.domains.length ∧ m = s.domains.length - i ∧ e = [(18, .int .i64 i), (17, .int .i64 s.domains.length), (16, .slice A2 s.domains.length k2), (5, .pointer (some ⟨g2, 0, none⟩))] ∧ R = [all w] ∧ H = [HP.own 232 7 (.slice A i k) i ((lM s (s.domains.map fun _ => sA)).take i).flatten, HP.aF g2 230 [.slice A i k], HP.aF g1 29 [.slice A1 n1 k1, .slice A2 s.domains.length k2, .slice A3 n3 k3, .slice A4 n4 k4]]) s.domains.length ⟨0, none, 0, by omega, rfl, rfl, rfl, by simp⟩ fun m e R H hI => ?_
 obtain ⟨i, A, k, hi, rfl, rfl, rfl, rfl⟩ := hI
 refine XK.go ?_
 refine XK.if_ rfl (fun hlt => ?_) (fun hge => ?_)
 ·have hlt : i < s.domains.length := by omega
  obtain ⟨c, hc⟩ := get_some hlt
  obtain ⟨b, off, hB, hro⟩ := aH.row Tv (fun r hr => by obtain ⟨q, _, rfl⟩ := List.mem_map.1 hr; rfl) (r := [.int .i64 c.above, .int .i64 c.delay, .bool c.ret]) (by rw [List.getElem?_map, hc]; rfl) hlt
  subst hB
  have hrow : (lM s (s.domains.map fun _ => sA))[i]? = some (kR c sA) := zW hc (by rw [List.getElem?_map, hc]; rfl)
  have iF : ((lM s (s.domains.map fun _ => sA)).take (i + 1)).flatten = ((lM s (s.domains.map fun _ => sA)).take i).flatten ++ kR c sA := by
   rw [List.take_succ, hrow, List.flatten_append]; simp
  refine XK.go ?_
  refine kd (dat i (off + i * 3)) ?_
  refine XK.go ?_
  refine bZ (cs := [.int .i64 0, .int .i64 0, .bool false]) (aM (by kernel_rfl)) (by decide) fun g3 => ?_
  refine XK.go ?_
  refine XK.eR [2, 3, 4, 5, 6] ?_
  refine XB.mv 0 ?_
  refine XB.mv 1 ?_
  refine XB.q 2 ?_
  refine XB.q 3 ?_
  refine XB.q 4 ?_
  refine XB.q 5 ?_
  refine XB.q 6 ?_ (dN := gD (zs := [.int .i64 0, .int .i64 0, .bool false, .int .u8 0, .int .i64 0, .bool false, .bool false]) (L := [(0, 3), (3, 1), (4, 1), (5, 1), (6, 1)]) (aM (by kernel_rfl)) (by kernel_rfl) rfl (by simp [aR, aU, Value.cells]; rfl))
  refine XB.next 7 rfl (by kernel_rfl) ?_
  refine eP (el := 232) (sz := 7) (zs := [.int .i64 0, .int .i64 0, .bool false, .int .u8 0, .int .i64 0, .bool false, .bool false]) (by kernel_rfl) (aM (by kernel_rfl)) (by kernel_rfl) rfl (by decide) (by decide) rfl (by simp [aR, aU, Value.cells, List.range_succ, List.set]; rfl) (by decide) fun g5 => ?_
  refine XB.bk ?_
  refine XB.next 8 rfl (by kernel_rfl) ?_
  refine fI 2 7 48 1 (el := 232) (by kernel_rfl) (by kernel_rfl) (by decide) rfl rfl rfl (kL 0 rfl rfl) (by simp [Value.oneCell']) rfl (by omega) (by omega) (by decide) fun A' k' => ?_
  dsimp only [List.set]
  refine XB.bt ?_
  refine XB.next 9 rfl (by kernel_rfl) ?_
  refine bJ ?_
  refine XB.bt ?_
  refine XB.next 10 rfl (by kernel_rfl) ?_
  refine bJ ?_
  refine XB.bt ?_
  refine XB.next 11 rfl (by kernel_rfl) ?_
  refine iE rfl rfl ?_
  dsimp only [List.set]
  refine XB.bt ?_
  refine XB.done (by kernel_rfl) ?_
  refine XK.go ?_
  refine XK.weak [2, 3, 4] rfl (by decide) (fun _ h => h) ?_
  refine XK.aK [(18, .int .i64 (i + 1 : Nat)), (17, .int .i64 s.domains.length), (16, .slice (some ⟨b, off, none⟩) s.domains.length k2), (5, .pointer (some ⟨g2, 0, none⟩))] ?_
  exact XK.round (s.domains.length - (i + 1)) (by omega) ⟨i + 1, A', k', hlt, rfl, rfl, rfl, by rw [iF]; rfl⟩
 ·obtain rfl : i = s.domains.length := by omega
  refine XK.go ?_
  have hfull : (lM s (s.domains.map fun _ => sA)).take s.domains.length = lM s (s.domains.map fun _ => sA) := List.take_of_length_le (by simp [lM])
  rw [hfull]
  refine XK.weak [1, 0] rfl (by decide) (fun _ h => h) ?_
  refine XK.pair ?_
  refine XK.still [] [] [0] (by simp) rfl (by decide) (by decide) fun q _ _ hfr => ?_
  exact XK.fQ rfl rfl rfl fun w1 t => ⟨⟨_, _, ⟨w1, q.Z⟩, rfl, rfl, ⟨⟨g2, A, k⟩, rfl, rfl⟩, t.newR (by simp) (by simp) (hfr (by simp) (by simp))⟩, t.below (by simp)⟩
theorem aC5 {N : cN} {w0 : World} {e : Env} {R : List Piece} {H : List HP} {Q : Exit → Act → World → Prop} {ops : Array Oper} {rest : List Oper} {d : Nat} {ty : TypeId} {pos : String} {aJ : Array Edge} {x : Operand} {n : Int} {t kt et : TypeId} (ht : Tryz.prog.underlying t = some (.map kt et)) (hx : e.ev x = some (.int .i64 n)) (hd : d < N.n) (k : ∀ g, XK N w0 (wpList Tryz.prog ops Q rest) ((d, .map (some g)) :: e) R (HP.map g [] :: H)) : XK N w0 (wpList Tryz.prog ops Q (⟨some d, .makeMap t (some x), ty, pos, aJ, none⟩ :: rest)) e R H :=
 qB rfl fun a w hr st => ⟨.map (some w.heap.size), w.alloc (.map #[] 0), by simp [execOp, Instr.makeMap, hr.ev hx, run_underlying ht, asInt, asIntOf], k w.heap.size _ _ (hr.put hd _) (st.new (Fv w _) ⟨⟨Nat.le_refl _, by simp⟩, #[], 0, heap_alloc_new w _, rfl⟩)⟩
def aCm (s : aC) (v : Value) (hs : List HP) (_ : Piece) : Prop := ∃ L : RL, v = .tuple #[.pointer (some ⟨L.t, 0, none⟩), .int .i64 0] ∧ hs = [iH L s (s.aW.map fun _ => mO)]
theorem aEE (l : List (Int × Value)) (k : Int) (v : Value) (h : jU l k = none) : lD l k v = l ++ [(k, v)] := by
 induction l with
 | nil => rfl
 | cons p l ih =>
  obtain ⟨a, b⟩ := p
  rw [Il] at h
  rw [lD]
  split at h
  ·cases h
  ·rename_i hne
   rw [if_neg hne, ih h]
   rfl
theorem aD0 (s : aC) (hH : s.bO) (A1 A2 A3 A4 : Option Addr) (n1 k1 n2 k2 n3 k3 n4 k4 : Nat) (w : World) (hW : fA w s A1 n1 A2 n2 A3 n3 A4 n4) :
  Calls Tryz.prog 62 #[.agg #[.slice A1 n1 k1, .slice A2 n2 k2, .slice A3 n3 k3, .slice A4 n4 k4]] w (fun y w' => (∃ v hs q, y = .returned v ∧ q.w = w' ∧ aCm s v hs q ∧ kA w hs q) ∧ Below w.heap.size w w') := by
 have fM := hH.t.nr
 obtain ⟨rr, cJ, qU, hst⟩ := hW.rL
 have cJ := Zv cJ
 subst cJ; subst qU
 have uM : (s.aW.map fun _ => mO).length = s.aW.length := by simp
 refine XK.enter (vs := [.agg #[.slice A1 n1 k1, .slice A2 n2 k2, .slice A3 s.aW.length k3, .slice A4 n4 k4]]) Tryz.func62 rfl Tryz.ntmps62 (by simp) ?_
 refine XK.go ?_
 refine bY rfl (by decide) fun g1 => ?_
 dsimp only [Value.cells]
 refine XK.go ?_
 refine aZ (fun w1 t => Lq s A1 A2 A3 A4 n1 k1 n2 k2 _ k3 n4 k4 w1 (hW.le (t.started (by simp))) hH.t.Fs) ?_
 refine XK.go ?_
 refine aC5 (kt := 3) (et := 237) (by kernel_rfl) rfl (by decide) fun gm => ?_
 refine dB (zs := [.map none]) (L := [(0, 1)]) (aM (by kernel_rfl)) (by kernel_rfl) rfl (by simp [aR, aU, Value.cells]; rfl) (by decide) ?_
 refine bY rfl (by decide) fun g2 => ?_
 dsimp only [Value.cells]
 refine XK.go ?_
 refine XK.aK [(22, .int .i64 0), (21, .int .i64 s.aW.length), (20, .slice A3 s.aW.length k3), (5, .pointer (some ⟨g2, 0, none⟩))] ?_
 refine XK.loop (fun m e R H => ∃ i : Nat, i ≤ s.aW.length ∧ m = s.aW.length - i ∧ e = [(22, .int .i64 i), (21, .int .i64 s.aW.length), (20, .slice A3 s.aW.length k3), (5, .pointer (some ⟨g2, 0, none⟩))] ∧ R = [all w] ∧ H = [HP.aF g2 235 [.map (some gm)], HP.map gm ((List.range i).map (Bm s (s.aW.map fun _ => mO))), HP.aF g1 29 [.slice A1 n1 k1, .slice A2 n2 k2, .slice A3 s.aW.length k3, .slice A4 n4 k4]]) s.aW.length ⟨0, by omega, rfl, rfl, rfl, rfl⟩ fun m e R H hI => ?_
 obtain ⟨i, hi, rfl, rfl, rfl, rfl⟩ := hI
 refine XK.go ?_
 refine XK.if_ rfl (fun hlt => ?_) (fun hge => ?_)
 ·have hlt : i < s.aW.length := by omega
  obtain ⟨c, hc⟩ := get_some hlt
  obtain ⟨b, off, hB, hro⟩ := aH.row hst (fun r hr => by obtain ⟨q, _, rfl⟩ := List.mem_map.1 hr; rfl) (r := [.int .i64 c]) (by rw [List.getElem?_map, hc]; rfl) hlt
  subst hB
  have eB : lD ((List.range i).map (Bm s (s.aW.map fun _ => mO))) (i : Int) (eY c mO) = (List.range (i + 1)).map (Bm s (s.aW.map fun _ => mO)) := by
   rw [aEE _ _ _ (by
    have := aAy (fun j => eY (s.aW.getD j 0) ((s.aW.map fun _ => mO).getD j mO)) i (i : Int)
    rw [if_neg (by simp [cF])] at this
    exact this), List.range_succ, List.map_append]
   congr 1
   simp [Bm, List.getD_eq_getElem?_getD, hc]
  refine XK.go ?_
  refine kd (dat i (off + i * 1)) ?_
  refine XK.go ?_
  refine bZ (cs := [.int .i64 0]) (aM (by kernel_rfl)) (by decide) fun g3 => ?_
  refine XK.go ?_
  refine XK.eR [1, 2, 3, 5, 6, 7] ?_
  refine XB.mv 0 ?_
  refine XB.q 1 ?_
  refine XB.q 2 ?_
  refine XB.q 3 ?_
  refine XB.mv 4 ?_
  refine XB.q 5 ?_
  refine XB.q 6 ?_
  refine XB.q 7 ?_ (dN := gD (zs := [.int .i64 0, .int .i64 0, .bool false, .bool false]) (L := [(0, 1), (1, 1), (2, 1), (3, 1)]) (aM (by kernel_rfl)) (by kernel_rfl) rfl (by simp [aR, aU, Value.cells]; rfl))
  refine XB.next 8 rfl (by kernel_rfl) ?_
  refine Ay (kt := 3) (et := 237) (kd := .i64) (l := (List.range i).map (Bm s (s.aW.map fun _ => mO))) (v := eY c mO) 2 (by kernel_rfl) (by kernel_rfl) rfl rfl rfl rfl ?_
  rw [eB]
  dsimp only [List.set]
  refine XB.bt ?_
  refine XB.done (by kernel_rfl) ?_
  refine XK.go ?_
  refine XK.weak [1, 2, 3] rfl (by decide) (fun _ h => h) ?_
  refine XK.aK [(22, .int .i64 (i + 1 : Nat)), (21, .int .i64 s.aW.length), (20, .slice (some ⟨b, off, none⟩) s.aW.length k3), (5, .pointer (some ⟨g2, 0, none⟩))] ?_
  exact XK.round (s.aW.length - (i + 1)) (by omega) ⟨i + 1, hlt, rfl, rfl, rfl, rfl⟩
 ·obtain rfl : i = s.aW.length := by omega
  refine XK.go ?_
  refine XK.pair ?_
  refine XK.still [] [] [0] (by simp) rfl (by decide) (by decide) fun q _ _ hfr => ?_
  exact XK.fQ rfl rfl rfl fun w1 t => ⟨⟨_, _, ⟨w1, q.Z⟩, rfl, rfl, ⟨⟨g2, gm⟩, rfl, by simp [iH, jV]⟩, t.newR (by simp) (by simp) (hfr (by simp) (by simp))⟩, t.below (by simp)⟩
end
section
set_option maxHeartbeats 4000000
set_option maxRecDepth 20000
structure pU where
 id : Int
 wr : Bool
 Sb : Int
 val : Int
def pU.cells (t : pU) : List Value := [.int .i64 t.id, .bool t.wr, .int .i64 t.Sb, .int .u32 t.val]
def QH (v : Value) : Option pU → HP
 | none => HP.pure (∃ A, v = .slice A 0 0)
 | some t => HP.own 260 4 v 1 t.cells
structure BL where
 b : Nat
 gr : Nat
 gw : Nat
def iA (ws : List (Option pU)) (i : Nat) : Nat := if ((ws[i]?).join).isSome then 1 else 0
def Xd (g n : Nat) (ws : List (Option pU)) : HP := HP.ex fun vs : List Value => HP.many (HP.aF g 265 vs :: HP.pure (vs.length = n) :: (List.range n).map fun i => QH (vs.getD i undef) (ws[i]?).join)
def Ge (L : BL) (ms : List Int) (ws : List (Option pU)) (jB : Int) : HP := HP.many [HP.aF L.b 245 [.slice (some ⟨L.gr, 0, none⟩) ms.length ms.length, .slice (some ⟨L.gw, 0, none⟩) ms.length ms.length, .int .i64 jB], HP.aF L.gr 3 (aO ms), Xd L.gw ms.length ws]
structure At (w : World) (L : BL) (ms : List Int) (ws : List (Option pU)) (jB : Int) : Prop where
 r0 : cZ w L.b 0 [.slice (some ⟨L.gr, 0, none⟩) ms.length ms.length, .slice (some ⟨L.gw, 0, none⟩) ms.length ms.length, .int .i64 jB]
 rg : cZ w L.gr 0 (aO ms)
 wt : ∀ i, i < ms.length → ∃ A c, eW w L.gw i (.slice A (iA ws i) c)
theorem At.below {w w' : World} {L : BL} {ms : List Int} {ws : List (Option pU)} {jB : Int} (h : At w L ms ws jB) (hb : Below w.heap.size w w') : At w' L ms ws jB :=
 ⟨h.r0.below hb, h.rg.below hb, fun i hi => by
  obtain ⟨A, c, h1, h2⟩ := h.wt i hi
  exact ⟨A, c, Nat.lt_of_lt_of_le h1 hb.size, (hb.cell (p := ⟨_, i, none⟩) h1).trans h2⟩⟩
theorem Ge.reads {L : BL} {ms : List Int} {ws : List (Option pU)} {jB : Int} {F : Nat → Prop} {w : World} (h : (Ge L ms ws jB).sat F w) : At w L ms ws jB := by
 obtain ⟨G, g1, g2, _⟩ := h
 refine ⟨wU (g1 0 _ rfl).2, wU (g1 1 _ rfl).2, fun i hi => ?_⟩
 obtain ⟨vs, G', k1, _, _⟩ := g1 2 _ rfl
 have hb := wU (k1 0 _ rfl).2
 have hl : vs.length = ms.length := k1 1 _ rfl
 obtain ⟨v, hv⟩ := get_some (l := vs) (i := i) (by omega)
 have hq := k1 (i + 2) (QH (vs.getD i undef) (ws[i]?).join) (by
  rw [List.getElem?_cons_succ, List.getElem?_cons_succ, List.getElem?_map, List.getElem?_range hi]; rfl)
 rw [List.getD_eq_getElem?_getD, hv] at hq
 have hc := hb.at_ hv
 rw [Nat.zero_add] at hc
 unfold iA
 cases hj : (ws[i]?).join with
 | none =>
  rw [hj] at hq
  obtain ⟨A, hA⟩ : ∃ A, v = .slice A 0 0 := hq
  subst hA
  exact ⟨A, 0, hc⟩
 | some t =>
  rw [hj] at hq
  obtain ⟨A, c, hA, _⟩ := aH.rN (Y := fun _ => True) hq (fun _ _ => trivial)
  have hA : v = .slice A 1 c := hA
  subst hA
  exact ⟨A, c, hc⟩
section
variable {N : cN} {w0 w : World} {e : Env} {R : List Piece} {H : List HP} {K : Act → World → Prop} {L : BL} {ms : List Int} {ws : List (Option pU)} {jB : Int}
end
theorem aBR (L : BL) (ms : List Int) (ws : List (Option pU)) (jB : Int) (i : Int) (w : World) (hR : At w L ms ws jB) :
  Calls Tryz.prog 166 #[.pointer (some ⟨L.b, 0, none⟩), .int .i64 i] w (Rt (.bool (cF ms.length i)) w) := by
 have k0 := hR.r0.at_ (j := 0) rfl
 refine XK.enter (vs := [.pointer (some ⟨L.b, 0, none⟩), .int .i64 i]) Tryz.func166 rfl Tryz.ntmps166 (by simp) ?_
 refine XK.go ?_
 refine bT (t := 11) rfl (fun h => ?_) (fun h => ?_)
 ·refine XK.go ?_
  refine XK.bU (by simp) ?_
  unfold cF
  congr 1
  simp; omega
 ·refine XK.go ?_
  refine XK.bU (by simp) ?_
  have : cF ms.length i = false := decide_eq_false (by omega)
  rw [this]
theorem aBQ (L : BL) (ms : List Int) (ws : List (Option pU)) (jB : Int) (i : Nat) (hi : i < ms.length) (w : World) (hR : At w L ms ws jB) :
  Calls Tryz.prog 82 #[.pointer (some ⟨L.b, 0, none⟩), .int .i64 (i : Int)] w (Rt (.int .i64 (iA ws i : Nat)) w) := by
 have k1 := hR.r0.at_ (j := 1) rfl
 obtain ⟨A, c, hw⟩ := hR.wt i hi
 have hin : cF ms.length (i : Int) = true := decide_eq_true (by omega)
 refine XK.enter (vs := [.pointer (some ⟨L.b, 0, none⟩), .int .i64 (i : Int)]) Tryz.func82 rfl Tryz.ntmps82 (by simp) ?_
 refine XK.go ?_
 refine aZ (fun w1 t => aBR L ms ws jB i w1 (hR.below (t.below (by simp)))) ?_
 rw [hin]
 refine XK.go ?_
 refine kd (dat i i) ?_
 refine XK.go ?_
 exact XK.bU (by simp) rfl
def aCu (ms : List Int) (v : Value) (hs : List HP) (_ : Piece) : Prop := ∃ L : BL, v = .tuple #[.pointer (some ⟨L.b, 0, none⟩), .int .i64 0] ∧ hs = [Ge L ms (ms.map fun _ => none) 0]
theorem aCK {N : cN} {w0 : World} {e : Env} {R : List Piece} {H : List HP} {K : Act → World → Prop} {g n : Nat} {β : Type} (l : List β) (hl : l.length = n) (i : Nat) (hi : H[i]? = some (HP.aF g 265 (List.replicate n (.slice none 0 0)))) (h : XK N w0 K e R (H.set i (Xd g n (l.map fun _ => none)))) : XK N w0 K e R H := by
 refine XK.reuse (q := Xd g n (l.map fun _ => none)) i hi (fun F w hs => ⟨List.replicate n (.slice none 0 0), fun k b => k = 0 ∧ F b, fun k p hk => ?_, fun k b h => h.2, fun k j b Ul h1 h2 => by have := h1.1; have := h2.1; omega⟩) h
 match k, hk with
 | 0, hk =>
  simp at hk; subst hk
  show (HP.aF g 265 (List.replicate n (.slice none 0 0))).sat (fun b => 0 = 0 ∧ F b) w
  rw [show (fun b => 0 = 0 ∧ F b) = F by funext b; simp]
  exact hs
 | 1, hk => cases hk; show (List.replicate n (Value.slice none 0 0)).length = n; simp
 | k + 2, hk =>
  rw [List.getElem?_cons_succ, List.getElem?_cons_succ, List.getElem?_map] at hk
  cases hr : (List.range n)[k]? with
  | none => rw [hr] at hk; cases hk
  | some j =>
   rw [hr] at hk
   have hj : j < n := List.mem_range.1 (List.mem_of_getElem? hr)
   have : ((l.map fun _ => (none : Option pU))[j]?).join = none := by
    rw [List.getElem?_map]
    cases l[j]? <;> rfl
   simp only [Option.map_some, Option.some.injEq, this] at hk
   subst hk
   refine ⟨none, ?_⟩
   rw [List.getD_eq_getElem?_getD, List.getElem?_replicate, if_pos hj]
   rfl
theorem aId (ms : List Int) (hml : ms.length ≤ 6) (hm : ∀ m ∈ ms, 0 ≤ m ∧ m ≤ 8) (A : Option Addr) (c : Nat) (w : World) (hs : aH (all w) 1 A ms.length (aO ms)) :
  Calls Tryz.prog 66 #[.slice A ms.length c] w (fun y w' => (∃ v hs q, y = .returned v ∧ q.w = w' ∧ aCu ms v hs q ∧ kA w hs q) ∧ Below w.heap.size w w') := by
 refine XK.enter (vs := [.slice A ms.length c]) Tryz.func66 rfl Tryz.ntmps66 (by simp) ?_
 refine XK.seq ?_
 refine XK.region ?_
 refine bJ ?_
 refine bJ ?_
 refine XK.aE ?_
 refine XK.seq ?_
 refine XK.seq ?_
 refine XK.region ?_
 refine bJ ?_
 refine bJ ?_
 refine bJ ?_
 refine XK.aE ?_
 refine XK.if_ rfl (fun h => absurd h (by omega)) (fun _ => ?_)
 refine XK.skip ?_
 refine XK.norm ?_
 refine XK.cut (fun e R H => ∃ gr gw g3, e = [(4, .pointer (some ⟨g3, 0, none⟩)), (0, .slice A ms.length c)] ∧ R = [all w] ∧ H = [HP.aF g3 245 [.slice (some ⟨gr, 0, none⟩) ms.length ms.length, .slice (some ⟨gw, 0, none⟩) ms.length ms.length, .int .i64 0], HP.aF gr 3 (List.replicate ms.length (.int .i64 0)), HP.aF gw 265 (List.replicate ms.length (.slice none 0 0))]) ?_ ?_
 ·refine XK.draw 6 (by kernel_rfl) (by kernel_rfl) ?_
  refine XA.q 0 ?_
  refine XA.q 1 ?_
  refine XA.q 3 ?_
  refine XA.q 4 ?_
  refine XA.either 2 5 rfl rfl (by kernel_rfl) ?_ ?_
  ·refine kD (n := ms.length) 8 (el := 3) (z := .int .i64 0) (by kernel_rfl) (by kernel_rfl) rfl rfl rfl (by omega) (by omega) (by decide) fun gr => ?_
   refine XA.bk ?_
   refine XA.next 5 rfl (by kernel_rfl) ?_
   refine kD (n := ms.length) 24 (el := 265) (z := .slice none 0 0) (by kernel_rfl) (by kernel_rfl) rfl rfl rfl (by omega) (by omega) (by decide) fun gw => ?_
   refine XA.bk ?_
   refine XA.next 6 rfl (by kernel_rfl) ?_
   refine dB (zs := [.slice none 0 0, .slice none 0 0, .int .i64 0]) (L := [(0, 1), (1, 1), (2, 1)]) (aM (by kernel_rfl)) (by kernel_rfl) rfl (by simp [aR, aU, Value.cells]; rfl) (by decide) ?_
   refine XA.bt ?_
   refine XA.next 7 rfl (by kernel_rfl) ?_
   refine bY rfl (by decide) fun g3 => ?_
   dsimp only [Value.cells]
   refine XA.bt ?_
   refine XA.next 8 rfl (by kernel_rfl) ?_
   refine bJ ?_
   refine XA.bt ?_
   refine XA.done (by kernel_rfl) ?_
   refine XK.norm ?_
   exact XK.weak [0, 2, 1] rfl (by decide) (by simp) (XK.aK [(4, .pointer (some ⟨g3, 0, none⟩)), (0, .slice A ms.length c)] (XK.meet ⟨gr, gw, g3, rfl, rfl, rfl⟩))
  ·refine kD (n := ms.length) 24 (el := 265) (z := .slice none 0 0) (by kernel_rfl) (by kernel_rfl) rfl rfl rfl (by omega) (by omega) (by decide) fun gw => ?_
   refine XA.bk ?_
   refine XA.next 2 rfl (by kernel_rfl) ?_
   refine kD (n := ms.length) 8 (el := 3) (z := .int .i64 0) (by kernel_rfl) (by kernel_rfl) rfl rfl rfl (by omega) (by omega) (by decide) fun gr => ?_
   refine XA.bk ?_
   refine XA.next 6 rfl (by kernel_rfl) ?_
   refine dB (zs := [.slice none 0 0, .slice none 0 0, .int .i64 0]) (L := [(0, 1), (1, 1), (2, 1)]) (aM (by kernel_rfl)) (by kernel_rfl) rfl (by simp [aR, aU, Value.cells]; rfl) (by decide) ?_
   refine XA.bt ?_
   refine XA.next 7 rfl (by kernel_rfl) ?_
   refine bY rfl (by decide) fun g3 => ?_
   dsimp only [Value.cells]
   refine XA.bt ?_
   refine XA.next 8 rfl (by kernel_rfl) ?_
   refine bJ ?_
   refine XA.bt ?_
   refine XA.done (by kernel_rfl) ?_
   refine XK.norm ?_
   exact XK.weak [0, 1, 2] rfl (by decide) (by simp) (XK.aK [(4, .pointer (some ⟨g3, 0, none⟩)), (0, .slice A ms.length c)] (XK.meet ⟨gr, gw, g3, rfl, rfl, rfl⟩))
 rintro _ _ _ ⟨gr, gw, g3, rfl, rfl, rfl⟩
 refine XK.go ?_
 refine XK.aK [(20, .int .i64 0), (19, .int .i64 ms.length), (18, .slice A ms.length c), (4, .pointer (some ⟨g3, 0, none⟩))] ?_
 refine XK.loop (fun m e R H => ∃ i : Nat, i ≤ ms.length ∧ m = ms.length - i ∧ e = [(20, .int .i64 i), (19, .int .i64 ms.length), (18, .slice A ms.length c), (4, .pointer (some ⟨g3, 0, none⟩))] ∧ R = [all w] ∧ H = [HP.aF g3 245 [.slice (some ⟨gr, 0, none⟩) ms.length ms.length, .slice (some ⟨gw, 0, none⟩) ms.length ms.length, .int .i64 0], HP.aF gr 3 (aO (gI ms (ms.map fun _ => 0) i)), HP.aF gw 265 (List.replicate ms.length (.slice none 0 0))]) ms.length ⟨0, by omega, rfl, rfl, rfl, by
  rw [Ih]
  have : List.replicate ms.length (Value.int .i64 0) = aO (ms.map fun _ => 0) := by
   refine List.ext_getElem? fun j => ?_
   simp only [aO, List.map_map, List.getElem?_replicate, List.getElem?_map]
   by_cases h : j < ms.length
   ·rw [if_pos h, List.getElem?_eq_getElem h]; rfl
   ·rw [if_neg h, List.getElem?_eq_none (by omega)]; rfl
  rw [this]⟩ fun m e R H hI => ?_
 obtain ⟨i, hi, rfl, rfl, rfl, rfl⟩ := hI
 have Jp := Ij (vs := ms) (old := ms.map fun _ => 0) (n := ms.length) rfl (by simp) hi
 refine XK.go ?_
 refine XK.if_ rfl (fun hlt => ?_) (fun hge => ?_)
 ·have hlt : i < ms.length := by omega
  obtain ⟨v, hv⟩ := get_some hlt
  have hvb := hm v (List.mem_of_getElem? hv)
  obtain ⟨b, off, hB, hz, hc⟩ := hs.2 (by omega)
  subst hB
  have hro : eW w b (off + i) (.int .i64 v) := ⟨hz, hc i _ (by simp [aO, hv])⟩
  have eN : (aO (gI ms (ms.map fun _ => 0) i)).length = ms.length := by simp [aO, Jp]
  have eB : (aO (gI ms (ms.map fun _ => 0) i)).set i (.int .i64 v) = aO (gI ms (ms.map fun _ => 0) (i + 1)) := by
   rw [← Ii (by simp) hv, aO, aO, List.map_set]
  refine XK.go ?_
  refine kd (dat i (off + i)) ?_
  refine XK.go ?_
  refine bT (t := 27) rfl (fun h => absurd h (by omega)) (fun _ => ?_)
  refine XK.go ?_
  refine XK.if_ rfl (fun h => absurd h (by omega)) (fun _ => ?_)
  refine XK.go ?_
  refine kd (dat i i) ?_
  refine iE rfl rfl ?_
  dsimp only [List.set]
  rw [eB]
  refine XK.go ?_
  refine XK.aK [(20, .int .i64 (i + 1 : Nat)), (19, .int .i64 ms.length), (18, .slice (some ⟨b, off, none⟩) ms.length c), (4, .pointer (some ⟨g3, 0, none⟩))] ?_
  exact XK.round (ms.length - (i + 1)) (by omega) ⟨i + 1, hlt, rfl, rfl, rfl, rfl⟩
 ·obtain rfl : i = ms.length := by omega
  rw [Ik rfl (by simp)]
  refine XK.go ?_
  refine aCK ms rfl 2 rfl ?_
  dsimp only [List.set]
  refine XK.three ?_
  refine XK.still [] [] [0] (by simp) rfl (by decide) (by decide) fun q _ _ hfr => ?_
  exact XK.fQ rfl rfl rfl fun w1 t => ⟨⟨_, _, ⟨w1, q.Z⟩, rfl, rfl, ⟨⟨g3, gr, gw⟩, rfl, rfl⟩, t.newR (by simp) (by simp) (hfr (by simp) (by simp))⟩, t.below (by simp)⟩
end
section
set_option maxHeartbeats 4000000
set_option maxRecDepth 20000
structure aT where
 ck : List cT
 dm : List dL
 ln : List fV
 dv : List (bK × cG)
 wt : List (Option pU)
 jB : Int
def hw0 (s : aC) : aT := ⟨s.aB.map sC, s.domains.map fun _ => sA, s.aW.map fun _ => mO, s.aA.map fun d => (wN d, Dw), s.aA.map fun _ => none, 0⟩
structure HL where
 h : Nat
 T : TL
 G : GL
 R : RL
 B : BL
 A : Option Addr
 c : Nat
 ds : List (FL × Nat)
def Cu (d : bB) (l : FL × Nat) : List Value := [.int .i64 d.clock, .int .i64 d.domain, .int .i64 d.reset, .int .u32 d.eS, .pointer (some ⟨l.1.f, 0, none⟩), .pointer (some ⟨l.2, 0, none⟩)]
def qZ (ds : List bB) (ls : List (FL × Nat)) : List (List Value) := List.zipWith Cu ds ls
def Fe (d : bB) (p : (FL × Nat) × (bK × cG)) : HP := HP.many [dM p.1.1 d p.2.1, mM p.1.2 p.2.2]
def rZ (ds : List bB) (ls : List (FL × Nat)) (xs : List (bK × cG)) : List HP := List.zipWith Fe ds (ls.zip xs)
def iP (s : aC) : List Int := s.aA.map fun d => (d.aQ.length : Int)
def Kb (L : HL) (n : Nat) : List Value := [.pointer (some ⟨L.T.t, 0, none⟩), .pointer (some ⟨L.G.t, 0, none⟩), .pointer (some ⟨L.R.t, 0, none⟩), .pointer (some ⟨L.B.b, 0, none⟩), .slice L.A n L.c]
def cK (L : HL) (s : aC) (x : aT) : HP := HP.many [HP.aF L.h 134 (Kb L s.aA.length), jF L.T s x.ck, lR L.G s x.dm, iH L.R s x.ln, Ge L.B (iP s) x.wt x.jB, HP.own 141 6 (.slice L.A s.aA.length L.c) s.aA.length (qZ s.aA L.ds).flatten, HP.many (rZ s.aA L.ds x.dv)]
def Xl (s : aC) (v : Value) (hs : List HP) (_ : Piece) : Prop := ∃ L : HL, v = .tuple #[.pointer (some ⟨L.h, 0, none⟩), .int .i64 0] ∧ hs = [cK L s (hw0 s)] ∧ L.T.fa.length = s.aB.length ∧ L.ds.length = s.aA.length
theorem Nu (s : aC) : (iP s).length = s.aA.length := by simp [iP]
theorem aGX {ds : List bB} {i : Nat} {d : bB} (hd : ds[i]? = some d) {ls : List (FL × Nat)} (hl : ls.length = i) (l : FL × Nat) : rZ (ds.take (i + 1)) (ls ++ [l]) ((ds.take (i + 1)).map fun d => (wN d, Dw)) = rZ (ds.take i) ls ((ds.take i).map fun d => (wN d, Dw)) ++ [Fe d (l, (wN d, Dw))] := by
 have hlt : i < ds.length := tA hd
 rw [List.take_succ, hd, Option.toList_some, List.map_append]
 unfold rZ
 rw [List.zip_append (by simp; omega), List.zipWith_append (by simp; omega)]
 rfl
theorem aGW {ds : List bB} {i : Nat} {d : bB} (hd : ds[i]? = some d) {ls : List (FL × Nat)} (hl : ls.length = i) (l : FL × Nat) : (qZ (ds.take (i + 1)) (ls ++ [l])).flatten = (qZ (ds.take i) ls).flatten ++ Cu d l := by
 have hlt : i < ds.length := tA hd
 rw [List.take_succ, hd, Option.toList_some]
 unfold qZ
 rw [List.zipWith_append (by simp; omega), List.flatten_append]
 simp
theorem XK.more {N : cN} {w0 : World} {e : Env} {R : List Piece} {H : List HP} {K : Act → World → Prop} {p : HP} {ps : List HP} (h : XK N w0 K e R (HP.many (ps ++ [p]) :: H)) : XK N w0 K e R (HP.many ps :: p :: H) := fun a w hr st =>
 (XK.push (ps := ps) (p := p) h) a w hr (st.weak (fun _ h => h) (fun i => match i with
  | 0 => 1
  | 1 => 0
  | i + 2 => i + 2) (fun i j _ _ he => by
   match i, j with
   | 0, 0 => rfl
   | 0, 1 => simp at he
   | 0, j + 2 => simp at he
   | 1, 0 => simp at he
   | 1, 1 => rfl
   | 1, j + 2 => simp at he
   | i + 2, 0 => simp at he
   | i + 2, 1 => simp at he
   | i + 2, j + 2 => simpa using he) (fun i p hi => by
   match i, hi with
   | 0, hi => simpa using hi
   | 1, hi => simpa using hi
   | i + 2, hi => simpa using hi))
theorem XK.aE5 {N : cN} {w0 : World} {e : Env} {R : List Piece} {H : List HP} {K : Act → World → Prop} (h : XK N w0 K e R (HP.many [] :: H)) : XK N w0 K e R H := XK.wS (p := HP.many []) (fun w => ⟨fun _ _ => False, fun i p hp => by simp at hp, fun _ _ h => h, fun _ _ _ _ h => h.elim⟩) h
theorem aBd (s : aC) (hH : s.bO) (A1 A2 A3 A4 : Option Addr) (n1 k1 n2 k2 n3 k3 n4 k4 : Nat) (w : World) (hW : fA w s A1 n1 A2 n2 A3 n3 A4 n4) :
  Calls Tryz.prog 15 #[.agg #[.slice A1 n1 k1, .slice A2 n2 k2, .slice A3 n3 k3, .slice A4 n4 k4]] w (fun y w' => (∃ v hs q, y = .returned v ∧ q.w = w' ∧ Xl s v hs q ∧ kA w hs q) ∧ Below w.heap.size w w') := by
 have zI := hH.t.nv
 obtain ⟨rv, Tx, qS, Bp⟩ := hW.dev
 obtain ⟨da, jX, rfl, hda⟩ := Wl Tx
 subst qS
 refine XK.enter (vs := [.agg #[.slice A1 n1 k1, .slice A2 n2 k2, .slice A3 n3 k3, .slice A4 s.aA.length k4]]) Tryz.func15 rfl Tryz.ntmps15 (by simp) ?_
 refine XK.go ?_
 refine bY rfl (by decide) fun g1 => ?_
 dsimp only [Value.cells]
 refine XK.go ?_
 refine aZ (fun w1 t => Lq s A1 A2 A3 A4 n1 k1 n2 k2 n3 k3 _ k4 w1 (hW.le (t.started (by simp))) hH.t.Fs) ?_
 refine XK.go ?_
 refine dZ (f := 60) (fi := []) (ca := []) (by kernel_rfl) rfl rfl (by decide) (aCe s) (fun w1 t => aHD s hH A1 A2 A3 A4 n1 k1 n2 k2 n3 k3 _ k4 w1 (hW.le (t.started (by simp)))) ?_
 rintro _ _ q1 ⟨LT, rfl, rfl, Pc⟩ _
 dsimp only [List.cons_append, List.nil_append]
 refine XK.go ?_
 refine dZ (f := 61) (fi := []) (ca := []) (by kernel_rfl) rfl rfl (by decide) (aCr s) (fun w1 t => aDZ s hH A1 A2 A3 A4 n1 k1 n2 k2 n3 k3 _ k4 w1 (hW.le (t.started (by simp)))) ?_
 rintro _ _ q2 ⟨LG, rfl, rfl⟩ _
 dsimp only [List.cons_append, List.nil_append]
 refine XK.go ?_
 refine dZ (f := 62) (fi := []) (ca := []) (by kernel_rfl) rfl rfl (by decide) (aCm s) (fun w1 t => aD0 s hH A1 A2 A3 A4 n1 k1 n2 k2 n3 k3 _ k4 w1 (hW.le (t.started (by simp)))) ?_
 rintro _ _ q3 ⟨LR, rfl, rfl⟩ _
 dsimp only [List.cons_append, List.nil_append]
 refine XK.go ?_
 refine dB (zs := [.pointer none, .pointer none, .pointer none, .pointer none, .slice none 0 0]) (L := [(0, 1), (1, 1), (2, 1), (3, 1), (4, 1)]) (aM (by kernel_rfl)) (by kernel_rfl) rfl (by simp [aR, aU, Value.cells]; rfl) (by decide) ?_
 refine bY rfl (by decide) fun g2 => ?_
 dsimp only [Value.cells]
 refine XK.go ?_
 refine kD (n := s.aA.length) 8 (el := 3) (z := .int .i64 0) (by kernel_rfl) (by kernel_rfl) rfl rfl rfl (by omega) (by omega) (by decide) fun gm => ?_
 refine XK.go ?_
 refine XK.kN 141 6 ?_
 refine XK.aE5 ?_
 refine XK.weak [0, 1, 2, 3, 4, 5, 6] rfl (by decide) (R' := [all w]) (by simp) ?_
 refine XK.aK [(56, .int .i64 0), (55, .int .i64 s.aA.length), (54, .slice A4 s.aA.length k4), (10, .slice (some ⟨gm, 0, none⟩) s.aA.length s.aA.length), (9, .pointer (some ⟨g2, 0, none⟩))] ?_
 refine XK.loop (fun m e R H => ∃ (i : Nat) (A : Option Addr) (c : Nat) (ls : List (FL × Nat)), i ≤ s.aA.length ∧ ls.length = i ∧ m = s.aA.length - i ∧ e = [(56, .int .i64 i), (55, .int .i64 s.aA.length), (54, .slice A4 s.aA.length k4), (10, .slice (some ⟨gm, 0, none⟩) s.aA.length s.aA.length), (9, .pointer (some ⟨g2, 0, none⟩))] ∧ R = [all w] ∧ H = [HP.many (rZ (s.aA.take i) ls ((s.aA.take i).map fun d => (wN d, Dw))), HP.own 141 6 (.slice A i c) i (qZ (s.aA.take i) ls).flatten, HP.aF gm 3 (aO (gI (iP s) ((iP s).map fun _ => 0) i)), HP.aF g2 134 [.pointer (some ⟨LT.t, 0, none⟩), .pointer (some ⟨LG.t, 0, none⟩), .pointer (some ⟨LR.t, 0, none⟩), .pointer none, .slice A i c], iH LR s (hw0 s).ln, lR LG s (hw0 s).dm, jF LT s (hw0 s).ck]) s.aA.length ⟨0, none, 0, [], by omega, rfl, rfl, rfl, rfl, ?_⟩ fun m e R H hI => ?_
 ·have : List.replicate s.aA.length (Value.int .i64 0) = aO (gI (iP s) ((iP s).map fun _ => 0) 0) := by
   rw [Ih]
   refine List.ext_getElem? fun j => ?_
   simp only [aO, iP, List.map_map, List.getElem?_replicate, List.getElem?_map]
   by_cases h : j < s.aA.length
   ·rw [if_pos h, List.getElem?_eq_getElem h]; rfl
   ·rw [if_neg h, List.getElem?_eq_none (by omega)]; rfl
  rw [this]
  rfl
 obtain ⟨i, A, c, ls, hi, uM, rfl, rfl, rfl, rfl⟩ := hI
 have hml := Nu s
 have Jp := Ij (vs := iP s) (old := (iP s).map fun _ => 0) (n := s.aA.length) hml (by simp [iP]) hi
 refine XK.go ?_
 refine XK.if_ rfl (fun hlt => ?_) (fun hge => ?_)
 ·have hlt : i < s.aA.length := by omega
  obtain ⟨d, hd⟩ := get_some hlt
  obtain ⟨⟨a1, a2⟩, ha⟩ := get_some (l := da) (i := i) (by omega)
  obtain ⟨Uc, aAS⟩ := hda i d _ hd ha
  have hfit := hH.t.aA i d hd
  obtain ⟨b, off, hB, hro⟩ := aH.row Bp (Mh (f := tG) (es := s.aA) (bs := da) (sz := 6) jX (fun _ _ => rfl)).2 (Gg (f := tG) hd ha) hlt
  subst hB
  refine XK.go ?_
  refine kd (dat i (off + i * 6)) ?_
  refine XK.go ?_
  refine bZ (cs := [.int .i64 0, .int .i64 0, .int .i64 0, .int .u32 0, .slice none 0 0, .slice none 0 0]) (aM (by kernel_rfl)) (by decide) fun g3 => ?_
  have hmi : (iP s)[i]? = some (d.aQ.length : Int) := by rw [iP, List.getElem?_map, hd]; rfl
  have eN : (aO (gI (iP s) ((iP s).map fun _ => 0) i)).length = s.aA.length := by simp [aO, Jp]
  have eB : (aO (gI (iP s) ((iP s).map fun _ => 0) i)).set i (.int .i64 d.aQ.length) = aO (gI (iP s) ((iP s).map fun _ => 0) (i + 1)) := by
   rw [← Ii (by simp) hmi, aO, aO, List.map_set]
  refine XK.go ?_
  refine dZ (f := 63) (fi := []) (ca := []) (by kernel_rfl) rfl rfl (by decide) (aCs d) (fun w1 t => aDB d (by have := hfit.2.2.2.2.2.2.2.2.1; omega) (fun r hr => by have := hfit.2.2.2.2.2.2.2.2.2.1 r hr; omega) a1.1 a1.2 w1 (aH.le Uc (t.le (by simp)))) ?_
  rintro _ _ q1 ⟨LF, rfl, rfl⟩ _
  dsimp only [List.cons_append, List.nil_append]
  refine XK.go ?_
  refine aZ (fun w1 t => aAb LF d (wN d) w1 (t.aBw 0 rfl)) ?_
  refine XK.go ?_
  refine kd (dat i i) ?_
  refine iE rfl rfl ?_
  dsimp only [List.set]
  rw [eB]
  refine XK.go ?_
  refine XK.eR [2, 3, 4, 5, 6, 7, 8, 9, 10, 11, 12] ?_
  refine XB.mv 0 ?_
  refine XB.mv 1 ?_
  refine XB.mv 13 ?_
  refine XB.q 2 ?_
  refine XB.q 3 ?_
  refine XB.q 4 ?_
  refine XB.q 5 ?_
  refine XB.q 6 ?_
  refine XB.q 7 ?_
  refine XB.q 8 ?_
  refine XB.q 9 ?_
  refine XB.q 10 ?_
  refine XB.q 11 ?_
  refine XB.q 12 ?_
  refine XB.next 14 rfl (by kernel_rfl) ?_
  refine dZ (f := 65) (fi := []) (ca := []) (by kernel_rfl) rfl rfl (by decide) (fun v hs _ => ∃ g, v = .pointer (some ⟨g, 0, none⟩) ∧ hs = [HP.aF g 242 [.int .i64 0, .int .i64 0]]) (fun w1 t => aDM w1) ?_
  rintro _ _ q2 ⟨gq, rfl, rfl⟩ _
  dsimp only [List.cons_append, List.nil_append]
  refine XB.bk ?_
  refine XB.next 15 rfl (by kernel_rfl) ?_
  refine dB (zs := [.int .i64 0, .int .i64 0, .int .i64 0, .int .u32 0, .pointer none, .pointer none]) (L := [(0, 1), (1, 1), (2, 1), (3, 1), (4, 1), (5, 1)]) (aM (by kernel_rfl)) (by kernel_rfl) rfl (by simp [aR, aU, Value.cells]; rfl) (by decide) ?_
  refine XB.bk ?_
  refine XB.next 16 rfl (by kernel_rfl) ?_
  refine eP (el := 141) (sz := 6) (zs := [.int .i64 0, .int .i64 0, .int .i64 0, .int .u32 0, .pointer none, .pointer none]) (by kernel_rfl) (aM (by kernel_rfl)) (by kernel_rfl) rfl (by decide) (by decide) rfl (by simp [aR, aU, Value.cells, List.range_succ, List.set]; rfl) (by decide) fun g4 => ?_
  refine XB.bk ?_ (hS := fun _ h => h.tail.aN.tail)
  refine XB.next 17 rfl (by kernel_rfl) ?_
  refine fI 5 6 48 1 (n' := i + 1) (el := 141) (by kernel_rfl) (by kernel_rfl) (by decide) rfl rfl rfl (kL 0 rfl rfl) (by simp [Value.oneCell']) rfl (by omega) (by omega) (by decide) fun An cn => ?_
  dsimp only [List.set]
  refine XB.bt ?_
  refine XB.next 18 rfl (by kernel_rfl) ?_
  refine bJ ?_
  refine XB.bt ?_
  refine XB.next 19 rfl (by kernel_rfl) ?_
  refine bJ ?_
  refine XB.bt ?_
  refine XB.next 20 rfl (by kernel_rfl) ?_
  refine iE rfl rfl ?_
  dsimp only [List.set]
  refine XB.bt ?_
  refine XB.done (by kernel_rfl) ?_
  refine XK.go ?_
  refine XK.weak [2, 1, 4, 5, 6, 7, 8, 9, 10] rfl (by decide) (R' := [all w]) (by simp) ?_
  refine XK.pair ?_
  refine XK.push ?_
  refine XK.aK [(56, .int .i64 (i + 1 : Nat)), (55, .int .i64 s.aA.length), (54, .slice (some ⟨b, off, none⟩) s.aA.length k4), (10, .slice (some ⟨gm, 0, none⟩) s.aA.length s.aA.length), (9, .pointer (some ⟨g2, 0, none⟩))] ?_
  exact XK.round (s.aA.length - (i + 1)) (by omega) ⟨i + 1, An, cn, ls ++ [(LF, gq)], hlt, by simp; omega, rfl, rfl, rfl, by rw [aGX hd uM, aGW hd uM]; rfl⟩
 ·obtain rfl : i = s.aA.length := by omega
  rw [Ik hml (by simp [iP])]
  rw [List.take_length]
  refine XK.go ?_
  refine dZ (f := 66) (fi := []) (ca := []) (by kernel_rfl) rfl rfl (by decide) (aCu (iP s)) (fun w1 t => by
   have := aId (iP s) (by omega) (fun m hm => by
    obtain ⟨d, hd, rfl⟩ := List.mem_map.1 hm
    obtain ⟨j, hj⟩ := List.getElem?_of_mem hd
    have := (hH.t.aA j d hj).2.2.2.2.2.2.2.2.1
    omega) (some ⟨gm, 0, none⟩) s.aA.length w1
   rw [hml] at this
   exact this (t.uF (i := 2) rfl (by simp [aO, hml]))) ?_
  rintro _ _ q1 ⟨LB, rfl, rfl⟩ _
  dsimp only [List.cons_append, List.nil_append]
  refine XK.go ?_
  refine XK.weak [4, 7, 6, 5, 0, 2, 1] rfl (by decide) (R' := [all w]) (by simp) ?_
  refine XK.pair ?_
  refine XK.more ?_
  refine XK.more ?_
  refine XK.more ?_
  refine XK.more ?_
  refine XK.more ?_
  dsimp only [List.cons_append, List.nil_append]
  refine XK.still [] [] [0] (by simp) rfl (by decide) (by decide) fun q _ _ hfr => ?_
  exact XK.fQ rfl rfl rfl fun w1 t => ⟨⟨_, _, ⟨w1, q.Z⟩, rfl, rfl, ⟨⟨g2, LT, LG, LR, LB, A, c, ls⟩, rfl, by simp [cK, Kb, hw0, iP, Function.comp_def], Pc, uM⟩, t.newR (by simp) (by simp) (hfr (by simp) (by simp))⟩, t.below (by simp)⟩
end
section
set_option maxHeartbeats 4000000
set_option maxRecDepth 20000
structure bQ (s : aC) (x : aT) : Prop where
 ck : lS s x.ck
 dm : oN s x.dm
 ln : wX s x.ln
 dv : x.dv.length = s.aA.length
 each : ∀ (i : Nat) (d : bB) (p : bK × cG), s.aA[i]? = some d → x.dv[i]? = some p → wY d p.1 ∧ vM p.2
 wt : x.wt.length = s.aA.length
structure fB (L : HL) (s : aC) : Prop where
 fa : L.T.fa.length = s.aB.length
 ds : L.ds.length = s.aA.length
structure oL (w : World) (L : HL) (s : aC) (x : aT) : Prop where
 r0 : cZ w L.h 0 (Kb L s.aA.length)
 tree : rE w L.T s x.ck
 Vr : aCq w L.G s x.dm
 lines : Ak w L.R s x.ln
 Qd : At w L.B (iP s) x.wt x.jB
 rows : aH (all w) 6 L.A s.aA.length (qZ s.aA L.ds).flatten
 each : ∀ (i : Nat) (d : bB) (l : FL × Nat) (p : bK × cG), s.aA[i]? = some d → L.ds[i]? = some l → x.dv[i]? = some p → wZ w l.1 d p.1 ∧ cZ w l.2 0 (Fy p.2)
theorem oL.below {w w' : World} {L : HL} {s : aC} {x : aT} (h : oL w L s x) (hb : Below w.heap.size w w') : oL w' L s x :=
 ⟨h.r0.below hb, h.tree.below hb, vL.below h.Vr hb, h.lines.below hb, h.Qd.below hb, h.rows.le (fU hb), fun i d l p h1 h2 h3 => ⟨(h.each i d l p h1 h2 h3).1.below hb, (h.each i d l p h1 h2 h3).2.below hb⟩⟩
theorem cK.reads {L : HL} {s : aC} {x : aT} {F : Nat → Prop} {w : World} (h : (cK L s x).sat F w) (hF : ∀ b, F b → b < w.heap.size) (hL : fB L s) (hok : bQ s x) : oL w L s x := by
 obtain ⟨G, g1, g2, _⟩ := h
 have hl : ∀ i b, G i b → b < w.heap.size := fun i b hb => hF b (g2 i b hb)
 obtain ⟨A', c', he, hs⟩ := aH.rN (Y := fun b => b < w.heap.size) (g1 5 _ rfl) (hl 5)
 injection he with he
 subst he
 refine ⟨wU (g1 0 _ rfl).2, jF.reads (g1 1 _ rfl) (hl 1) hL.fa hok.ck, wW.reads (g1 2 _ rfl) (hl 2), iH.reads (g1 3 _ rfl), Ge.reads (g1 4 _ rfl), hs, fun i d l p h1 h2 h3 => ?_⟩
 obtain ⟨G', k1, k2, _⟩ := g1 6 _ rfl
 have hz : (rZ s.aA L.ds x.dv)[i]? = some (Fe d (l, p)) := by
  have hq : (L.ds.zip x.dv)[i]? = some (l, p) := List.getElem?_zip_eq_some.2 ⟨h2, h3⟩
  rw [rZ, List.getElem?_zipWith, h1, hq]
 have hj : ∀ b, G' i b → b < w.heap.size := fun b hb => hl 6 b (k2 i b hb)
 obtain ⟨G2, m1, m2, _⟩ := k1 i _ hz
 exact ⟨dM.reads (m1 0 _ rfl) (fun b hb => hj b (m2 0 b hb)), wU (m1 1 _ rfl).2⟩
section
variable {N : cN} {w0 w : World} {e : Env} {R : List Piece} {H : List HP} {K : Act → World → Prop} {L : HL} {s : aC} {x : aT}
theorem St.iW (t : St w0 R H w) (i : Nat) (hi : H[i]? = some (cK L s x)) (hL : fB L s) (hok : bQ s x) : oL w L s x := by
 obtain ⟨F, h1, h2, _⟩ := t.chunk hi
 exact cK.reads h1 h2 hL hok
end
section
variable (L : HL) (s : aC) (x : aT) (w : World)
theorem uR (hR : oL w L s x) : Calls Tryz.prog 77 #[.pointer (some ⟨L.h, 0, none⟩)] w (Rt (.bool true) w) := by
 have k0 := hR.r0.at_ (j := 0) rfl
 have k1 := hR.r0.at_ (j := 1) rfl
 have k2 := hR.r0.at_ (j := 2) rfl
 have k3 := hR.r0.at_ (j := 3) rfl
 refine XK.enter (vs := [.pointer (some ⟨L.h, 0, none⟩)]) Tryz.func77 rfl Tryz.ntmps77 (by simp) ?_
 refine XK.go ?_
 exact XK.bU (by simp) rfl
theorem Ka (i : Int) (hR : oL w L s x) : Calls Tryz.prog 90 #[.pointer (some ⟨L.h, 0, none⟩), .int .i64 i] w (Rt (.bool (cF s.aA.length i)) w) := by
 have k0 := hR.r0.at_ (j := 4) rfl
 refine XK.enter (vs := [.pointer (some ⟨L.h, 0, none⟩), .int .i64 i]) Tryz.func90 rfl Tryz.ntmps90 (by simp) ?_
 refine XK.go ?_
 refine aZ (fun w1 t => uR L s x w1 (hR.below (t.below (by simp)))) ?_
 refine XK.go ?_
 refine bT (t := 11) rfl (fun h => ?_) (fun h => ?_)
 ·refine XK.go ?_
  refine XK.bU (by simp) ?_
  unfold cF
  congr 1
  simp; omega
 ·refine XK.go ?_
  refine XK.bU (by simp) ?_
  have : cF s.aA.length i = false := decide_eq_false (by omega)
  rw [this]
theorem aFJ (i : Nat) (hi : i < s.aA.length) (hR : oL w L s x) : Calls Tryz.prog 150 #[.pointer (some ⟨L.h, 0, none⟩), .int .i64 (i : Int)] w (Rt (.int .i64 (iA x.wt i : Nat)) w) := by
 have k0 := hR.r0.at_ (j := 3) rfl
 have hin : cF s.aA.length (i : Int) = true := decide_eq_true (by omega)
 refine XK.enter (vs := [.pointer (some ⟨L.h, 0, none⟩), .int .i64 (i : Int)]) Tryz.func150 rfl Tryz.ntmps150 (by simp) ?_
 refine XK.go ?_
 refine aZ (fun w1 t => Ka L s x w1 i (hR.below (t.below (by simp)))) ?_
 rw [hin]
 refine XK.go ?_
 refine aZ (fun w1 t => aBQ L.B (iP s) x.wt x.jB i (by rw [Nu]; exact hi) w1 (hR.Qd.below (t.below (by simp)))) ?_
 refine XK.go ?_
 exact XK.bU (by simp) rfl
theorem Uy (hok : oN s x.dm) (i : Int) (hR : oL w L s x) : Calls Tryz.prog 28 #[.pointer (some ⟨L.h, 0, none⟩), .int .i64 i] w (Rt (.int .u8 (kW x.dm i)) w) := by
 have k0 := hR.r0.at_ (j := 1) rfl
 refine XK.enter (vs := [.pointer (some ⟨L.h, 0, none⟩), .int .i64 i]) Tryz.func28 rfl Tryz.ntmps28 (by simp) ?_
 refine XK.go ?_
 refine aZ (fun w1 t => uR L s x w1 (hR.below (t.below (by simp)))) ?_
 refine XK.go ?_
 refine aZ (fun w1 t => aAg L.G s x.dm hok i w1 (vL.below hR.Vr (t.below (by simp)))) ?_
 refine XK.go ?_
 exact XK.bU (by simp) rfl
theorem aFN (i : Int) (hR : oL w L s x) : Calls Tryz.prog 34 #[.pointer (some ⟨L.h, 0, none⟩), .int .i64 i] w (Rt (.bool (tB x.ln i)) w) := by
 have k0 := hR.r0.at_ (j := 2) rfl
 refine XK.enter (vs := [.pointer (some ⟨L.h, 0, none⟩), .int .i64 i]) Tryz.func34 rfl Tryz.ntmps34 (by simp) ?_
 refine XK.go ?_
 refine aZ (fun w1 t => uR L s x w1 (hR.below (t.below (by simp)))) ?_
 refine XK.go ?_
 refine aZ (fun w1 t => Zw L.R s x.ln i w1 (hR.lines.below (t.below (by simp)))) ?_
 refine XK.go ?_
 exact XK.bU (by simp) rfl
end
end
section
set_option maxHeartbeats 4000000
set_option maxRecDepth 20000
def yR (l : List Int) (v : Value) (hs : List HP) (_ : Piece) : Prop := ∃ A c, v = .slice A l.length c ∧ hs = [HP.own 44 1 (.slice A l.length c) l.length (kK l)]
theorem aD4 (w0 : Int) (A : Option Addr) (n c : Nat) (zs : List Int) (w : World) (hs : aH (all w) 1 A n (kK zs)) (hn : n = zs.length) (hn2 : n ≤ 1000000) : Calls Tryz.prog 70 #[.int .u32 w0, .slice A n c] w (fun y w' => (∃ v hs q, y = .returned v ∧ q.w = w' ∧ yR (w0 :: zs) v hs q ∧ kA w hs q) ∧ Below w.heap.size w w') := by
 refine XK.enter (vs := [.int .u32 w0, .slice A n c]) Tryz.func70 rfl Tryz.ntmps70 (by simp) ?_
 refine XK.go ?_
 refine Yf 1 4 (el := 44) (c := n + 1) (k0 := 1) (oB := .i64) (by kernel_rfl) (by kernel_rfl) rfl (by rw [Int.natCast_add]; rfl) (by omega) (by omega) (by decide) fun g1 => ?_
 refine XK.go ?_
 refine eP (el := 44) (sz := 1) (zs := [.int .u32 0]) (by kernel_rfl) (aM (by kernel_rfl)) (by kernel_rfl) rfl (by decide) (by decide) rfl (by simp [aR, aU, Value.cells, List.range_succ, List.set]; rfl) (by decide) fun g2 => ?_
 refine fI 1 1 4 1 (n' := 1) (el := 44) (by kernel_rfl) (by kernel_rfl) (by decide) rfl rfl rfl (kL 0 rfl rfl) (by simp [Value.oneCell']) rfl (by omega) (by omega) (by decide) fun A1 c1 => ?_
 dsimp only [List.set]
 refine XK.go ?_
 refine fI 1 1 4 n (n' := n + 1) (el := 44) (by kernel_rfl) (by kernel_rfl) (by decide) rfl rfl rfl (qI (by simp) hs) (Gp _) (by omega) (by omega) (by omega) (by decide) fun A2 c2 => ?_
 dsimp only [List.set]
 refine XK.go ?_
 subst hn
 refine XK.weak [1] rfl (by decide) (fun _ h => h) ?_
 refine XK.still [] [] [0] (by simp) rfl (by decide) (by decide) fun q _ _ hfr => ?_
 exact XK.aI rfl rfl fun w1 t => ⟨⟨_, _, ⟨w1, q.Z⟩, rfl, rfl, ⟨A2, c2, rfl, rfl⟩, t.newR (by simp) (by simp) (hfr (by simp) (by simp))⟩, t.below (by simp)⟩
theorem Fu (w0 st st' : Int) (hst : IntKind.u32.wrap st = st') (A : Option Addr) (n c : Nat) (zs : List Int) (w : World) (hs : aH (all w) 1 A n (kK zs)) (hn : n = zs.length) (hn2 : n ≤ 1000) :
  Calls Tryz.prog 159 #[.int .u32 w0, .int .i32 st, .slice A n c] w (fun y w' => (∃ v hs q, y = .returned v ∧ q.w = w' ∧ yR (w0 :: st' :: zs) v hs q ∧ kA w hs q) ∧ Below w.heap.size w w') := by
 subst hn
 refine XK.enter (vs := [.int .u32 w0, .int .i32 st, .slice A zs.length c]) Tryz.func159 rfl Tryz.ntmps159 (by simp) ?_
 refine XK.go ?_
 refine rH (ds := .int .i32) (by kernel_rfl) (by kernel_rfl) rfl hst (by decide) ?_
 refine eP (el := 44) (sz := 1) (zs := [.int .u32 0]) (by kernel_rfl) (aM (by kernel_rfl)) (by kernel_rfl) rfl (by decide) (by decide) rfl (by simp [aR, aU, Value.cells, List.range_succ, List.set]; rfl) (by decide) fun g1 => ?_
 refine dZ (f := 70) (fi := []) (ca := []) (by kernel_rfl) rfl rfl (by decide) (yR [w0, st']) (fun w1 t => aD4 w0 _ 1 1 [st'] w1 (t.uF (i := 0) rfl rfl) rfl (by omega)) ?_
 rintro _ _ q1 ⟨A1, c1, rfl, rfl⟩ _
 dsimp only [List.cons_append, List.nil_append]
 refine XK.go ?_
 refine fI 0 1 4 zs.length (n' := zs.length + 2) (el := 44) (by kernel_rfl) (by kernel_rfl) (by decide) rfl rfl rfl (qI (by simp) hs) (Gp _) (by simp; omega) (by omega) (by omega) (by decide) fun A2 c2 => ?_
 dsimp only [List.set]
 refine XK.go ?_
 refine XK.weak [0] rfl (by decide) (R' := [all w]) (by simp) ?_
 refine XK.still [] [] [0] (by simp) rfl (by decide) (by decide) fun q _ _ hfr => ?_
 exact XK.aI rfl rfl fun w1 t => ⟨⟨_, _, ⟨w1, q.Z⟩, rfl, rfl, ⟨A2, c2, rfl, rfl⟩, t.newR (by simp) (by simp) (hfr (by simp) (by simp))⟩, t.below (by simp)⟩
theorem Eh (i : Int) (w : World) : Calls Tryz.prog 71 #[.int .i64 i] w (Rt (.bool (cF 2 i)) w) := by
 refine XK.enter (vs := [.int .i64 i]) Tryz.func71 rfl Tryz.ntmps71 (by simp) ?_
 refine XK.go ?_
 refine bT (t := 5) rfl (fun h => ?_) (fun h => ?_)
 ·refine XK.go ?_
  refine XK.bU (by simp) ?_
  unfold cF
  congr 1
  simp; omega
 ·refine XK.go ?_
  refine XK.bU (by simp) ?_
  have : cF 2 i = false := decide_eq_false (by omega)
  rw [this]
def Bj (p : Int) : Int := if p = 48 then 0 else if p = 49 then 1 else if p = 116 then 2 else 3
theorem aGA (p : Int) (w : World) : Calls Tryz.prog 225 #[.int .u8 p] w (Rt (.int .u32 (Bj p)) w) := by
 refine XK.enter (vs := [.int .u8 p]) Tryz.func225 rfl Tryz.ntmps225 (by simp) ?_
 refine XK.go ?_
 refine XK.if_ rfl (fun h => ?_) (fun h => ?_)
 ·refine XK.go ?_
  exact XK.bU (by simp) (by rw [Bj, if_pos h])
 ·refine XK.go ?_
  refine XK.if_ rfl (fun h1 => ?_) (fun h1 => ?_)
  ·refine XK.go ?_
   exact XK.bU (by simp) (by rw [Bj, if_neg h, if_pos h1])
  ·refine XK.go ?_
   refine XK.if_ rfl (fun h2 => ?_) (fun h2 => ?_)
   ·refine XK.go ?_
    exact XK.bU (by simp) (by rw [Bj, if_neg h, if_neg h1, if_pos h2])
   ·refine XK.go ?_
    exact XK.bU (by simp) (by rw [Bj, if_neg h, if_neg h1, if_neg h2])
end
section
def jP (p : Piece) (x y : bE) (v : Value) : Prop := ∃ A1 k1 A2 k2 A3 k3 B1 m1 B2 m2 B3 m3, v = .agg #[.slice A1 x.d.length k1, .slice A2 x.c.length k2, .slice A3 x.l.length k3, .slice B1 y.d.length m1, .slice B2 y.c.length m2, .slice B3 y.l.length m3] ∧
 aH p 1 A1 x.d.length (bP x.d) ∧ aH p 1 A2 x.c.length (bP x.c) ∧ aH p 1 A3 x.l.length (bP x.l) ∧ aH p 1 B1 y.d.length (bP y.d) ∧ aH p 1 B2 y.c.length (bP y.c) ∧ aH p 1 B3 y.l.length (bP y.l)
theorem jP.le {p q : Piece} {x y : bE} {v : Value} (h : jP p x y v) (hl : p.Le q) : jP q x y v := by
 obtain ⟨A1, k1, A2, k2, A3, k3, B1, m1, B2, m2, B3, m3, h0, h1, h2, h3, h4, h5, h6⟩ := h
 exact ⟨A1, k1, A2, k2, A3, k3, B1, m1, B2, m2, B3, m3, h0, h1.le hl, h2.le hl, h3.le hl, h4.le hl, h5.le hl, h6.le hl⟩
def Dd (s : aC) (p : Piece) : Nat → List Value → Prop
 | 0, cs => cs = [.slice none 0 0, .slice none 0 0, .slice none 0 0, .slice none 0 0, .slice none 0 0, .slice none 0 0]
 | 1, cs => ∃ a b c, cs = [a, b, c, .slice none 0 0, .slice none 0 0, .slice none 0 0] ∧ pS p (dY s) (.agg #[a, b, c])
 | _, cs => ∃ a b c a' b' c', cs = [a, b, c, a', b', c'] ∧ pS p (dY s) (.agg #[a, b, c]) ∧ pS p (dY s) (.agg #[a', b', c'])
theorem Dd.len {s : aC} {p : Piece} : ∀ {i : Nat} {cs : List Value}, Dd s p i cs → cs.length = 6
 | 0, _, h => by rw [show _ = _ from h]; rfl
 | 1, _, ⟨_, _, _, h, _⟩ => by rw [h]; rfl
 | _ + 2, _, ⟨_, _, _, _, _, _, h, _⟩ => by rw [h]; rfl
theorem Dd.next {s : aC} {p q : Piece} (hl : p.Le q) {a b c : Value} (hw : pS q (dY s) (.agg #[a, b, c])) {i : Nat} {cs : List Value} (hi : i < 2) (h : Dd s p i cs) : Dd s q (i + 1) (cC cs (i * 3) [a, b, c]) := by
 obtain rfl | rfl : i = 0 ∨ i = 1 := by omega
 ·have h0 : cs = [.slice none 0 0, .slice none 0 0, .slice none 0 0, .slice none 0 0, .slice none 0 0, .slice none 0 0] := h
  subst h0
  exact ⟨a, b, c, rfl, hw⟩
 ·obtain ⟨a1, b1, c1, h0, h1⟩ := h
  subst h0
  exact ⟨a1, b1, c1, a, b, c, rfl, pS.le h1 hl, hw⟩
theorem aDb (s : aC) (A1 A2 A3 A4 : Option Addr) (k1 k2 k3 k4 : Nat) (w : World) (hm : s.rM) :
  Calls Tryz.prog 68 #[.agg #[.slice A1 s.aB.length k1, .slice A2 s.domains.length k2, .slice A3 s.aW.length k3, .slice A4 s.aA.length k4]] w (Ql (fun v w w' => jP (fresh w w') (dY s) (dY s) v) w) := by
 have hn9 := hm.nc
 have qS := hm.nd
 have qU := hm.nr
 refine XK.enter (vs := [.agg #[.slice A1 s.aB.length k1, .slice A2 s.domains.length k2, .slice A3 s.aW.length k3, .slice A4 s.aA.length k4]]) Tryz.func68 rfl Tryz.ntmps68 (by simp) ?_
 refine XK.seq ?_
 refine XK.region ?_
 refine bY rfl (by decide) fun g1 => ?_
 refine bZ (cs := [.slice none 0 0, .slice none 0 0, .slice none 0 0, .slice none 0 0, .slice none 0 0, .slice none 0 0]) (aM (by kernel_rfl)) (by decide) fun g2 => ?_
 refine XK.aE ?_
 refine XK.seq ?_
 refine XK.region ?_
 refine bZ (cs := [.slice none 0 0, .slice none 0 0, .slice none 0 0, .slice none 0 0, .slice none 0 0, .slice none 0 0]) (aM (by kernel_rfl)) (by decide) fun g3 => ?_
 refine XK.aE ?_
 refine XK.seq ?_
 refine XK.seq ?_
 refine XK.region ?_
 refine aG rfl (by decide) ?_
 refine XK.aE ?_
 refine XK.aK [(5, .int .i64 0), (3, .pointer (some ⟨g3, 0, none⟩)), (2, .pointer (some ⟨g2, 0, none⟩)), (1, .pointer (some ⟨g1, 0, none⟩))] ?_
 refine XK.piece ⟨w, fun _ => False⟩ (by simp) (fun _ h => h.elim) ?_
 refine XK.block ?_
 refine XK.loop (fun m e R H => ∃ (i : Nat) (cs : List Value) (qs : Piece), i ≤ 2 ∧ m = 2 - i ∧ Dd s qs i cs ∧ lA w qs ∧ e = [(5, .int .i64 i), (3, .pointer (some ⟨g3, 0, none⟩)), (2, .pointer (some ⟨g2, 0, none⟩)), (1, .pointer (some ⟨g1, 0, none⟩))] ∧ R = [qs, all w] ∧ H = [HP.aF g3 71 cs, HP.aF g2 71 [.slice none 0 0, .slice none 0 0, .slice none 0 0, .slice none 0 0, .slice none 0 0, .slice none 0 0], HP.aF g1 29 [.slice A1 s.aB.length k1, .slice A2 s.domains.length k2, .slice A3 s.aW.length k3, .slice A4 s.aA.length k4]]) 2 ⟨0, _, ⟨w, fun _ => False⟩, by omega, rfl, rfl, (fun _ h => h.elim), rfl, rfl, rfl⟩ fun m e R H hI => ?_
 obtain ⟨i, cs, qs, hi2, rfl, hcs, aAU, rfl, rfl, rfl⟩ := hI
 refine XK.seq ?_
 refine XK.region ?_
 refine hJ rfl rfl (by decide) ?_
 refine XK.aE ?_
 refine XK.seq ?_
 refine XK.if_ rfl (fun h => ?_) (fun h => ?_)
 ·
  refine XK.skip ?_
  refine XK.norm ?_
  refine XK.seq ?_
  refine XK.block ?_
  refine XK.seq ?_
  refine XK.region ?_
  refine aG rfl (by decide) ?_
  refine aL rfl (by decide) ?_
  refine XK.aE ?_
  refine XK.draw 15 (by kernel_rfl) (by kernel_rfl) ?_
  refine XA.dA 0 rfl rfl rfl (cI rfl) ?_
  refine XA.dA 1 rfl rfl rfl (jE (off := 1) (by kernel_rfl) rfl) ?_
  refine XA.dA 2 rfl rfl rfl (rA rfl) ?_
  refine XA.dA 3 rfl rfl rfl (vH (el := 75) (by kernel_rfl) rfl) ?_
  refine XA.dA 5 rfl rfl rfl (jE (off := 0) (by kernel_rfl) rfl) ?_
  refine XA.dA 6 rfl rfl rfl (rA rfl) ?_
  refine XA.dA 7 rfl rfl rfl (vH (el := 118) (by kernel_rfl) rfl) ?_
  refine XA.dA 9 rfl rfl rfl (jE (off := 2) (by kernel_rfl) rfl) ?_
  refine XA.dA 10 rfl rfl rfl (rA rfl) ?_
  refine XA.dA 11 rfl rfl rfl (vH (el := 120) (by kernel_rfl) rfl) ?_
  refine XA.dA 14 rfl rfl rfl (jE (off := 0) (by kernel_rfl) rfl) ?_
  refine XA.aIi (fuel := 3) [4, 8, 12] [[4, 8, 12]] (fun i => match i with | 4 => ⟨12, 4, List.replicate s.domains.length (.bool false), fun g => .slice (some ⟨g, 0, none⟩) s.domains.length s.domains.length⟩ | 8 => ⟨16, 4, List.replicate s.aB.length (.bool false), fun g => .slice (some ⟨g, 0, none⟩) s.aB.length s.aB.length⟩ | _ => ⟨20, 4, List.replicate s.aW.length (.bool false), fun g => .slice (some ⟨g, 0, none⟩) s.aW.length s.aW.length⟩) (fun i hi => ?_) (by show [12, 16, 20].Nodup; decide) (by kernel_rfl) (fun _ h => h) (fun sub hsub hex g => ?_)
  ·simp only [List.mem_cons, List.not_mem_nil, or_false] at hi
   rcases hi with rfl | rfl | rfl
   ·exact Gf.of rfl rfl rfl (Sy 1 (el := 4) (z := .bool false) (by kernel_rfl) (by kernel_rfl) rfl rfl rfl (by omega) (by omega)) (Nat.le_of_ble_eq_true rfl) rfl
   ·exact Gf.of rfl rfl rfl (Sy 1 (el := 4) (z := .bool false) (by kernel_rfl) (by kernel_rfl) rfl rfl rfl (by omega) (by omega)) (Nat.le_of_ble_eq_true rfl) rfl
   ·exact Gf.of rfl rfl rfl (Sy 1 (el := 4) (z := .bool false) (by kernel_rfl) (by kernel_rfl) rfl rfl rfl (by omega) (by omega)) (Nat.le_of_ble_eq_true rfl) rfl
  have fF : sub = [4, 8, 12] := by simpa using hex
  have er : ∀ n : Nat, List.replicate n (Value.bool false) = bP (List.replicate n false) := fun n => by simp [bP]
  have hi : i < 2 := by have h' : (i : Int) < 2 := h; omega
  have hlen := hcs.len
  subst fF
  dsimp only [pO, sZ, iV, List.map, List.foldr, List.cons_append, List.nil_append, List.length_cons, List.length_nil, Nat.reduceAdd, Nat.reduceSub]
  refine XA.eH 13 rfl rfl rfl (by decide) (gD (zs := [.slice none 0 0, .slice none 0 0, .slice none 0 0]) (L := [(0, 1), (1, 1), (2, 1)]) (aM (by kernel_rfl)) (by kernel_rfl) rfl (by simp [aR, aU, Value.cells]; rfl)) (by kernel_rfl) (fun _ _ _ h => h) (fun _ h => h.tail.tail.tail) ?_
  refine XA.next 15 rfl (by kernel_rfl) ?_
  refine Qv i (i * 3) (el := 68) (sz := 3) (by kernel_rfl) (by kernel_rfl) rfl rfl rfl hi (by omega) (by decide) ?_
  refine XA.bt ?_
  refine XA.next 16 rfl (by kernel_rfl) ?_
  refine kC 3 rfl rfl rfl (by kernel_rfl) (by simp [Value.cells, Value.oneCell']) (by simp [Value.cells]; omega) ?_
  dsimp only [List.set]
  rw [show (Value.agg [.slice (some ⟨g 4, 0, none⟩) s.domains.length s.domains.length, .slice (some ⟨g 8, 0, none⟩) s.aB.length s.aB.length, .slice (some ⟨g 12, 0, none⟩) s.aW.length s.aW.length].toArray).cells.toList = [.slice (some ⟨g 4, 0, none⟩) s.domains.length s.domains.length, .slice (some ⟨g 8, 0, none⟩) s.aB.length s.aB.length, .slice (some ⟨g 12, 0, none⟩) s.aW.length s.aW.length] from rfl]
  refine XA.bt ?_
  refine XA.done (by kernel_rfl) ?_
  refine XK.norm ?_
  refine XK.region ?_
  refine dO rfl rfl (bA (by omega)) (by decide) ?_
  refine aG rfl (by decide) ?_
  refine XK.aE ?_
  refine XK.still [qs] [0, 1, 2] [3, 4, 5] (by simp) rfl (by decide) (by decide) fun qn qQ hle hfr => ?_
  have hfn := hfr (by simp) (fun p hp => by simp only [List.mem_cons, List.not_mem_nil, or_false] at hp; subst hp; exact aAU)
  have b1 : aH qn 1 (some ⟨g 4, 0, none⟩) (s.domains.length) (List.replicate (s.domains.length) (Value.bool false)) := aH.pE (n := s.domains.length) (sz := 1) (c := 0) (qQ 0 _ (by simp) rfl).choose_spec.1 (qQ 0 _ (by simp) rfl).choose_spec.2 (by simp)
  have b2 : aH qn 1 (some ⟨g 8, 0, none⟩) (s.aB.length) (List.replicate (s.aB.length) (Value.bool false)) := aH.pE (n := s.aB.length) (sz := 1) (c := 0) (qQ 1 _ (by simp) rfl).choose_spec.1 (qQ 1 _ (by simp) rfl).choose_spec.2 (by simp)
  have b3 : aH qn 1 (some ⟨g 12, 0, none⟩) (s.aW.length) (List.replicate (s.aW.length) (Value.bool false)) := aH.pE (n := s.aW.length) (sz := 1) (c := 0) (qQ 2 _ (by simp) rfl).choose_spec.1 (qQ 2 _ (by simp) rfl).choose_spec.2 (by simp)
  rw [er] at b1 b2 b3
  have hww : pS qn (dY s) (.agg #[.slice (some ⟨g 4, 0, none⟩) s.domains.length s.domains.length, .slice (some ⟨g 8, 0, none⟩) s.aB.length s.aB.length, .slice (some ⟨g 12, 0, none⟩) s.aW.length s.aW.length]) := by
   unfold pS dY
   simp only [List.length_replicate]
   exact ⟨_, _, _, _, _, _, rfl, b1, b2, b3⟩
  refine XK.Dl (R' := [qn, all w]) (by simp) ?_
  exact XK.aK [(5, .int .i64 ((i : Int) + 1)), (3, .pointer (some ⟨g3, 0, none⟩)), (2, .pointer (some ⟨g2, 0, none⟩)), (1, .pointer (some ⟨g1, 0, none⟩))] (XK.round (2 - (i + 1)) (by omega) ⟨i + 1, _, qn, by omega, rfl, Dd.next (hle qs (by simp)) hww hi hcs, hfn, rfl, rfl, rfl⟩)
 ·
  refine XK.exit ?_
  refine XK.norm ?_
  refine XK.seq ?_
  have hie : i = 2 := by have h' : ¬ (i : Int) < 2 := h; omega
  subst hie
  obtain ⟨a, b, c, a', b', c', rfl, hw1, hw2⟩ := hcs
  obtain ⟨D1, d1, D2, d2, D3, d3, e1, x1, x2, x3⟩ := hw1
  obtain ⟨F1, f1, F2, f2, F3, f3, e2, y1, y2, y3⟩ := hw2
  cases e1
  cases e2
  refine XK.region ?_
  refine iK 6 rfl ?_
  refine eJ rfl rfl ?_; simp only [cC, Value.cells, List.set, List.take, List.drop, List.nil_append, List.append_nil, List.length_cons, List.length_nil, List.cons_append, Nat.reduceAdd]
  refine XK.aE ?_
  refine XK.ret ?_
  refine XK.norm ?_
  exact XK.Dt rfl (by kernel_rfl) rfl rfl (aD.whole 1 rfl) fun w1 st => ⟨⟨_, rfl, by
   have hl := st.lK (by simp) aAU
   exact ⟨_, _, _, _, _, _, _, _, _, _, _, _, rfl, x1.le hl, x2.le hl, x3.le hl, y1.le hl, y2.le hl, y3.le hl⟩⟩, st.below (by simp)⟩
end
section
section
variable {P : Program} {N : cN} {w0 : World} {e : Env} {R : List Piece} {H : List HP} {Q : Exit → Act → World → Prop} {ops : Array Oper} {rest : List Oper}
variable {d : Nat} {ty : TypeId} {pos : String} {aJ : Array Edge}
theorem aC2 {x : Operand} {a : Addr} (hx : e.ev x = some (.pointer (some a))) (hd : d < N.n) (k : XK N w0 (wpList P ops Q rest) ((d, .pointer (some a)) :: e) R H) : XK N w0 (wpList P ops Q (⟨some d, .nilCheck x, ty, pos, aJ, none⟩ :: rest)) e R H :=
 fW hd (fun b w hr => by simp [execOp, hr.ev hx]) k
end
def Mf (p : Piece) (A : Option Addr) (cV : List Ev) : Prop := aH p 14 A cV.length (cV.flatMap Ev.cells)
theorem Mf.le {p q : Piece} {A : Option Addr} {cV : List Ev} (h : Mf p A cV) (hl : p.Le q) : Mf q A cV := aH.le h hl
theorem Mf.ev {p : Piece} {b off : Nat} {cV : List Ev} (h : Mf p (some ⟨b, off, none⟩) cV) {k : Nat} {x : Ev} (hk : cV[k]? = some x) : p.Z b ∧ ∀ f u, x.cells[f]? = some u → p.w.cell? ⟨b, off + k * 14 + f, none⟩ = some u := by
 have hlt := (List.getElem?_eq_some_iff.1 hk).1
 obtain ⟨b', off', hA, hb, hc⟩ := aH.at_ h hlt
 cases hA
 refine ⟨hb, fun f u hu => hc f u ?_⟩
 have hf : f < 14 := by
  rw [← Ev.Lr x]
  rcases Nat.lt_or_ge f x.cells.length with h | h
  ·exact h
  ·rw [List.getElem?_eq_none h] at hu; cases hu
 rw [Co Ev.cells 14 cV (fun _ _ => Ev.Lr _) k f x hk hf, hu]
end
section
set_option maxHeartbeats 4000000
set_option maxRecDepth 20000
def fL (k : Int) : Prop := k = 117 ∨ k = 99 ∨ k = 114
instance (k : Int) : Decidable (fL k) := by unfold fL; infer_instance
def nX (s : aC) (p : Int) : Nat := if p = 17 then s.domains.length else if p = 20 then s.aB.length else if p = 22 then s.aW.length else 0
def dK (k : Int) (v0 v1 v2 : Value) : Value := if k = 117 ∨ k = 100 ∨ k = 107 then v0 else if k = 99 ∨ k = 111 then v1 else if k = 114 ∨ k = 97 then v2 else .slice none 0 0
def sV (k : Int) (x : bE) : List Bool := if k = 117 ∨ k = 100 ∨ k = 107 then x.d else if k = 99 ∨ k = 111 then x.c else if k = 114 ∨ k = 97 then x.l else []
def jR (x : bE) (k id : Int) : Bool := decide (0 ≤ id) && hasB (sV k x) id.toNat
theorem eW.thn {w w' : World} {g o : Nat} {v : Value} (h : eW w g o v) (hb : Below w.heap.size w w') : eW w' g o v := ⟨Nat.lt_of_lt_of_le h.1 hb.size, (hb.cell (p := ⟨g, o, none⟩) h.1).trans h.2⟩
def Lw (w : World) (g o : Nat) (x : bE) : Prop := ∃ A1 k1 A2 k2 A3 k3, eW w g o (.slice A1 x.d.length k1) ∧ eW w g (o + 1) (.slice A2 x.c.length k2) ∧ eW w g (o + 2) (.slice A3 x.l.length k3) ∧
 aH (all w) 1 A1 x.d.length (bP x.d) ∧ aH (all w) 1 A2 x.c.length (bP x.c) ∧ aH (all w) 1 A3 x.l.length (bP x.l)
theorem aFc {w : World} {x : bE} {A1 A2 A3 : Option Addr} {k1 k2 k3 : Nat} (h1 : aH (all w) 1 A1 x.d.length (bP x.d)) (h2 : aH (all w) 1 A2 x.c.length (bP x.c)) (h3 : aH (all w) 1 A3 x.l.length (bP x.l)) (k : Int) :
  ∃ A c, dK k (.slice A1 x.d.length k1) (.slice A2 x.c.length k2) (.slice A3 x.l.length k3) = .slice A (sV k x).length c ∧ aH (all w) 1 A (sV k x).length (bP (sV k x)) := by
 unfold dK sV
 split
 ·exact ⟨_, _, rfl, h1⟩
 ·split
  ·exact ⟨_, _, rfl, h2⟩
  ·split
   ·exact ⟨_, _, rfl, h3⟩
   ·exact ⟨_, _, rfl, aH.nil _ _⟩
theorem zD (k : Int) (w : World) :
  Calls Tryz.prog 96 #[.int .u8 k] w (Rt (.bool (decide (fL k))) w) := by
 refine XK.enter (vs := [.int .u8 k]) Tryz.func96 rfl Tryz.ntmps96 (by simp) ?_
 refine XK.go ?_
 (first | refine bT (t := 5) rfl (fun hg => ?_) (fun hg => ?_) | refine jH (t := 5) rfl (fun hg => ?_) (fun hg => ?_))
 ·
  refine XK.go ?_
  exact XK.aI rfl rfl fun w1 st => ⟨by simp_all [fL], st.below (by simp)⟩
 ·
  refine XK.go ?_
  (first | refine bT (t := 9) rfl (fun hg => ?_) (fun hg => ?_) | refine jH (t := 9) rfl (fun hg => ?_) (fun hg => ?_))
  ·
   refine XK.go ?_
   exact XK.aI rfl rfl fun w1 st => ⟨by simp_all [fL], st.below (by simp)⟩
  ·
   refine XK.go ?_
   exact XK.aI rfl rfl fun w1 st => ⟨by simp_all [fL], st.below (by simp)⟩
theorem aE0 (s : aC) (A1 A2 A3 A4 : Option Addr) (k1 k2 k3 k4 : Nat) (p : Int) (w : World) :
  Calls Tryz.prog 177 #[.agg #[.slice A1 s.aB.length k1, .slice A2 s.domains.length k2, .slice A3 s.aW.length k3, .slice A4 s.aA.length k4], .int .i64 p] w (Rt (.int .i64 (nX s p)) w) := by
 refine XK.enter (vs := [.agg #[.slice A1 s.aB.length k1, .slice A2 s.domains.length k2, .slice A3 s.aW.length k3, .slice A4 s.aA.length k4], .int .i64 p]) Tryz.func177 rfl Tryz.ntmps177 (by simp) ?_
 refine XK.go ?_
 refine bY rfl (by decide) fun g1 => ?_
 refine XK.go ?_
 refine XK.if_ rfl (fun h => ?_) (fun h => ?_)
 ·
  refine XK.go ?_
  exact XK.aI rfl rfl fun w1 st => ⟨by simp_all [nX], st.below (by simp)⟩
 ·
  refine XK.go ?_
  refine XK.if_ rfl (fun h => ?_) (fun h => ?_)
  ·
   refine XK.go ?_
   exact XK.aI rfl rfl fun w1 st => ⟨by simp_all [nX], st.below (by simp)⟩
  ·
   refine XK.go ?_
   refine XK.if_ rfl (fun h => ?_) (fun h => ?_)
   ·
    refine XK.go ?_
    exact XK.aI rfl rfl fun w1 st => ⟨by simp_all [nX], st.below (by simp)⟩
   ·
    refine XK.go ?_
    exact XK.aI rfl rfl fun w1 st => ⟨by simp_all [nX], st.below (by simp)⟩
theorem Ta (g o : Nat) (k : Int) (v0 v1 v2 : Value) (w : World) (h0 : eW w g o v0) (h1 : eW w g (o + 1) v1) (h2 : eW w g (o + 2) v2) :
  Calls Tryz.prog 179 #[.pointer (some ⟨g, o, none⟩), .int .u8 k] w (Rt (dK k v0 v1 v2) w) := by
 refine XK.enter (vs := [.pointer (some ⟨g, o, none⟩), .int .u8 k]) Tryz.func179 rfl Tryz.ntmps179 (by simp) ?_
 refine XK.go ?_
 refine XK.if_ rfl (fun h => ?_) (fun h => ?_)
 ·
  refine XK.go ?_
  refine XK.if_ rfl (fun h => ?_) (fun h => ?_)
  ·
   refine XK.go ?_
   exact XK.aI rfl rfl fun w1 st => ⟨by simp_all [dK], st.below (by simp)⟩
  ·
   refine XK.go ?_
   refine XK.if_ rfl (fun h => ?_) (fun h => ?_)
   ·
    refine XK.go ?_
    refine XK.if_ rfl (fun h => ?_) (fun h => ?_)
    ·
     refine XK.go ?_
     exact XK.aI rfl rfl fun w1 st => ⟨by simp_all [dK], st.below (by simp)⟩
    ·
     refine XK.go ?_
     refine XK.if_ rfl (fun h => ?_) (fun h => ?_)
     ·
      refine XK.go ?_
      refine XK.if_ rfl (fun h => ?_) (fun h => ?_)
      ·
       refine XK.go ?_
       exact XK.aI rfl rfl fun w1 st => ⟨by simp_all [dK], st.below (by simp)⟩
      ·
       refine XK.go ?_
       exact XK.aI rfl rfl fun w1 st => ⟨by simp_all [dK], st.below (by simp)⟩
     ·
      refine XK.go ?_
      refine XK.if_ rfl (fun h => ?_) (fun h => ?_)
      ·
       refine XK.go ?_
       exact XK.aI rfl rfl fun w1 st => ⟨by simp_all [dK], st.below (by simp)⟩
      ·
       refine XK.go ?_
       exact XK.aI rfl rfl fun w1 st => ⟨by simp_all [dK], st.below (by simp)⟩
   ·
    refine XK.go ?_
    refine XK.if_ rfl (fun h => ?_) (fun h => ?_)
    ·
     refine XK.go ?_
     exact XK.aI rfl rfl fun w1 st => ⟨by simp_all [dK], st.below (by simp)⟩
    ·
     refine XK.go ?_
     refine XK.if_ rfl (fun h => ?_) (fun h => ?_)
     ·
      refine XK.go ?_
      refine XK.if_ rfl (fun h => ?_) (fun h => ?_)
      ·
       refine XK.go ?_
       exact XK.aI rfl rfl fun w1 st => ⟨by simp_all [dK], st.below (by simp)⟩
      ·
       refine XK.go ?_
       exact XK.aI rfl rfl fun w1 st => ⟨by simp_all [dK], st.below (by simp)⟩
     ·
      refine XK.go ?_
      refine XK.if_ rfl (fun h => ?_) (fun h => ?_)
      ·
       refine XK.go ?_
       exact XK.aI rfl rfl fun w1 st => ⟨by simp_all [dK], st.below (by simp)⟩
      ·
       refine XK.go ?_
       exact XK.aI rfl rfl fun w1 st => ⟨by simp_all [dK], st.below (by simp)⟩
 ·
  refine XK.go ?_
  refine XK.if_ rfl (fun h => ?_) (fun h => ?_)
  ·
   refine XK.go ?_
   refine XK.if_ rfl (fun h => ?_) (fun h => ?_)
   ·
    refine XK.go ?_
    exact XK.aI rfl rfl fun w1 st => ⟨by simp_all [dK], st.below (by simp)⟩
   ·
    refine XK.go ?_
    refine XK.if_ rfl (fun h => ?_) (fun h => ?_)
    ·
     refine XK.go ?_
     refine XK.if_ rfl (fun h => ?_) (fun h => ?_)
     ·
      refine XK.go ?_
      exact XK.aI rfl rfl fun w1 st => ⟨by simp_all [dK], st.below (by simp)⟩
     ·
      refine XK.go ?_
      refine XK.if_ rfl (fun h => ?_) (fun h => ?_)
      ·
       refine XK.go ?_
       refine XK.if_ rfl (fun h => ?_) (fun h => ?_)
       ·
        refine XK.go ?_
        exact XK.aI rfl rfl fun w1 st => ⟨by simp_all [dK], st.below (by simp)⟩
       ·
        refine XK.go ?_
        exact XK.aI rfl rfl fun w1 st => ⟨by simp_all [dK], st.below (by simp)⟩
      ·
       refine XK.go ?_
       refine XK.if_ rfl (fun h => ?_) (fun h => ?_)
       ·
        refine XK.go ?_
        exact XK.aI rfl rfl fun w1 st => ⟨by simp_all [dK], st.below (by simp)⟩
       ·
        refine XK.go ?_
        exact XK.aI rfl rfl fun w1 st => ⟨by simp_all [dK], st.below (by simp)⟩
    ·
     refine XK.go ?_
     refine XK.if_ rfl (fun h => ?_) (fun h => ?_)
     ·
      refine XK.go ?_
      exact XK.aI rfl rfl fun w1 st => ⟨by simp_all [dK], st.below (by simp)⟩
     ·
      refine XK.go ?_
      refine XK.if_ rfl (fun h => ?_) (fun h => ?_)
      ·
       refine XK.go ?_
       refine XK.if_ rfl (fun h => ?_) (fun h => ?_)
       ·
        refine XK.go ?_
        exact XK.aI rfl rfl fun w1 st => ⟨by simp_all [dK], st.below (by simp)⟩
       ·
        refine XK.go ?_
        exact XK.aI rfl rfl fun w1 st => ⟨by simp_all [dK], st.below (by simp)⟩
      ·
       refine XK.go ?_
       refine XK.if_ rfl (fun h => ?_) (fun h => ?_)
       ·
        refine XK.go ?_
        exact XK.aI rfl rfl fun w1 st => ⟨by simp_all [dK], st.below (by simp)⟩
       ·
        refine XK.go ?_
        exact XK.aI rfl rfl fun w1 st => ⟨by simp_all [dK], st.below (by simp)⟩
  ·
   refine XK.go ?_
   refine XK.if_ rfl (fun h => ?_) (fun h => ?_)
   ·
    refine XK.go ?_
    exact XK.aI rfl rfl fun w1 st => ⟨by simp_all [dK], st.below (by simp)⟩
   ·
    refine XK.go ?_
    refine XK.if_ rfl (fun h => ?_) (fun h => ?_)
    ·
     refine XK.go ?_
     refine XK.if_ rfl (fun h => ?_) (fun h => ?_)
     ·
      refine XK.go ?_
      exact XK.aI rfl rfl fun w1 st => ⟨by simp_all [dK], st.below (by simp)⟩
     ·
      refine XK.go ?_
      refine XK.if_ rfl (fun h => ?_) (fun h => ?_)
      ·
       refine XK.go ?_
       refine XK.if_ rfl (fun h => ?_) (fun h => ?_)
       ·
        refine XK.go ?_
        exact XK.aI rfl rfl fun w1 st => ⟨by simp_all [dK], st.below (by simp)⟩
       ·
        refine XK.go ?_
        exact XK.aI rfl rfl fun w1 st => ⟨by simp_all [dK], st.below (by simp)⟩
      ·
       refine XK.go ?_
       refine XK.if_ rfl (fun h => ?_) (fun h => ?_)
       ·
        refine XK.go ?_
        exact XK.aI rfl rfl fun w1 st => ⟨by simp_all [dK], st.below (by simp)⟩
       ·
        refine XK.go ?_
        exact XK.aI rfl rfl fun w1 st => ⟨by simp_all [dK], st.below (by simp)⟩
    ·
     refine XK.go ?_
     refine XK.if_ rfl (fun h => ?_) (fun h => ?_)
     ·
      refine XK.go ?_
      exact XK.aI rfl rfl fun w1 st => ⟨by simp_all [dK], st.below (by simp)⟩
     ·
      refine XK.go ?_
      refine XK.if_ rfl (fun h => ?_) (fun h => ?_)
      ·
       refine XK.go ?_
       refine XK.if_ rfl (fun h => ?_) (fun h => ?_)
       ·
        refine XK.go ?_
        exact XK.aI rfl rfl fun w1 st => ⟨by simp_all [dK], st.below (by simp)⟩
       ·
        refine XK.go ?_
        exact XK.aI rfl rfl fun w1 st => ⟨by simp_all [dK], st.below (by simp)⟩
      ·
       refine XK.go ?_
       refine XK.if_ rfl (fun h => ?_) (fun h => ?_)
       ·
        refine XK.go ?_
        exact XK.aI rfl rfl fun w1 st => ⟨by simp_all [dK], st.below (by simp)⟩
       ·
        refine XK.go ?_
        exact XK.aI rfl rfl fun w1 st => ⟨by simp_all [dK], st.below (by simp)⟩
theorem Qz (g ag : Nat) (x : bE) (k id : Int) (w : World) (hag : ag < 2) (hM : Lw w g (ag * 3) x) :
  Calls Tryz.prog 95 #[.pointer (some ⟨g, 0, none⟩), .int .i64 (ag : Int), .int .u8 k, .int .i64 id] w (Rt (.bool (jR x k id)) w) := by
 obtain ⟨A1, k1, A2, k2, A3, k3, h1, h2, h3, s1, s2, s3⟩ := hM
 obtain ⟨A, c, hL, hS⟩ := aFc (k1 := k1) (k2 := k2) (k3 := k3) s1 s2 s3 k
 refine XK.enter (vs := [.pointer (some ⟨g, 0, none⟩), .int .i64 (ag : Int), .int .u8 k, .int .i64 id]) Tryz.func95 rfl Tryz.ntmps95 (by simp) ?_
 refine XK.seq ?_
 refine XK.region ?_
 refine aL rfl (by decide) ?_
 refine XK.aE ?_
 refine XK.seq ?_
 refine XK.region ?_
 refine aG rfl (by decide) ?_
 refine aG rfl (by decide) ?_
 refine aC2 rfl (by decide) ?_
 refine bL (off := 0) (by kernel_rfl) rfl (by decide) ?_
 refine Qv (ag) (ag * 3) (n := 2) (el := 68) (sz := 3) (by kernel_rfl) (by kernel_rfl) rfl rfl (by omega) (by omega) (by omega) (by decide) ?_
 refine aG rfl (by decide) ?_
 refine aY (f := 179) (fi := []) (ca := []) (by kernel_rfl) rfl rfl (by decide) (fun w1 st => Ta g (ag * 3) k _ _ _ w1 (h1.thn (st.below (by simp))) (h2.thn (st.below (by simp))) (h3.thn (st.below (by simp)))) ?_
 rw [hL]
 refine aL rfl (by decide) ?_
 refine XK.aE ?_
 refine XK.seq ?_
 refine XK.region ?_
 refine aG rfl (by decide) ?_
 refine yW rfl rfl (by decide) ?_
 refine aG rfl (by decide) ?_
 (first | refine bT (t := 19) rfl (fun hg => ?_) (fun hg => ?_) | refine jH (t := 19) rfl (fun hg => ?_) (fun hg => ?_))
 ·
  refine aS rfl rfl ?_; refine aG rfl (by decide) ?_
  refine aS rfl rfl ?_; refine aG rfl (by decide) ?_
  refine aS rfl rfl ?_; refine fX (el := 4) (by kernel_rfl) rfl (by decide) ?_
  refine aS rfl rfl ?_; refine hJ rfl rfl (by decide) ?_
  (first | refine cL rfl rfl (by decide) ?_ | refine cM rfl rfl (by decide) ?_)
  refine aG rfl (by decide) ?_
  (first | refine bT (t := 25) rfl (fun hg => ?_) (fun hg => ?_) | refine jH (t := 25) rfl (fun hg => ?_) (fun hg => ?_))
  ·
   obtain ⟨i, rfl⟩ : ∃ i : Nat, id = (i : Int) := ⟨id.toNat, by omega⟩
   have hil : i < (sV k x).length := by omega
   obtain ⟨b, off, rfl, hz, hc⟩ := hS.2 (by omega)
   obtain ⟨v, hv⟩ : ∃ v, (sV k x)[i]? = some v := ⟨_, List.getElem?_eq_getElem hil⟩
   refine aS rfl rfl ?_; refine aG rfl (by decide) ?_
   refine aS rfl rfl ?_; refine aG rfl (by decide) ?_
   refine aS rfl rfl ?_; refine dH (i) (off + i) (el := 4) (sz := 1) (by kernel_rfl) (by kernel_rfl) rfl rfl (by omega) (by omega) (by omega) (by decide) ?_
   refine aS rfl rfl ?_; refine gA (by kernel_rfl) rfl (Rd.ro (p := all w) (by simp) hz (hc i _ (aIe hv))) (by decide) ?_
   (first | refine cL rfl rfl (by decide) ?_ | refine cM rfl rfl (by decide) ?_)
   refine aL rfl (by decide) ?_
   refine XK.aE ?_
   refine XK.ret ?_
   refine XK.norm ?_
   exact XK.aI rfl rfl fun w1 st => ⟨by simp [jR, hasB, hv], st.below (by simp)⟩
  ·
   refine aP rfl rfl rfl (by decide) ?_
   refine aP rfl rfl rfl (by decide) ?_
   refine aP rfl rfl rfl (by decide) ?_
   refine aP rfl rfl rfl (by decide) ?_
   (first | refine cL rfl rfl (by decide) ?_ | refine cM rfl rfl (by decide) ?_)
   refine aL rfl (by decide) ?_
   refine XK.aE ?_
   refine XK.ret ?_
   refine XK.norm ?_
   have hn : hasB (sV k x) id.toNat = false := by rw [hasB, List.getElem?_eq_none (by omega)]; rfl
   exact XK.aI rfl rfl fun w1 st => ⟨by simp [jR, hn], st.below (by simp)⟩
 ·
  refine aP rfl rfl rfl (by decide) ?_
  refine aP rfl rfl rfl (by decide) ?_
  refine aP rfl rfl rfl (by decide) ?_
  refine aP rfl rfl rfl (by decide) ?_
  (first | refine cL rfl rfl (by decide) ?_ | refine cM rfl rfl (by decide) ?_)
  refine aG rfl (by decide) ?_
  refine aP rfl rfl rfl (by decide) ?_
  refine aP rfl rfl rfl (by decide) ?_
  refine aP rfl rfl rfl (by decide) ?_
  refine aP rfl rfl rfl (by decide) ?_
  (first | refine cL rfl rfl (by decide) ?_ | refine cM rfl rfl (by decide) ?_)
  refine aL rfl (by decide) ?_
  refine XK.aE ?_
  refine XK.ret ?_
  refine XK.norm ?_
  have hn : decide (0 ≤ id) = false := by simp; omega
  exact XK.aI rfl rfl fun w1 st => ⟨by simp [jR, hn], st.below (by simp)⟩
end
section
set_option maxHeartbeats 4000000
set_option maxRecDepth 20000
def Lz (w : World) (g : Nat) (x y : bE) : Prop := ∀ i, i < 2 → Lw w g (i * 3) (if i = 0 then x else y)
def lT (x y : bE) (k id : Int) : Bool := jR x k id || jR y k id
theorem Lw.thn {w w' : World} {g o : Nat} {x : bE} (h : Lw w g o x) (hb : Below w.heap.size w w') : Lw w' g o x := by
 obtain ⟨A1, k1, A2, k2, A3, k3, h1, h2, h3, s1, s2, s3⟩ := h
 have hl : (all w).Le (all w') := fun b hb' => ⟨Nat.lt_of_lt_of_le hb' hb.size, hb.block b hb'⟩
 exact ⟨A1, k1, A2, k2, A3, k3, h1.thn hb, h2.thn hb, h3.thn hb, s1.le hl, s2.le hl, s3.le hl⟩
theorem Lz.thn {w w' : World} {g : Nat} {x y : bE} (h : Lz w g x y) (hb : Below w.heap.size w w') : Lz w' g x y := fun i hi => (h i hi).thn hb
theorem Ra (g : Nat) (x y : bE) (k id : Int) (w : World) (hM : Lz w g x y) :
  Calls Tryz.prog 97 #[.pointer (some ⟨g, 0, none⟩), .int .u8 k, .int .i64 id] w (Rt (.bool (lT x y k id)) w) := by
 refine XK.enter (vs := [.pointer (some ⟨g, 0, none⟩), .int .u8 k, .int .i64 id]) Tryz.func97 rfl Tryz.ntmps97 (by simp) ?_
 refine XK.go ?_
 refine XK.aK [(8, .int .i64 0), (2, .int .i64 id), (1, .int .u8 k), (0, .pointer (some ⟨g, 0, none⟩))] ?_
 refine XK.go ?_
 refine XK.loop (fun m e R H => ∃ (i : Nat), i ≤ 2 ∧ m = 2 - i ∧ (∀ j, j < i → jR (if j = 0 then x else y) k id = false) ∧ e = [(8, .int .i64 i), (2, .int .i64 id), (1, .int .u8 k), (0, .pointer (some ⟨g, 0, none⟩))] ∧ R = [all w] ∧ H = []) 2 ⟨0, by omega, rfl, (fun j hj => absurd hj (Nat.not_lt_zero j)), rfl, rfl, rfl⟩ fun m e R H hI => ?_
 obtain ⟨i, hi, rfl, hno, rfl, rfl, rfl⟩ := hI
 refine XK.go ?_
 refine XK.if_ rfl (fun h => ?_) (fun h => ?_)
 ·
  refine XK.go ?_
  have hi2 : i < 2 := by have h' : (i : Int) < 2 := h; omega
  refine aY (f := 95) (fi := []) (ca := []) (by kernel_rfl) rfl rfl (by decide) (fun w1 st => Qz g i (if i = 0 then x else y) k id w1 hi2 ((hM i hi2).thn (st.below (by simp)))) ?_
  refine XK.go ?_
  refine XK.cond rfl (fun hw => ?_) (fun hw => ?_)
  ·
   refine XK.go ?_
   have hr : lT x y k id = true := by
    unfold lT
    rcases (by omega : i = 0 ∨ i = 1) with rfl | rfl
    ·simp at hw; simp [hw]
    ·simp at hw; simp [hw]
   exact XK.aI rfl rfl fun w1 st => ⟨by rw [hr], st.below (by simp)⟩
  ·
   refine XK.go ?_
   exact XK.aK [(8, .int .i64 ((i : Int) + 1)), (2, .int .i64 id), (1, .int .u8 k), (0, .pointer (some ⟨g, 0, none⟩))] (XK.round (2 - (i + 1)) (by omega) ⟨i + 1, by omega, rfl, (fun j hj => by
    rcases Nat.lt_or_ge j i with h1 | h1
    ·exact hno j h1
    ·obtain rfl : j = i := by omega
     exact hw), rfl, rfl, rfl⟩)
 ·
  refine XK.go ?_
  have hi2 : i = 2 := by have h' : ¬ (i : Int) < 2 := h; omega
  subst hi2
  have e0 := hno 0 (by omega)
  have e1 := hno 1 (by omega)
  have hr : lT x y k id = false := by
   unfold lT
   simp at e0 e1
   simp [e0, e1]
  exact XK.aI rfl rfl fun w1 st => ⟨by rw [hr], st.below (by simp)⟩
theorem Za (k : Int) (A : Option Addr) (n c : Nat) (r m d l : Int) (w : World) :
  Calls Tryz.prog 178 #[.agg #[.int .u8 k, .slice A n c, .int .u64 r, .int .i64 m, .int .i64 d, .int .i64 l]] w (Rt (.bool (decide (k = 112 ∨ k = 103))) w) := by
 refine XK.enter (vs := [.agg #[.int .u8 k, .slice A n c, .int .u64 r, .int .i64 m, .int .i64 d, .int .i64 l]]) Tryz.func178 rfl Tryz.ntmps178 (by simp) ?_
 refine XK.go ?_
 refine bY rfl (by decide) fun g1 => ?_
 refine XK.go ?_
 (first | refine bT (t := 6) rfl (fun hg => ?_) (fun hg => ?_) | refine jH (t := 6) rfl (fun hg => ?_) (fun hg => ?_))
 ·
  refine XK.go ?_
  exact XK.aI rfl rfl fun w1 st => ⟨by simp_all, st.below (by simp)⟩
 ·
  refine XK.go ?_
  exact XK.aI rfl rfl fun w1 st => ⟨by simp_all, st.below (by simp)⟩
end
section
def kP (p : Int × Int) : Value := .agg #[.int .i64 p.1, .int .i64 p.2]
def Aj (w : World) (r : Nat) (l : List ((Int × Int) × Value)) : Prop := ∃ es clock, w.heap[r]? = some (.map es clock) ∧ es.toList.map (fun x => (x.key, x.val)) = l.map fun p => (kP p.1, p.2)
def gS (l : List ((Int × Int) × Value)) (k : Int × Int) : Option Value := (l.find? fun p => decide (p.1 = k)).map (·.2)
theorem Bl (a : Int × Int) (b : Value) (l : List ((Int × Int) × Value)) (k : Int × Int) : gS ((a, b) :: l) k = if a = k then some b else gS l k := by
 unfold gS
 rw [List.find?_cons]
 by_cases h : a = k <;> simp [h]
section
variable {P : Program} {w : World} {kt : TypeId}
theorem aGP (hfl : ∀ a b c d : Int, Fa P kt [.int .i64 a, .int .i64 b] [.int .i64 c, .int .i64 d] = true) (p q : Int × Int) : (Op.equal kt (kP p) (kP q)).run P w = .ok (decide (q = p)) w := by
 obtain ⟨h, _⟩ := aDs (P := P) (w := w) (hfl p.1 p.2 q.1 q.2)
 rw [show kP p = .agg [Value.int .i64 p.1, .int .i64 p.2].toArray from rfl, show kP q = .agg [Value.int .i64 q.1, .int .i64 q.2].toArray from rfl, h]
 congr 1
 obtain ⟨a, b⟩ := p
 obtain ⟨c, d⟩ := q
 simp only [Fb, Pq, Prod.mk.injEq]
 by_cases h1 : a = c
 ·subst h1
  by_cases h2 : b = d
  ·subst h2; simp
  ·have h3 : ¬ d = b := fun e => h2 e.symm
   simp [h2, h3]
 ·have h3 : ¬ c = a := fun e => h1 e.symm
  simp [h1, h3]
theorem aBZ (hfl : ∀ a b c d : Int, Fa P kt [.int .i64 a, .int .i64 b] [.int .i64 c, .int .i64 d] = true) (k : Int × Int) : ∀ (es : List MapEntry) (l : List ((Int × Int) × Value)) (i : Nat), es.map (fun x => (x.key, x.val)) = l.map (fun p => (kP p.1, p.2)) →
  ∃ q, (Instr.findAsking kt (kP k) es i).run P w = .ok q w ∧ q.map (·.2) = gS l k
 | [], l, i, h => by
  cases l with
  | nil => exact ⟨none, by simp [Instr.findAsking], rfl⟩
  | cons _ _ => cases h
 | e :: es, l, i, h => by
  cases l with
  | nil => cases h
  | cons p l =>
   simp only [List.map_cons, List.cons.injEq, Prod.mk.injEq] at h
   obtain ⟨⟨h1, h2⟩, h3⟩ := h
   obtain ⟨q, Bu, jW⟩ := aBZ hfl k es l (i + 1) h3
   obtain ⟨a, b⟩ := p
   have he := aGP (w := w) hfl k a
   rw [← h1] at he
   by_cases hk : a = k
   ·refine ⟨some (i, e.val), ?_, ?_⟩
    ·unfold Instr.findAsking
     simp [Sem.run_bind, he, hk]
    ·rw [Bl, if_pos hk]; simp [h2]
   ·refine ⟨q, ?_, ?_⟩
    ·unfold Instr.findAsking
     simp [Sem.run_bind, he, hk, Bu]
    ·rw [Bl, if_neg hk]; exact jW
theorem aBJ {f0 f1 : Field} {k0 k1 : IntKind} (hk : P.underlying kt = some (.struct #[f0, f1])) (h0 : P.underlying f0.type = some (.int k0)) (h1 : P.underlying f1.type = some (.int k1)) (o0 : f0.offset = 0) (o1 : f1.offset = 1) (p : Int × Int) (b : Bool) : (Instr.checkKey b 10000 kt (kP p)).run P w = .ok () w := by
 have e0 := Mx (P := P) (w := w) (cs := #[.int .i64 p.1, .int .i64 p.2]) (i := 0) (v := .int .i64 p.1) h0 (.inl ⟨_, rfl⟩) rfl
 have e1 := Mx (P := P) (w := w) (cs := #[.int .i64 p.1, .int .i64 p.2]) (i := 1) (v := .int .i64 p.2) h1 (.inl ⟨_, rfl⟩) rfl
 have c0 : (Instr.checkKey b 9999 f0.type (.int .i64 p.1)).run P w = .ok () w := by
  unfold Instr.checkKey
  simp [Sem.run_bind, run_underlying h0]
 have c1 : (Instr.checkKey b 9999 f1.type (.int .i64 p.2)).run P w = .ok () w := by
  unfold Instr.checkKey
  simp [Sem.run_bind, run_underlying h1]
 unfold Instr.checkKey kP
 by_cases n0 : f0.name = "_" <;> by_cases n1 : f1.name = "_" <;> simp [Sem.run_bind, run_underlying hk, n0, n1, o0, o1, e0, e1, c0, c1]
end
structure vN (P : Program) (kt : TypeId) : Prop where
 st : ∃ f0 f1 k0 k1, P.underlying kt = some (.struct #[f0, f1]) ∧ P.underlying f0.type = some (.int k0) ∧ P.underlying f1.type = some (.int k1) ∧ f0.offset = 0 ∧ f1.offset = 1
 fl : ∀ a b c d : Int, Fa P kt [.int .i64 a, .int .i64 b] [.int .i64 c, .int .i64 d] = true
theorem vN.of {P : Program} {kt : TypeId} {f0 f1 : Field} {k0 k1 : IntKind} (h : P.underlying kt = some (.struct #[f0, f1])) (h0 : P.underlying f0.type = some (.int k0)) (h1 : P.underlying f1.type = some (.int k1)) (o0 : f0.offset = 0) (o1 : f1.offset = 1) (fl : ∀ a b c d : Int, Fa P kt [.int .i64 a, .int .i64 b] [.int .i64 c, .int .i64 d] = true) : vN P kt := ⟨⟨f0, f1, k0, k1, h, h0, h1, o0, o1⟩, fl⟩
section
variable {P : Program} {w : World} {t kt et : TypeId} {r : Nat} {l : List ((Int × Int) × Value)}
theorem aBu (hk : vN P kt) (k : Int × Int) (es : List MapEntry) (h : es.map (fun x => (x.key, x.val)) = l.map (fun p => (kP p.1, p.2))) : ∃ q, (Instr.findKey kt (kP k) es).run P w = .ok q w ∧ q.map (·.2) = gS l k := by
 obtain ⟨f0, f1, k0, k1, hu, _⟩ := hk.st
 obtain ⟨q, h1, h2⟩ := aBZ (w := w) hk.fl k es l 0 h
 cases es with
 | nil =>
  cases l with
  | cons _ _ => cases h
  | nil => exact ⟨none, by simp [Instr.findKey, Sem.run_bind, run_underlying hu, Instr.findNow], rfl⟩
 | cons e es =>
  refine ⟨q, ?_, h2⟩
  unfold Instr.findKey
  have : Instr.findNow (.struct #[f0, f1]) (kP k) (e :: es) 0 = none := by
   unfold Instr.findNow Instr.sameNow
   rfl
  simp [Sem.run_bind, run_underlying hu, this, h1]
theorem aDn {z : Value} (ht : P.underlying t = some (.map kt et)) (hk : vN P kt) (hz : ∀ w, (zeroValue et).run P w = .ok z w) (h : Aj w r l) (k : Int × Int) (ok : Bool) :
  (Instr.lookup t (.map (some r)) (kP k) ok).run P w = .ok (if ok then .tuple #[(gS l k).getD z, .bool (gS l k).isSome] else (gS l k).getD z) w := by
 obtain ⟨es, c, h1, h2⟩ := h
 obtain ⟨q, hf, jW⟩ := aBu (w := w) hk k es.toList h2
 obtain ⟨f0, f1, k0, k1, hu, u0, u1, o0, o1⟩ := hk.st
 have hc := fun b => aBJ (w := w) hu u0 u1 o0 o1 k b
 unfold Instr.lookup
 rw [← jW]
 cases q with
 | none => cases ok <;> simp [Sem.run_bind, run_underlying ht, run_getObj_map h1, hc, hf, hz]
 | some x => obtain ⟨j, v⟩ := x; cases ok <;> simp [Sem.run_bind, run_underlying ht, run_getObj_map h1, hc, hf]
theorem aDp (ht : P.underlying t = some (.map kt et)) (hk : vN P kt) (h : Aj w r l) (k : Int × Int) (v : Value) (hno : gS l k = none) :
  ∃ es c, (Instr.mapUpdate t (.map (some r)) (kP k) v).run P w = .ok () { w with heap := w.heap.setIfInBounds r (.map es c) } ∧ es.toList.map (fun x => (x.key, x.val)) = (l ++ [(k, v)]).map fun p => (kP p.1, p.2) := by
 obtain ⟨es, c, h1, h2⟩ := h
 obtain ⟨q, hf, jW⟩ := aBu (w := w) hk k es.toList h2
 obtain ⟨f0, f1, k0, k1, hu, u0, u1, o0, o1⟩ := hk.st
 have hc := fun b => aBJ (w := w) hu u0 u1 o0 o1 k b
 have eB : ∀ o, (setObj r o).run P w = .ok () { w with heap := w.heap.setIfInBounds r o } := fun o => by simp [setObj, Sem.run, h1]
 rw [hno] at jW
 obtain rfl : q = none := by cases q with | none => rfl | some x => cases jW
 refine ⟨es.push { key := kP k, val := v, born := c }, c + 1, ?_, ?_⟩
 ·unfold Instr.mapUpdate
  simp [Sem.run_bind, run_underlying ht, run_getObj_map h1, hc, hf, eB]
 ·rw [Array.toList_push, List.map_append, h2]
  simp
end
def HP.pF (r : Nat) (l : List ((Int × Int) × Value)) : HP := ⟨fun F w => F r ∧ Aj w r l, fun F w w' h hk => ⟨h.1, by
 obtain ⟨es, c, h1, h2⟩ := h.2
 exact ⟨es, c, (hk r h.1).trans h1, h2⟩⟩⟩
theorem Aj.lt {w : World} {r : Nat} {l : List ((Int × Int) × Value)} (h : Aj w r l) : r < w.heap.size := by
 obtain ⟨es, c, h1, _⟩ := h
 rcases Nat.lt_or_ge r w.heap.size with h | h
 ·exact h
 ·rw [Array.getElem?_eq_none h] at h1; cases h1
section
variable {P : Program} {N : cN} {w0 w : World} {e : Env} {R : List Piece} {H : List HP} {Q : Exit → Act → World → Prop} {ops : Array Oper} {rest : List Oper}
variable {d : Nat} {ty : TypeId} {pos : String} {aJ : Array Edge}
theorem St.pF (st : St w0 R H w) {i r : Nat} {l : List ((Int × Int) × Value)} (hi : H[i]? = some (HP.pF r l)) : Aj w r l := (st.sat hi).choose_spec.2
theorem aC4 {t : TypeId} (hd : d < N.n) (k : ∀ g, XK N w0 (wpList P ops Q rest) ((d, .map (some g)) :: e) R (HP.pF g [] :: H)) : XK N w0 (wpList P ops Q (⟨some d, .makeMap t none, ty, pos, aJ, none⟩ :: rest)) e R H :=
 qB rfl fun a w hr st => ⟨.map (some w.heap.size), w.alloc (.map #[] 0), by simp [execOp, Instr.makeMap], k w.heap.size _ _ (hr.put hd _) (st.new (Fv w _) ⟨⟨Nat.le_refl _, by simp⟩, #[], 0, heap_alloc_new w _, rfl⟩)⟩
theorem aC8 {x y : Operand} {t kt et : TypeId} {z : Value} {r : Nat} {l : List ((Int × Int) × Value)} {k : Int × Int} (ok : Bool) (ht : P.underlying t = some (.map kt et)) (hk : vN P kt) (hz : (P.info? et).bind (·.zero) = some z)
  (hx : e.ev x = some (.map (some r))) (hy : e.ev y = some (kP k)) (hm : ∀ w, St w0 R H w → Aj w r l) (hd : d < N.n)
  (kk : XK N w0 (wpList P ops Q rest) ((d, if ok then .tuple #[(gS l k).getD z, .bool (gS l k).isSome] else (gS l k).getD z) :: e) R H) : XK N w0 (wpList P ops Q (⟨some d, .lookup t x y ok, ty, pos, aJ, none⟩ :: rest)) e R H :=
 qB rfl fun a w hr st => ⟨_, w, by simp only [execOp, hr.ev hx, hr.ev hy, Sem.run_bind, aDn ht hk (zeroV hz) (hm w st), Result.andThen_ok, Sem.run_pure], kk _ _ (hr.put hd _) st⟩
theorem Qp {x y : Operand} {t kt et : TypeId} {z v : Value} {r : Nat} {l : List ((Int × Int) × Value)} {k : Int × Int} {b : Bool} (ht : P.underlying t = some (.map kt et)) (hk : vN P kt) (hz : (P.info? et).bind (·.zero) = some z)
  (hx : e.ev x = some (.map (some r))) (hy : e.ev y = some (kP k)) (hm : ∀ w, St w0 R H w → Aj w r l) (hv : (gS l k).getD z = v) (hb : (gS l k).isSome = b) (hd : d < N.n)
  (kk : XK N w0 (wpList P ops Q rest) ((d, .tuple #[v, .bool b]) :: e) R H) : XK N w0 (wpList P ops Q (⟨some d, .lookup t x y true, ty, pos, aJ, none⟩ :: rest)) e R H :=
 aC8 true ht hk hz hx hy hm hd (by subst hv; subst hb; exact kk)
theorem aC9 (i : Nat) {x y u : Operand} {t kt et : TypeId} {r : Nat} {l : List ((Int × Int) × Value)} {k : Int × Int} {v : Value} (ht : P.underlying t = some (.map kt et)) (hk : vN P kt) (hi : H[i]? = some (HP.pF r l)) (hno : gS l k = none)
  (hx : e.ev x = some (.map (some r))) (hy : e.ev y = some (kP k)) (hu : e.ev u = some v) (kk : XK N w0 (wpList P ops Q rest) e R (H.set i (HP.pF r (l ++ [(k, v)])))) : XK N w0 (wpList P ops Q (⟨none, .insert t x y u, ty, pos, aJ, none⟩ :: rest)) e R H :=
 Qn rfl rfl fun a w hr st => by
  have hm := st.pF hi
  have hlt := hm.lt
  obtain ⟨es, c, hrun, hl⟩ := aDp (P := P) ht hk hm k v hno
  refine ⟨{ w with heap := w.heap.setIfInBounds r (.map es c) }, by simp only [execOp, hr.ev hx, hr.ev hy, hr.ev hu, Sem.run_bind, hrun, Result.andThen_ok, Sem.run_pure], kk _ _ hr ?_⟩
  refine st.sL hi (by simp) rfl rfl rfl fun F hF hb => ⟨F, ⟨hF.1, es, c, by simp [Array.getElem?_setIfInBounds, hlt], hl⟩, fun b h => ⟨.inl h, by simpa using hb b h⟩, fun b hb hnb => ?_⟩
  rw [Array.getElem?_setIfInBounds]
  split
  ·rename_i he; exact absurd (he ▸ hF.1) hnb
  ·rfl
end
end
section
theorem aA2 : ∀ (sub : List Nat) (l : Array Bool), (iV sub l).size = l.size
 | [], l => rfl
 | i :: sub, l => by
  show ((iV sub l).setIfInBounds i true).size = _
  rw [Array.size_setIfInBounds, aA2 sub l]
theorem Sx : ∀ (sub : List Nat) (l : Array Bool) (i : Nat) (b : Bool), i ∈ sub → i < l.size → (iV sub l).getD i b = true
 | j :: sub, l, i, b, h, hi => by
  show ((iV sub l).setIfInBounds j true).getD i b = true
  by_cases e : j = i
  ·subst e
   have : j < (iV sub l).size := by rw [aA2]; exact hi
   simp [this]
  ·rw [getD_set_ne b e]
   rcases List.mem_cons.1 h with h | h
   ·exact absurd h.symm e
   ·exact Sx sub l i b h hi
theorem Im : ∀ (sub : List Nat) (l : Array Bool) (i : Nat) (b : Bool), i ∉ sub → (iV sub l).getD i b = l.getD i b
 | [], l, i, b, _ => rfl
 | j :: sub, l, i, b, h => by
  show ((iV sub l).setIfInBounds j true).getD i b = _
  have e : j ≠ i := fun e => h (by simp [e])
  rw [getD_set_ne b e]
  exact Im sub l i b fun h2 => h (by simp [h2])
theorem aES {sub : List Nat} {l : Array Bool} {i : Nat} (h : l.getD i false = true) : (iV sub l).getD i false = true := by
 by_cases hi : i ∈ sub
 ·refine Sx sub l i false hi ?_
  rcases Nat.lt_or_ge i l.size with h1 | h1
  ·exact h1
  ·simp [Array.getElem?_eq_none h1] at h
 ·rw [Im sub l i false hi]; exact h
def Th (ops : Array Oper) (I : List Nat) (listed : Array Bool) : Bool :=
 I.all (fun i => decide (i < listed.size) && !(listed.getD i true) && match ops[i]? with
  | some o => o.after.toList.all fun x => !(Region.binds .any x) || listed.getD x.on false
  | none => false) &&
 (List.range ops.size).all fun j => I.contains j || listed.getD j true || match ops[j]? with
  | some o => I.all fun i => o.after.toList.any fun x => Region.binds .any x && x.on == i
  | none => true
theorem aDE {ops : Array Oper} {I sub : List Nat} {listed : Array Bool} (hB : Th ops I listed = true) (hsub : ∀ i ∈ sub, i ∈ I) {i0 : Nat} (nD : i0 ∈ I) (hn0 : i0 ∉ sub) :
  Region.ready .any ops (iV sub listed) ≠ [] ∧ ∀ j ∈ Region.ready .any ops (iV sub listed), j ∈ I ∧ j ∉ sub := by
 unfold Th at hB
 rw [Bool.and_eq_true, List.all_eq_true, List.all_eq_true] at hB
 obtain ⟨hA, hC⟩ := hB
 have h0 := hA i0 nD
 simp only [Bool.and_eq_true, decide_eq_true_eq, Bool.not_eq_true'] at h0
 obtain ⟨⟨h1, h2⟩, h3⟩ := h0
 constructor
 ·cases ho : ops[i0]? with
  | none => rw [ho] at h3; cases h3
  | some o =>
   rw [ho] at h3
   simp only [List.all_eq_true] at h3
   have : i0 ∈ Region.ready .any ops (iV sub listed) := mem_ready.2 ⟨by rw [Im _ _ _ _ hn0]; exact h2, o, ho, fun x hx hb => by
    have := h3 x (by simpa using hx)
    rw [hb] at this
    exact aES (by simpa using this)⟩
   intro he
   rw [he] at this
   cases this
 ·intro j hj
  obtain ⟨g1, o, ho, g2⟩ := mem_ready.1 hj
  have hjn : j ∉ sub := fun h => by
   have nH := hA j (hsub j h)
   simp only [Bool.and_eq_true, decide_eq_true_eq] at nH
   rw [Sx sub listed j true h nH.1.1] at g1
   cases g1
  refine ⟨?_, hjn⟩
  rw [Im _ _ _ _ hjn] at g1
  have hlt : j < ops.size := (Array.getElem?_eq_some_iff.1 ho).1
  have hc := hC j (List.mem_range.2 hlt)
  rw [g1, ho] at hc
  simp only [Bool.or_false, Bool.or_eq_true] at hc
  rcases hc with hc | hc
  ·simpa using hc
  ·exfalso
   rw [List.all_eq_true] at hc
   have := hc i0 nD
   rw [List.any_eq_true] at this
   obtain ⟨x, hx, hb⟩ := this
   simp only [Bool.and_eq_true, beq_iff_eq] at hb
   have := g2 x (by simpa using hx) hb.1
   rw [hb.2, Im _ _ _ _ hn0] at this
   have h4 : listed.getD i0 true = listed.getD i0 false := by simp [h1]
   rw [h4, this] at h2
   cases h2
theorem aAj {I sub : List Nat} (hI : I.Nodup) (hn : sub.Nodup) (hin : ∀ i ∈ sub, i ∈ I) : (I.filter fun i => sub.contains i).Perm sub := by
 rw [List.perm_iff_count]
 intro a
 rw [(hI.sublist List.filter_sublist).count, hn.count]
 by_cases ha : a ∈ sub
 ·rw [if_pos ha, if_pos (by simp [ha, hin a ha])]
 ·rw [if_neg ha, if_neg (by simp [ha])]
theorem aEP {l1 l2 : List ((Int × Int) × Value)} (h : l1.Perm l2) (hn : (l1.map (·.1)).Nodup) (k : Int × Int) : gS l1 k = gS l2 k := by
 induction h with
 | nil => rfl
 | cons x _ ih =>
  obtain ⟨a, b⟩ := x
  rw [Bl, Bl, ih (List.nodup_cons.1 hn).2]
 | swap x y s =>
  obtain ⟨a, b⟩ := x
  obtain ⟨c, d⟩ := y
  have hne : c ≠ a := fun e => (List.nodup_cons.1 hn).1 (by rw [e]; simp)
  simp only [Bl]
  by_cases h1 : a = k
  ·have : c ≠ k := fun e => hne (e.trans h1.symm)
   simp [h1, this]
  ·simp [h1]
 | trans h1 h2 i1 i2 => exact (i1 hn).trans (i2 ((h1.map _).nodup_iff.1 hn))
theorem aEQ {l : List ((Int × Int) × Value)} {k : Int × Int} (h : k ∉ l.map (·.1)) : gS l k = none := by
 induction l with
 | nil => rfl
 | cons x l ih =>
  obtain ⟨a, b⟩ := x
  rw [List.map_cons, List.mem_cons, not_or] at h
  rw [Bl, if_neg (fun e => h.1 e.symm)]
  exact ih h.2
section
variable {P : Program} {N : cN} {w0 w : World} {e : Env} {R R0 : List Piece} {H H0 : List HP} {Q : Exit → Act → World → Prop} {ops : Array Oper} {m fuel : Nat} {listed : Array Bool}
def Lays (P : Program) (ops : Array Oper) (e : Env) (r : Nat) (i : Nat) (p : (Int × Int) × Value) : Prop := ∃ x y u ty pos aJ t kt et, ops[i]? = some ⟨none, .insert t x y u, ty, pos, aJ, none⟩ ∧ P.underlying t = some (.map kt et) ∧ vN P kt ∧ e.ev x = some (.map (some r)) ∧ e.ev y = some (kP p.1) ∧ e.ev u = some p.2
theorem XA.aFo (I : List Nat) (Cs : Nat → (Int × Int) × Value) (r : Nat) (hI : I.Nodup) (hop : ∀ i ∈ I, Lays P ops e r i (Cs i)) (hkeys : (I.map fun i => (Cs i).1).Nodup) (hB : Th ops I listed = true)
  (hS : ∀ l w, St w0 R (HP.pF r l :: H) w → St w0 R0 H0 w)
  (k : ∀ sub : List Nat, sub.Perm I → XA P N w0 ops Q R0 H0 m fuel (iV sub listed) e R (HP.pF r (sub.reverse.map Cs) :: H)) : XA P N w0 ops Q R0 H0 m (fuel + I.length) listed e R (HP.pF r [] :: H) := by
 have key : ∀ (n : Nat) (sub : List Nat), sub.Nodup → (∀ i ∈ sub, i ∈ I) → sub.length + n = I.length → XA P N w0 ops Q R0 H0 m (fuel + n) (iV sub listed) e R (HP.pF r (sub.reverse.map Cs) :: H) := by
  intro n
  induction n with
  | zero =>
   intro sub hn hin hl
   have hp := aAj hI hn hin
   have hf : (I.filter fun i => sub.contains i) = I := List.filter_sublist.eq_of_length (by have := hp.length_eq; omega)
   rw [hf] at hp
   exact k sub hp.symm
  | succ n ih =>
   intro sub hn hin hl
   obtain ⟨i0, nD, hn0⟩ : ∃ i, i ∈ I ∧ i ∉ sub := Classical.byContradiction fun hno => by
    have hp := aAj hI hn hin
    have hf : (I.filter fun i => sub.contains i) = I := List.filter_eq_self.2 fun i hi => by
     rcases Classical.em (i ∈ sub) with h | h
     ·simpa using h
     ·exact absurd ⟨i, hi, h⟩ hno
    rw [hf] at hp
    have := hp.length_eq
    omega
   obtain ⟨r1, r2⟩ := aDE hB hin nD hn0
   intro up a w bM st
   refine ⟨fun h => absurd h r1, fun i hi => ?_⟩
   obtain ⟨Us, Jr⟩ := r2 i hi
   obtain ⟨x, y, u, ty, pos, aJ, t, kt, et, ho, ht, hk, hx, hy, hu⟩ := hop i Us
   have hno : gS (sub.reverse.map Cs) (Cs i).1 = none := aEQ fun hm => by
    simp only [List.map_map, List.mem_map, List.mem_reverse, Function.comp] at hm
    obtain ⟨j, hj, he⟩ := hm
    have hji : j ≠ i := fun e => Jr (e ▸ hj)
    exact hji (Classical.byContradiction fun hne => by
     have h1 := List.pairwise_map.1 hkeys
     exact absurd he (by
      obtain ⟨a, ha⟩ := List.getElem?_of_mem (hin j hj)
      obtain ⟨b, hb⟩ := List.getElem?_of_mem Us
      have hal := (List.getElem?_eq_some_iff.1 ha).1
      have hbl := (List.getElem?_eq_some_iff.1 hb).1
      have Vd := (List.getElem?_eq_some_iff.1 ha).2
      have Kc := (List.getElem?_eq_some_iff.1 hb).2
      have h2 := List.pairwise_iff_getElem.1 h1
      rcases Nat.lt_trichotomy a b with h | h | h
      ·have := h2 a b hal hbl h; rw [Vd, Kc] at this; exact this
      ·subst h; exact absurd (Vd.symm.trans Kc) hji
      ·have := h2 b a hbl hal h; rw [Vd, Kc] at this; exact fun e => this e.symm))
   refine vQ ho (fun a w h => ⟨h.1, h.2 (up.gH hi)⟩) (K := rB P w0 ops Q R0 H0 m (fuel + n) (iV sub listed) i) ?_
   have := aC9 (P := P) (N := N) (w0 := w0) (R := R) (H := HP.pF r (sub.reverse.map Cs) :: H) (Q := Exit.then (rB P w0 ops Q R0 H0 m (fuel + n) (iV sub listed) i) Q) (ops := ops) (rest := []) (ty := ty) (pos := pos) (aJ := aJ) 0 ht hk rfl hno hx hy hu
    (XK.nil (XK.iU (XA.back (hS _) (by
     have := ih (i :: sub) (List.nodup_cons.2 ⟨Jr, hn⟩) (fun j hj => by
      rcases List.mem_cons.1 hj with rfl | hj
      ·exact Us
      ·exact hin j hj) (by simp only [List.length_cons]; omega)
     rw [List.reverse_cons, List.map_append] at this
     exact this))))
   exact this a w bM st
 exact key I.length [] List.nodup_nil (fun _ h => by cases h) (by simp)
end
end
section
theorem aBv (L : List (Nat × Nat)) (place : Nat → Option (Nat × Nat)) (hp : ∀ i x, L[i]? = some x → place i = some x) : ∀ (ps : List (Nat × Value)) (cs cs' : List Value), aR L cs ps = some cs' → Instr.fill place cs.toArray ps = some cs'.toArray
 | [], cs, cs', h => by cases h; rfl
 | (i, v) :: rest, cs, cs', h => by
  unfold aR at h
  unfold Instr.fill
  split at h
  ·rename_i off sz hL
   rw [hp _ _ hL]
   split at h
   ·rename_i hc
    have e1 : (decide (v.cells.size ≠ sz) || decide (off + v.cells.size > cs.toArray.size)) = false := by simp; omega
    simp only [e1, Bool.false_eq_true, if_false]
    have := Rr v.cells.toList cs off 0
    rw [show v.cells.zipIdx.foldl (fun cs (c, j) => cs.setIfInBounds (off + j) c) cs.toArray = (aU cs off v.cells.toList).toArray by
     rw [← Array.foldl_toList, Array.toList_zipIdx]; exact this]
    exact aBv L place hp rest _ cs' h
   ·cases h
  ·cases h
section
variable {P : Program} {N : cN} {w0 : World} {e : Env} {R : List Piece} {H : List HP} {d : Nat} {ty : TypeId} {pos : String} {aJ : Array Edge}
theorem Wj {t el : TypeId} {n sz : Nat} {ps : List (Nat × Operand)} {vs : List (Nat × Value)} {zs cs : List Value} (hz : yS P t zs) (ht : P.underlying t = some (.array n el)) (hsz : (P.info? el).map (·.size) = some sz) (hp : e.parts ps = some vs) (hf : aR ((List.range n).map fun i => (i * sz, sz)) zs vs = some cs) : bH P N w0 e R H ⟨some d, .build t ps.toArray, ty, pos, aJ, none⟩ (.agg cs.toArray) :=
 fO (fun a w hr => by
  have := hr.parts hp
  obtain ⟨i, z, hi, sW, rfl⟩ := hz
  obtain ⟨j, hj, rfl⟩ := Option.map_eq_some_iff.1 hsz
  have hfl := aBv _ (fun i => some (i * j.size, j.size)) (fun i x hx => by
   rw [List.getElem?_map] at hx
   obtain ⟨q, hq, rfl⟩ := Option.map_eq_some_iff.1 hx
   have hlt : i < n := by
    rcases Nat.lt_or_ge i n with h | h
    ·exact h
    ·rw [List.getElem?_eq_none (by simpa using h)] at hq; cases hq
   rw [List.getElem?_range hlt] at hq
   cases hq
   rfl) vs z.cells.toList cs hf
  simp at hfl
  simp only [execOp, List.map_toArray, this]
  simp [Instr.build, zeroValue, typeInfo, sizeOf, hi, hj, sW, run_underlying ht, hfl])
end
def mU (n m a b c : Int) : Value := .agg #[.int .i64 n, .int .i64 m, .int .u8 a, .int .u8 b, .int .u8 c]
theorem Nt : vN Tryz.prog 280 := vN.of Tryz.underlying280 Tryz.underlying3 Tryz.underlying3 rfl rfl (fun _ _ _ _ => by kernel_rfl)
def tD : Nat → (Int × Int) × Value
 | 3 => ((16, 0), mU 0 0 0 0 0) | 6 => ((17, 0), mU 0 0 0 0 0) | 9 => ((20, 0), mU 0 0 0 0 0) | 12 => ((22, 0), mU 0 0 0 0 0) | 15 => ((16, 1), mU 0 0 0 0 0)
 | 19 => ((17, 4), mU 2 3 100 117 107) | 22 => ((17, 5), mU 1 0 0 0 0) | 25 => ((20, 6), mU 1 0 0 0 0) | 29 => ((20, 7), mU 2 2 111 99 0) | _ => ((22, 4), mU 2 2 114 97 0)
def Cm : List Nat := [3, 6, 9, 12, 15, 19, 22, 25, 29, 33]
def Vs : List ((Int × Int) × Value) := Cm.map tD
def Xm (v : Value) (hs : List HP) (_ : Piece) : Prop := ∃ (g : Nat) (sub : List Nat), v = .map (some g) ∧ sub.Perm Cm ∧ hs = [HP.pF g (sub.reverse.map tD)]
theorem aBi (w : World) : Calls Tryz.prog 176 #[] w (fun y w' => (∃ v hs q, y = .returned v ∧ q.w = w' ∧ Xm v hs q ∧ kA w hs q) ∧ Below w.heap.size w w') := by
 refine XK.enter (vs := []) Tryz.func176 rfl Tryz.ntmps176 (by simp) ?_
 refine XK.seq ?_
 refine XK.region ?_
 refine aL rfl (by decide) ?_
 refine XK.aE ?_
 refine XK.seq ?_
 refine XK.draw 34 (by kernel_rfl) (by kernel_rfl) ?_
 refine XA.eH 1 rfl rfl rfl (by decide) (gD (zs := [.int .i64 0, .int .i64 0]) (L := [(0, 1), (1, 1)]) (aM (by kernel_rfl)) (by kernel_rfl) rfl (by simp [aR, aU, Value.cells]; rfl)) (by kernel_rfl) (fun _ _ _ h => h) (fun _ h => h) ?_
 refine XA.eH 2 rfl rfl rfl (by decide) (gD (zs := [.int .i64 0, .int .i64 0, .int .u8 0, .int .u8 0, .int .u8 0]) (L := [(0, 1), (1, 1), (2, 3)]) (aM (by kernel_rfl)) (by kernel_rfl) rfl (by simp [aR, aU, Value.cells]; rfl)) (by kernel_rfl) (fun _ _ _ h => h) (fun _ h => h) ?_
 refine XA.eH 4 rfl rfl rfl (by decide) (gD (zs := [.int .i64 0, .int .i64 0]) (L := [(0, 1), (1, 1)]) (aM (by kernel_rfl)) (by kernel_rfl) rfl (by simp [aR, aU, Value.cells]; rfl)) (by kernel_rfl) (fun _ _ _ h => h) (fun _ h => h) ?_
 refine XA.eH 5 rfl rfl rfl (by decide) (gD (zs := [.int .i64 0, .int .i64 0, .int .u8 0, .int .u8 0, .int .u8 0]) (L := [(0, 1), (1, 1), (2, 3)]) (aM (by kernel_rfl)) (by kernel_rfl) rfl (by simp [aR, aU, Value.cells]; rfl)) (by kernel_rfl) (fun _ _ _ h => h) (fun _ h => h) ?_
 refine XA.eH 7 rfl rfl rfl (by decide) (gD (zs := [.int .i64 0, .int .i64 0]) (L := [(0, 1), (1, 1)]) (aM (by kernel_rfl)) (by kernel_rfl) rfl (by simp [aR, aU, Value.cells]; rfl)) (by kernel_rfl) (fun _ _ _ h => h) (fun _ h => h) ?_
 refine XA.eH 8 rfl rfl rfl (by decide) (gD (zs := [.int .i64 0, .int .i64 0, .int .u8 0, .int .u8 0, .int .u8 0]) (L := [(0, 1), (1, 1), (2, 3)]) (aM (by kernel_rfl)) (by kernel_rfl) rfl (by simp [aR, aU, Value.cells]; rfl)) (by kernel_rfl) (fun _ _ _ h => h) (fun _ h => h) ?_
 refine XA.eH 10 rfl rfl rfl (by decide) (gD (zs := [.int .i64 0, .int .i64 0]) (L := [(0, 1), (1, 1)]) (aM (by kernel_rfl)) (by kernel_rfl) rfl (by simp [aR, aU, Value.cells]; rfl)) (by kernel_rfl) (fun _ _ _ h => h) (fun _ h => h) ?_
 refine XA.eH 11 rfl rfl rfl (by decide) (gD (zs := [.int .i64 0, .int .i64 0, .int .u8 0, .int .u8 0, .int .u8 0]) (L := [(0, 1), (1, 1), (2, 3)]) (aM (by kernel_rfl)) (by kernel_rfl) rfl (by simp [aR, aU, Value.cells]; rfl)) (by kernel_rfl) (fun _ _ _ h => h) (fun _ h => h) ?_
 refine XA.eH 13 rfl rfl rfl (by decide) (gD (zs := [.int .i64 0, .int .i64 0]) (L := [(0, 1), (1, 1)]) (aM (by kernel_rfl)) (by kernel_rfl) rfl (by simp [aR, aU, Value.cells]; rfl)) (by kernel_rfl) (fun _ _ _ h => h) (fun _ h => h) ?_
 refine XA.eH 14 rfl rfl rfl (by decide) (gD (zs := [.int .i64 0, .int .i64 0, .int .u8 0, .int .u8 0, .int .u8 0]) (L := [(0, 1), (1, 1), (2, 3)]) (aM (by kernel_rfl)) (by kernel_rfl) rfl (by simp [aR, aU, Value.cells]; rfl)) (by kernel_rfl) (fun _ _ _ h => h) (fun _ h => h) ?_
 refine XA.eH 16 rfl rfl rfl (by decide) (gD (zs := [.int .i64 0, .int .i64 0]) (L := [(0, 1), (1, 1)]) (aM (by kernel_rfl)) (by kernel_rfl) rfl (by simp [aR, aU, Value.cells]; rfl)) (by kernel_rfl) (fun _ _ _ h => h) (fun _ h => h) ?_
 refine XA.eH 17 rfl rfl rfl (by decide) (Wj (n := 3) (sz := 1) (el := 5) (zs := [.int .u8 0, .int .u8 0, .int .u8 0]) (aM (by kernel_rfl)) (by kernel_rfl) (by kernel_rfl) rfl (by simp [aR, aU, Value.cells, List.range_succ, List.set]; rfl)) (by kernel_rfl) (fun _ _ _ h => h) (fun _ h => h) ?_
 refine XA.eH 18 rfl rfl rfl (by decide) (gD (zs := [.int .i64 0, .int .i64 0, .int .u8 0, .int .u8 0, .int .u8 0]) (L := [(0, 1), (1, 1), (2, 3)]) (aM (by kernel_rfl)) (by kernel_rfl) rfl (by simp [aR, aU, Value.cells]; rfl)) (by kernel_rfl) (fun _ _ _ h => h) (fun _ h => h) ?_
 refine XA.eH 20 rfl rfl rfl (by decide) (gD (zs := [.int .i64 0, .int .i64 0]) (L := [(0, 1), (1, 1)]) (aM (by kernel_rfl)) (by kernel_rfl) rfl (by simp [aR, aU, Value.cells]; rfl)) (by kernel_rfl) (fun _ _ _ h => h) (fun _ h => h) ?_
 refine XA.eH 21 rfl rfl rfl (by decide) (gD (zs := [.int .i64 0, .int .i64 0, .int .u8 0, .int .u8 0, .int .u8 0]) (L := [(0, 1), (1, 1), (2, 3)]) (aM (by kernel_rfl)) (by kernel_rfl) rfl (by simp [aR, aU, Value.cells]; rfl)) (by kernel_rfl) (fun _ _ _ h => h) (fun _ h => h) ?_
 refine XA.eH 23 rfl rfl rfl (by decide) (gD (zs := [.int .i64 0, .int .i64 0]) (L := [(0, 1), (1, 1)]) (aM (by kernel_rfl)) (by kernel_rfl) rfl (by simp [aR, aU, Value.cells]; rfl)) (by kernel_rfl) (fun _ _ _ h => h) (fun _ h => h) ?_
 refine XA.eH 24 rfl rfl rfl (by decide) (gD (zs := [.int .i64 0, .int .i64 0, .int .u8 0, .int .u8 0, .int .u8 0]) (L := [(0, 1), (1, 1), (2, 3)]) (aM (by kernel_rfl)) (by kernel_rfl) rfl (by simp [aR, aU, Value.cells]; rfl)) (by kernel_rfl) (fun _ _ _ h => h) (fun _ h => h) ?_
 refine XA.eH 26 rfl rfl rfl (by decide) (gD (zs := [.int .i64 0, .int .i64 0]) (L := [(0, 1), (1, 1)]) (aM (by kernel_rfl)) (by kernel_rfl) rfl (by simp [aR, aU, Value.cells]; rfl)) (by kernel_rfl) (fun _ _ _ h => h) (fun _ h => h) ?_
 refine XA.eH 27 rfl rfl rfl (by decide) (Wj (n := 3) (sz := 1) (el := 5) (zs := [.int .u8 0, .int .u8 0, .int .u8 0]) (aM (by kernel_rfl)) (by kernel_rfl) (by kernel_rfl) rfl (by simp [aR, aU, Value.cells, List.range_succ, List.set]; rfl)) (by kernel_rfl) (fun _ _ _ h => h) (fun _ h => h) ?_
 refine XA.eH 28 rfl rfl rfl (by decide) (gD (zs := [.int .i64 0, .int .i64 0, .int .u8 0, .int .u8 0, .int .u8 0]) (L := [(0, 1), (1, 1), (2, 3)]) (aM (by kernel_rfl)) (by kernel_rfl) rfl (by simp [aR, aU, Value.cells]; rfl)) (by kernel_rfl) (fun _ _ _ h => h) (fun _ h => h) ?_
 refine XA.eH 30 rfl rfl rfl (by decide) (gD (zs := [.int .i64 0, .int .i64 0]) (L := [(0, 1), (1, 1)]) (aM (by kernel_rfl)) (by kernel_rfl) rfl (by simp [aR, aU, Value.cells]; rfl)) (by kernel_rfl) (fun _ _ _ h => h) (fun _ h => h) ?_
 refine XA.eH 31 rfl rfl rfl (by decide) (Wj (n := 3) (sz := 1) (el := 5) (zs := [.int .u8 0, .int .u8 0, .int .u8 0]) (aM (by kernel_rfl)) (by kernel_rfl) (by kernel_rfl) rfl (by simp [aR, aU, Value.cells, List.range_succ, List.set]; rfl)) (by kernel_rfl) (fun _ _ _ h => h) (fun _ h => h) ?_
 refine XA.eH 32 rfl rfl rfl (by decide) (gD (zs := [.int .i64 0, .int .i64 0, .int .u8 0, .int .u8 0, .int .u8 0]) (L := [(0, 1), (1, 1), (2, 3)]) (aM (by kernel_rfl)) (by kernel_rfl) rfl (by simp [aR, aU, Value.cells]; rfl)) (by kernel_rfl) (fun _ _ _ h => h) (fun _ h => h) ?_
 refine XA.next 0 rfl (by kernel_rfl) ?_
 refine aC4 (by decide) fun g1 => ?_
 refine XA.bk ?_
 refine XA.aFo (fuel := 2) Cm tD g1 (by decide) (fun i hi => ?_) (by decide) (by kernel_rfl) (fun l w1 h => h.tail) (fun sub hsub => ?_)
 ·simp only [Cm, List.mem_cons, List.not_mem_nil, or_false] at hi
  rcases hi with rfl | rfl | rfl | rfl | rfl | rfl | rfl | rfl | rfl | rfl
  all_goals exact ⟨_, _, _, _, _, _, _, _, _, rfl, Tryz.underlying277, Nt, rfl, rfl, rfl⟩
 rw [Nx hsub]
 refine XA.next 34 rfl (by kernel_rfl) ?_
 refine aG rfl (by decide) ?_
 refine XA.bt ?_
 refine XA.next 35 rfl (by kernel_rfl) ?_
 refine aL rfl (by decide) ?_
 refine XA.bt ?_
 refine XA.done (by kernel_rfl) ?_
 refine XK.norm ?_
 refine XK.ret ?_
 refine XK.norm ?_
 refine XK.still [] [] [0] (by simp) rfl (by decide) (by decide) fun q _ _ hfr => ?_
 exact XK.aI rfl rfl fun w1 st => ⟨⟨_, _, ⟨w1, q.Z⟩, rfl, rfl, ⟨g1, sub, rfl, hsub, rfl⟩, st.newR (by simp) (by simp) (hfr (by simp) (by simp))⟩, st.below (by simp)⟩
end
section
def cR (w : Int) : Int := if bX w 28 4 ≠ 0 then 0 else bX w 0 8
def Cj (w : Int) : Int := if bX w 28 4 ≠ 0 then 0 else bX w 8 2
def cH (w : Int) : Int := if bX w 28 4 ≠ 0 then 0 else bX w 10 8
def Pk (w : Int) : Int := if bX w 28 4 ≠ 0 then 0 else bX w 18 10
theorem aCO (w : Int) : Bb w = Cc (cR w) (Cj w) (cH w) (Pk w) := by
 unfold Bb cR Cj cH Pk
 split <;> rfl
structure iI where
 n : Int
 m : Int
 a : Int
 b : Int
 c : Int
def iI.v (f : iI) : Value := mU f.n f.m f.a f.b f.c
def iI.act (f : iI) (v : Int) : Int := if v = 0 then f.a else if v = 1 then f.b else f.c
def kI (p m : Int) : Option iI :=
 if m = 0 then (if p = 16 ∨ p = 17 ∨ p = 20 ∨ p = 22 then some ⟨0, 0, 0, 0, 0⟩ else none)
 else if m = 1 then (if p = 16 then some ⟨0, 0, 0, 0, 0⟩ else none)
 else if m = 4 then (if p = 17 then some ⟨2, 3, 100, 117, 107⟩ else if p = 22 then some ⟨2, 2, 114, 97, 0⟩ else none)
 else if m = 5 then (if p = 17 then some ⟨1, 0, 0, 0, 0⟩ else none)
 else if m = 6 then (if p = 20 then some ⟨1, 0, 0, 0, 0⟩ else none)
 else if m = 7 then (if p = 20 then some ⟨2, 2, 111, 99, 0⟩ else none)
 else none
theorem aGv (p m : Int) : gS Vs (p, m) = (kI p m).map iI.v := by
 unfold Vs Cm kI
 simp only [List.map_cons, List.map_nil, tD, Bl, Prod.mk.injEq]
 by_cases h0 : m = 0
 ·subst h0
  by_cases rY : p = 16
  ·subst rY; simp [iI.v]
  ·by_cases vC : p = 17
   ·subst vC; simp [iI.v]
   ·by_cases vB : p = 20
    ·subst vB; simp [iI.v]
    ·by_cases vA : p = 22
     ·subst vA; simp [iI.v]
     ·simp [rY, vC, vB, vA, gS, Ne.symm rY, Ne.symm vC, Ne.symm vB, Ne.symm vA]
 ·by_cases h1 : m = 1
  ·subst h1
   by_cases rY : p = 16
   ·subst rY; simp [iI.v]
   ·simp [rY, Ne.symm rY, gS]
  ·by_cases h4 : m = 4
   ·subst h4
    by_cases vC : p = 17
    ·subst vC; simp [iI.v]
    ·by_cases vA : p = 22
     ·subst vA; simp [iI.v]
     ·simp [vC, vA, Ne.symm vC, Ne.symm vA, gS]
   ·by_cases h5 : m = 5
    ·subst h5
     by_cases vC : p = 17
     ·subst vC; simp [iI.v]
     ·simp [vC, Ne.symm vC, gS]
    ·by_cases h6 : m = 6
     ·subst h6
      by_cases vB : p = 20
      ·subst vB; simp [iI.v]
      ·simp [vB, Ne.symm vB, gS]
     ·by_cases h7 : m = 7
      ·subst h7
       by_cases vB : p = 20
       ·subst vB; simp [iI.v]
       ·simp [vB, Ne.symm vB, gS]
      ·simp [h0, h1, h4, h5, h6, h7, Ne.symm h0, Ne.symm h1, Ne.symm h4, Ne.symm h5, Ne.symm h6, Ne.symm h7, gS]
def cO (p m : Int) : iI := (kI p m).getD ⟨0, 0, 0, 0, 0⟩
theorem aGu {sub : List Nat} (h : sub.Perm Cm) (p m : Int) : gS (sub.reverse.map tD) (p, m) = (kI p m).map iI.v := by
 rw [← aGv]
 have hp : (sub.reverse.map tD).Perm Vs := ((List.reverse_perm sub).trans h).map tD
 refine aEP hp ?_ _
 exact ((hp.map (·.1)).nodup_iff).2 (by decide)
theorem Ez {sub : List Nat} (h : sub.Perm Cm) (p m : Int) : (gS (sub.reverse.map tD) (p, m)).getD (mU 0 0 0 0 0) = (cO p m).v ∧ (gS (sub.reverse.map tD) (p, m)).isSome = (kI p m).isSome := by
 rw [aGu h]
 unfold cO
 cases kI p m <;> exact ⟨rfl, rfl⟩
theorem aBg (p m : Int) : ((cO p m).n = 0 ∨ (cO p m).n = 1 ∨ (cO p m).n = 2) ∧ 0 ≤ (cO p m).m ∧ (cO p m).m ≤ 3 ∧ (∀ v, 0 ≤ v → v < (cO p m).m → (cO p m).act v = 107 → p = 17) ∧
  ((cO p m).m ≠ 0 → p = 17 ∨ p = 20 ∨ p = 22) := by
 unfold cO kI
 by_cases h0 : m = 0
 ·by_cases h : p = 16 ∨ p = 17 ∨ p = 20 ∨ p = 22 <;> simp [h0, h] <;> omega
 ·by_cases h1 : m = 1
  ·by_cases h : p = 16 <;> simp [h1, h] <;> omega
  ·by_cases h4 : m = 4
   ·by_cases h : p = 17
    ·simp [h4, h]
    ·by_cases h' : p = 22
     ·subst h4 h'
      simp only [iI.act]
      refine ⟨by simp, by simp, by simp, fun v h1 h2 h3 => ?_, by simp⟩
      simp at h2 h3
      split at h3
      ·omega
      ·split at h3 <;> omega
     ·simp [h4, h, h']; omega
   ·by_cases h5 : m = 5
    ·by_cases h : p = 17 <;> simp [h5, h] <;> omega
    ·by_cases h6 : m = 6
     ·by_cases h : p = 20 <;> simp [h6, h] <;> omega
     ·by_cases h7 : m = 7
      ·by_cases h : p = 20
       ·subst h7 h
        simp only [iI.act]
        refine ⟨by simp, by simp, by simp, fun v h1 h2 h3 => ?_, by simp⟩
        simp at h2 h3
        split at h3
        ·omega
        ·split at h3 <;> omega
       ·simp [h7, h]; omega
      ·simp [h0, h1, h4, h5, h6, h7]; omega
def Ds (s : aC) (k : Nat) : Bool := (s.domains[k]?).any (·.ret)
def kindOf (s : aC) (k : Nat) : Int := ((s.aB[k]?).map (·.kind)).getD 0
def fC (s : aC) (k : Nat) : Prop := kindOf s k = 112 ∨ kindOf s k = 103
instance (s : aC) (k : Nat) : Decidable (fC s k) := inferInstanceAs (Decidable (_ ∨ _))
def iN (s : aC) (p k : Int) (id : Nat) : Prop := (k = 107 ∧ Ds s id = false) ∨ (p = 20 ∧ ¬ fC s id)
instance (s : aC) (p k : Int) (id : Nat) : Decidable (iN s p k id) := inferInstanceAs (Decidable (_ ∨ _))
def tL (s : aC) (p : Int) (f : iI) (id v : Int) : Int × Int × Int :=
 if (nX s p : Int) ≤ id then (-4, 0, 0) else if f.m = 0 then (0, 0, 0) else if f.m ≤ v then (-2, 0, 0) else if iN s p (f.act v) id.toNat then (-2, 0, 0) else (0, f.act v, id)
def dX (s : aC) (l : List Int) : Int × Int × Int :=
 match l with
 | [] => (-10, 0, 0)
 | w :: r =>
  if rJ w ≠ 0 ∨ Cj w ≠ 0 then (-10, 0, 0)
  else if (kI (cH w) (cR w)).isSome = false then (-1, 0, 0)
  else if (r.length : Int) ≠ (cO (cH w) (cR w)).n then (-10, 0, 0)
  else if (cO (cH w) (cR w)).n = 0 then (0, 0, 0)
  else tL s (cH w) (cO (cH w) (cR w)) (r.getD 0 0) (r.getD ((cO (cH w) (cR w)).n.toNat - 1) 0)
def Xb (a : Int × Int × Int) : Value := .tuple #[.int .i32 a.1, .agg #[.int .u8 a.2.1, .int .i64 a.2.2]]
def nM (l : List Int) : Prop := ∀ x ∈ l, 0 ≤ x ∧ x < 4294967296
theorem aH.u32 {w : World} {A : Option Addr} {n : Nat} {l : List Int} (h : aH (all w) 1 A n (kK l)) (hn : 0 < n) : ∃ b off, A = some ⟨b, off, none⟩ ∧ ∀ (i : Nat) (x : Int), l[i]? = some x → eW w b (off + i) (.int .u32 x) := by
 obtain ⟨b, off, hA, hb, hc⟩ := h.2 hn
 refine ⟨b, off, hA, fun i x hx => ⟨hb, hc i _ ?_⟩⟩
 simp only [kK, List.getElem?_map, hx, Option.map_some]
section
variable {P : Program} {N : iI} {w0 : World} {e : Env} {R : List Piece} {H : List HP}
theorem XK.nA {nn : Nat} {fn : Func} {Post : Ending → World → Prop} {t u n b : Nat} {s : TypeId} {vs : List Value} {v' : Value} (hr : fn.results = #[.tmp u, .cell t s]) (hs : vV P s n = true) (hn : vs.length = n) (ht : e.get t = some (.pointer (some ⟨b, 0, none⟩))) (hrd : aD w0 R H b 0 vs) (hu : e.get u = some v') (h : ∀ w, St w0 R H w → Post (.returned (.tuple #[v', .agg vs.toArray])) w) : XK ⟨nn, []⟩ w0 (bodyPost P fn Post .ret) e R H := fun a w bM st => by
 have hl := Ht (P := P) hs hn (hrd w st)
 refine bodyPost_ret (v := .tuple #[v', .agg vs.toArray]) ?_ bM.defers (h w st)
 have ha := bM.get t _ ht
 have hb := bM.get u _ hu
 simp only [Instr.loadAt, Instr.sureAddr, Sem.run_bind, Sem.run_pure, Result.andThen_ok] at hl
 simp only [results, hr]
 simp [ha, hb, asAddr, hl]
end
end
section
theorem aE1 (s : aC) (A1 A2 A3 A4 : Option Addr) (n1 k1 n2 k2 n3 k3 n4 k4 : Nat) (p : Int) {w0 : World} (w : World) (hS : fA w0 s A1 n1 A2 n2 A3 n3 A4 n4) : Calls Tryz.prog 177 #[.agg #[.slice A1 n1 k1, .slice A2 n2 k2, .slice A3 n3 k3, .slice A4 n4 k4], .int .i64 p] w (Rt (.int .i64 (nX s p)) w) := by
 obtain ⟨h1, h2, h3, h4⟩ := And.intro hS.qN (And.intro hS.rO (And.intro hS.uI hS.sS))
 subst h1 h2 h3 h4
 exact aE0 s A1 A2 A3 A4 k1 k2 k3 k4 p w
theorem aDG (s : aC) (A1 A2 A3 A4 : Option Addr) (n1 k1 n2 k2 n3 k3 n4 k4 : Nat) (A : Option Addr) (n c : Nat) (l : List Int) (w : World) (hS : fA w s A1 n1 A2 n2 A3 n3 A4 n4) (hl : aH (all w) 1 A n (kK l)) (hn : n = l.length) (hn2 : n ≤ 1000000) (hu : nM l) :
  Calls Tryz.prog 94 #[.agg #[.slice A1 n1 k1, .slice A2 n2 k2, .slice A3 n3 k3, .slice A4 n4 k4], .slice A n c] w (Rt (Xb (dX s l)) w) := by
 refine XK.enter (vs := [.agg #[.slice A1 n1 k1, .slice A2 n2 k2, .slice A3 n3 k3, .slice A4 n4 k4], .slice A n c]) Tryz.func94 rfl Tryz.ntmps94 (by simp) ?_
 refine XK.seq ?_
 refine XK.region ?_
 refine bY rfl (by decide) fun g1 => ?_
 refine aL rfl (by decide) ?_
 refine bZ (cs := [.int .u8 0, .int .i64 0]) (aM (by kernel_rfl)) (by decide) fun g2 => ?_
 refine XK.aE ?_
 refine XK.seq ?_
 refine XK.seq ?_
 refine XK.region ?_
 refine aG rfl (by decide) ?_
 refine fX (el := 44) (by kernel_rfl) rfl (by decide) ?_
 refine iS rfl rfl (by decide) ?_
 refine XK.aE ?_
 refine XK.if_ rfl (fun h => ?_) (fun h => ?_)
 ·
  refine XK.seq ?_
  refine XK.region ?_
  refine dB (zs := [.int .u8 0, .int .i64 0]) (L := [(0, 1), (1, 1)]) (aM (by kernel_rfl)) (by kernel_rfl) rfl (by simp [aR, aU, Value.cells]; rfl) (by decide) ?_
  refine aL rfl (by decide) ?_
  refine eJ rfl rfl ?_; simp only [cC, Value.cells, List.set, List.take, List.drop, List.nil_append, List.append_nil, List.length_cons, List.length_nil, List.cons_append, Nat.reduceAdd]
  refine XK.aE ?_
  refine XK.ret ?_
  refine XK.norm ?_
  have hn0 : l = [] := List.eq_nil_of_length_eq_zero (by have h' : (n : Int) = 0 := h; omega)
  subst hn0
  exact XK.nA (n := 2) (vs := [.int .u8 0, .int .i64 0]) rfl (by kernel_rfl) rfl rfl (by first | assumption | exact aD.whole 0 rfl | exact aD.whole 1 rfl | exact aD.whole 2 rfl | exact aD.whole 3 rfl | exact aD.whole 4 rfl | exact aD.whole 5 rfl | exact aD.whole 6 rfl | exact aD.whole 7 rfl | exact aD.whole 8 rfl | exact aD.fD (by simp) (by assumption)) rfl fun w9 st => ⟨rfl, st.below (by simp)⟩
 ·
  obtain ⟨b, off, rfl, hcell⟩ := hl.u32 (show 0 < n by have h' : ¬ (n : Int) = 0 := h; omega)
  obtain ⟨w1, r, rfl⟩ : ∃ x r, l = x :: r := by
   cases l with
   | nil => exact absurd (by simpa using hn) (show ¬ n = 0 by have h' : ¬ (n : Int) = 0 := h; omega)
   | cons x r => exact ⟨x, r, rfl⟩
  have hw1 := hcell 0 w1 rfl
  have hlen : n = r.length + 1 := by simpa using hn
  refine XK.skip ?_
  refine XK.norm ?_
  refine XK.seq ?_
  refine XK.region ?_
  refine aG rfl (by decide) ?_
  refine dH 0 off (el := 44) (sz := 1) (by kernel_rfl) (by kernel_rfl) rfl rfl (by rfl) (by omega) (by omega) (by decide) ?_
  refine cP rfl ?_
  refine aY (f := 175) (fi := []) (ca := []) (by kernel_rfl) rfl rfl (by decide) (v0 := .tuple #[.agg #[.int .i64 (cR w1), .int .i64 (Cj w1), .int .i64 (cH w1), .int .i64 (Pk w1)], .int .i64 (rJ w1)]) (fun w2 st => (Ys w1 w2).mono fun x w3 hx => Rt.conv hx (by rw [aCO]; rfl)) ?_
  refine aG rfl (by decide) ?_
  refine sJ rfl rfl (by decide) ?_
  refine sJ rfl rfl (by decide) ?_
  refine bZ (cs := [.int .i64 0, .int .i64 0, .int .i64 0, .int .i64 0]) (aM (by kernel_rfl)) (by decide) fun g3 => ?_
  refine eJ rfl rfl ?_; simp only [cC, Value.cells, List.set, List.take, List.drop, List.nil_append, List.append_nil, List.length_cons, List.length_nil, List.cons_append, Nat.reduceAdd]
  refine aL rfl (by decide) ?_
  refine XK.aE ?_
  refine XK.seq ?_
  refine XK.sB 30 (rJ w1 ≠ 0 ∨ Cj w1 ≠ 0) ?_ ?_
  ·skip
   refine XK.region ?_
   refine aG rfl (by decide) ?_
   refine oP rfl rfl (by decide) ?_
   refine aG rfl (by decide) ?_
   (first | refine bT (t := 26) rfl (fun hg => ?_) (fun hg => ?_) | refine jH (t := 26) rfl (fun hg => ?_) (fun hg => ?_))
   ·
    refine aP rfl rfl rfl (by decide) ?_
    refine aP rfl rfl rfl (by decide) ?_
    refine aP rfl rfl rfl (by decide) ?_
    (first | refine cL rfl rfl (by decide) ?_ | refine cM rfl rfl (by decide) ?_)
    refine XK.aE ?_
    exact XK.sQ (by repeat (first | exact trivial | refine ⟨rfl, ?_⟩)) (by first | exact vD rfl (by simp_all [iN, fC]) | exact wL rfl (by simp_all [iN, fC]) | exact zQ rfl (by simp_all [iN, fC]))
   ·
    refine aS rfl rfl ?_; refine bL (off := 1) (by kernel_rfl) rfl (by decide) ?_
    refine aS rfl rfl ?_; refine cP rfl ?_
    refine aS rfl rfl ?_; refine oP rfl rfl (by decide) ?_
    (first | refine cL rfl rfl (by decide) ?_ | refine cM rfl rfl (by decide) ?_)
    refine XK.aE ?_
    exact XK.sQ (by repeat (first | exact trivial | refine ⟨rfl, ?_⟩)) (by first | exact vD rfl (by simp_all [iN, fC]) | exact wL rfl (by simp_all [iN, fC]) | exact zQ rfl (by simp_all [iN, fC]))
  refine XK.if_ rfl (fun h4 => ?_) (fun h4 => ?_)
  ·
   refine XK.seq ?_
   refine XK.region ?_
   refine dB (zs := [.int .u8 0, .int .i64 0]) (L := [(0, 1), (1, 1)]) (aM (by kernel_rfl)) (by kernel_rfl) rfl (by simp [aR, aU, Value.cells]; rfl) (by decide) ?_
   refine aL rfl (by decide) ?_
   refine eJ rfl rfl ?_; simp only [cC, Value.cells, List.set, List.take, List.drop, List.nil_append, List.append_nil, List.length_cons, List.length_nil, List.cons_append, Nat.reduceAdd]
   refine XK.aE ?_
   refine XK.ret ?_
   refine XK.norm ?_
   exact XK.nA (n := 2) (vs := [.int .u8 0, .int .i64 0]) rfl (by kernel_rfl) rfl rfl (by first | assumption | exact aD.whole 0 rfl | exact aD.whole 1 rfl | exact aD.whole 2 rfl | exact aD.whole 3 rfl | exact aD.whole 4 rfl | exact aD.whole 5 rfl | exact aD.whole 6 rfl | exact aD.whole 7 rfl | exact aD.whole 8 rfl | exact aD.fD (by simp) (by assumption)) rfl fun w9 st => ⟨by
    rw [dX, if_pos h4]; rfl, st.below (by simp)⟩
  ·
   refine XK.skip ?_
   refine XK.norm ?_
   refine XK.cut (fun e R H => ∃ g4, e = [(9, .bool (kI (cH w1) (cR w1)).isSome), (8, .pointer (some ⟨g4, 0, none⟩)), (7, .int .i64 (rJ w1)), (6, .pointer (some ⟨g3, 0, none⟩)), (5, .pointer (some ⟨g2, 0, none⟩)), (2, .pointer (some ⟨g1, 0, none⟩)), (1, .slice (some ⟨b, off, none⟩) n c)] ∧ R = [all w] ∧ H = [HP.aF g4 275 [.int .i64 (cO (cH w1) (cR w1)).n, .int .i64 (cO (cH w1) (cR w1)).m, .int .u8 (cO (cH w1) (cR w1)).a, .int .u8 (cO (cH w1) (cR w1)).b, .int .u8 (cO (cH w1) (cR w1)).c], HP.aF g3 43 [.int .i64 (cR w1), .int .i64 (Cj w1), .int .i64 (cH w1), .int .i64 (Pk w1)], HP.aF g2 63 [.int .u8 0, .int .i64 0], HP.aF g1 29 [.slice A1 n1 k1, .slice A2 n2 k2, .slice A3 n3 k3, .slice A4 n4 k4]]) ?_ ?_
   ·
    refine XK.draw 12 (by kernel_rfl) (by kernel_rfl) ?_
    refine XA.dA 1 rfl rfl rfl (jE (off := 2) (by kernel_rfl) rfl) ?_
    refine XA.dA 2 rfl rfl rfl (rA rfl) ?_
    refine XA.dA 3 rfl rfl rfl (jE (off := 0) (by kernel_rfl) rfl) ?_
    refine XA.dA 4 rfl rfl rfl (rA rfl) ?_
    refine XA.dA 5 rfl rfl rfl (gD (zs := [.int .i64 0, .int .i64 0]) (L := [(0, 1), (1, 1)]) (aM (by kernel_rfl)) (by kernel_rfl) rfl (by simp [aR, aU, Value.cells]; rfl)) ?_
    refine XA.either 0 10 rfl rfl (by kernel_rfl) ?_ ?_
    ·refine dZ (f := 176) (fi := []) (ca := []) (by kernel_rfl) rfl rfl (by decide) Xm (fun w2 _ => aBi w2) ?_
     rintro _ _ q1 ⟨gm, sub, rfl, hsub, rfl⟩ _
     simp only [List.cons_append, List.nil_append]
     refine XK.nil ?_; refine XK.iU ?_; refine XA.back (fun _ h => h.aN.tail) ?_
     refine XA.either 6 10 rfl rfl (by kernel_rfl) ?_ ?_
     ·refine Qp (v := .agg #[.int .i64 (cO (cH w1) (cR w1)).n, .int .i64 (cO (cH w1) (cR w1)).m, .int .u8 (cO (cH w1) (cR w1)).a, .int .u8 (cO (cH w1) (cR w1)).b, .int .u8 (cO (cH w1) (cR w1)).c]) (et := 275) (l := sub.reverse.map tD) Tryz.underlying277 Nt (z := mU 0 0 0 0 0) (by kernel_rfl) rfl (k := (cH w1, cR w1)) rfl (fun w2 st => st.pF (i := 0) rfl) (Ez hsub _ _).1 (Ez hsub _ _).2 (by decide) ?_
      refine XK.nil ?_; refine XK.iU ?_; refine XA.back (fun _ h => h.aN.tail) ?_
      refine XA.eH 7 rfl rfl rfl (by decide) (cI rfl) (by kernel_rfl) (fun _ _ _ h => h) (fun _ h => h.aN.tail) ?_
      refine XA.eH 8 rfl rfl rfl (by decide) (vI rfl rfl) (by kernel_rfl) (fun _ _ _ h => h) (fun _ h => h.aN.tail) ?_
      refine XA.eH 9 rfl rfl rfl (by decide) (vI rfl rfl) (by kernel_rfl) (fun _ _ _ h => h) (fun _ h => h.aN.tail) ?_
      refine XA.next 10 rfl (by kernel_rfl) ?_
      refine bZ (cs := [.int .i64 0, .int .i64 0, .int .u8 0, .int .u8 0, .int .u8 0]) (aM (by kernel_rfl)) (by decide) fun g4 => ?_
      refine XK.nil ?_; refine XK.iU ?_; refine XA.back (fun _ h => h.aN.tail.tail) ?_
      refine XA.next 11 rfl (by kernel_rfl) ?_
      refine eJ rfl rfl ?_; simp only [cC, Value.cells, List.set, List.take, List.drop, List.nil_append, List.append_nil, List.length_cons, List.length_nil, List.cons_append, Nat.reduceAdd]
      refine XK.nil ?_; refine XK.iU ?_; refine XA.back (fun _ h => h.aN.tail.tail) ?_
      refine XA.next 12 rfl (by kernel_rfl) ?_
      refine aL rfl (by decide) ?_
      refine XA.bt ?_
      refine XA.done (by kernel_rfl) ?_
      refine XK.norm ?_
      exact XK.weak [0, 2, 3, 4] rfl (by decide) (by simp) (XK.aK [(9, .bool (kI (cH w1) (cR w1)).isSome), (8, .pointer (some ⟨g4, 0, none⟩)), (7, .int .i64 (rJ w1)), (6, .pointer (some ⟨g3, 0, none⟩)), (5, .pointer (some ⟨g2, 0, none⟩)), (2, .pointer (some ⟨g1, 0, none⟩)), (1, .slice (some ⟨b, off, none⟩) n c)] (XK.meet ⟨g4, rfl, rfl, rfl⟩))
     ·refine bZ (cs := [.int .i64 0, .int .i64 0, .int .u8 0, .int .u8 0, .int .u8 0]) (aM (by kernel_rfl)) (by decide) fun g4 => ?_
      refine XK.nil ?_; refine XK.iU ?_; refine XA.back (fun _ h => h.aN.tail.tail) ?_
      refine XA.next 6 rfl (by kernel_rfl) ?_
      refine Qp (v := .agg #[.int .i64 (cO (cH w1) (cR w1)).n, .int .i64 (cO (cH w1) (cR w1)).m, .int .u8 (cO (cH w1) (cR w1)).a, .int .u8 (cO (cH w1) (cR w1)).b, .int .u8 (cO (cH w1) (cR w1)).c]) (et := 275) (l := sub.reverse.map tD) Tryz.underlying277 Nt (z := mU 0 0 0 0 0) (by kernel_rfl) rfl (k := (cH w1, cR w1)) rfl (fun w2 st => st.pF (i := 1) rfl) (Ez hsub _ _).1 (Ez hsub _ _).2 (by decide) ?_
      refine XK.nil ?_; refine XK.iU ?_; refine XA.back (fun _ h => h.aN.tail.tail) ?_
      refine XA.eH 7 rfl rfl rfl (by decide) (cI rfl) (by kernel_rfl) (fun _ _ _ h => h) (fun _ h => h.aN.tail.tail) ?_
      refine XA.eH 8 rfl rfl rfl (by decide) (vI rfl rfl) (by kernel_rfl) (fun _ _ _ h => h) (fun _ h => h.aN.tail.tail) ?_
      refine XA.eH 9 rfl rfl rfl (by decide) (vI rfl rfl) (by kernel_rfl) (fun _ _ _ h => h) (fun _ h => h.aN.tail.tail) ?_
      refine XA.next 11 rfl (by kernel_rfl) ?_
      refine eJ rfl rfl ?_; simp only [cC, Value.cells, List.set, List.take, List.drop, List.nil_append, List.append_nil, List.length_cons, List.length_nil, List.cons_append, Nat.reduceAdd]
      refine XK.nil ?_; refine XK.iU ?_; refine XA.back (fun _ h => h.aN.tail.tail) ?_
      refine XA.next 12 rfl (by kernel_rfl) ?_
      refine aL rfl (by decide) ?_
      refine XA.bt ?_
      refine XA.done (by kernel_rfl) ?_
      refine XK.norm ?_
      exact XK.weak [0, 2, 3, 4] rfl (by decide) (by simp) (XK.aK [(9, .bool (kI (cH w1) (cR w1)).isSome), (8, .pointer (some ⟨g4, 0, none⟩)), (7, .int .i64 (rJ w1)), (6, .pointer (some ⟨g3, 0, none⟩)), (5, .pointer (some ⟨g2, 0, none⟩)), (2, .pointer (some ⟨g1, 0, none⟩)), (1, .slice (some ⟨b, off, none⟩) n c)] (XK.meet ⟨g4, rfl, rfl, rfl⟩))
    ·refine bZ (cs := [.int .i64 0, .int .i64 0, .int .u8 0, .int .u8 0, .int .u8 0]) (aM (by kernel_rfl)) (by decide) fun g4 => ?_
     refine XK.nil ?_; refine XK.iU ?_; refine XA.back (fun _ h => h.tail) ?_
     refine XA.next 0 rfl (by kernel_rfl) ?_
     refine dZ (f := 176) (fi := []) (ca := []) (by kernel_rfl) rfl rfl (by decide) Xm (fun w2 _ => aBi w2) ?_
     rintro _ _ q1 ⟨gm, sub, rfl, hsub, rfl⟩ _
     simp only [List.cons_append, List.nil_append]
     refine XK.nil ?_; refine XK.iU ?_; refine XA.back (fun _ h => h.aN.tail.tail) ?_
     refine XA.next 6 rfl (by kernel_rfl) ?_
     refine Qp (v := .agg #[.int .i64 (cO (cH w1) (cR w1)).n, .int .i64 (cO (cH w1) (cR w1)).m, .int .u8 (cO (cH w1) (cR w1)).a, .int .u8 (cO (cH w1) (cR w1)).b, .int .u8 (cO (cH w1) (cR w1)).c]) (et := 275) (l := sub.reverse.map tD) Tryz.underlying277 Nt (z := mU 0 0 0 0 0) (by kernel_rfl) rfl (k := (cH w1, cR w1)) rfl (fun w2 st => st.pF (i := 0) rfl) (Ez hsub _ _).1 (Ez hsub _ _).2 (by decide) ?_
     refine XK.nil ?_; refine XK.iU ?_; refine XA.back (fun _ h => h.aN.tail.tail) ?_
     refine XA.eH 7 rfl rfl rfl (by decide) (cI rfl) (by kernel_rfl) (fun _ _ _ h => h) (fun _ h => h.aN.tail.tail) ?_
     refine XA.eH 8 rfl rfl rfl (by decide) (vI rfl rfl) (by kernel_rfl) (fun _ _ _ h => h) (fun _ h => h.aN.tail.tail) ?_
     refine XA.eH 9 rfl rfl rfl (by decide) (vI rfl rfl) (by kernel_rfl) (fun _ _ _ h => h) (fun _ h => h.aN.tail.tail) ?_
     refine XA.next 11 rfl (by kernel_rfl) ?_
     refine eJ rfl rfl ?_; simp only [cC, Value.cells, List.set, List.take, List.drop, List.nil_append, List.append_nil, List.length_cons, List.length_nil, List.cons_append, Nat.reduceAdd]
     refine XK.nil ?_; refine XK.iU ?_; refine XA.back (fun _ h => h.aN.tail.tail) ?_
     refine XA.next 12 rfl (by kernel_rfl) ?_
     refine aL rfl (by decide) ?_
     refine XA.bt ?_
     refine XA.done (by kernel_rfl) ?_
     refine XK.norm ?_
     exact XK.weak [1, 2, 3, 4] rfl (by decide) (by simp) (XK.aK [(9, .bool (kI (cH w1) (cR w1)).isSome), (8, .pointer (some ⟨g4, 0, none⟩)), (7, .int .i64 (rJ w1)), (6, .pointer (some ⟨g3, 0, none⟩)), (5, .pointer (some ⟨g2, 0, none⟩)), (2, .pointer (some ⟨g1, 0, none⟩)), (1, .slice (some ⟨b, off, none⟩) n c)] (XK.meet ⟨g4, rfl, rfl, rfl⟩))
   rintro _ _ _ ⟨g4, rfl, rfl, rfl⟩
   obtain ⟨zP, zO, hF3, hF4, hF5⟩ := aBg (cH w1) (cR w1)
   refine XK.seq ?_
   refine XK.seq ?_
   refine XK.region ?_
   refine aG rfl (by decide) ?_
   (first | refine yU rfl (by decide) ?_ | refine yV rfl (by decide) ?_)
   refine XK.aE ?_
   refine XK.cond rfl (fun h7 => ?_) (fun h7 => ?_)
   ·
    refine XK.seq ?_
    refine XK.region ?_
    refine dB (zs := [.int .u8 0, .int .i64 0]) (L := [(0, 1), (1, 1)]) (aM (by kernel_rfl)) (by kernel_rfl) rfl (by simp [aR, aU, Value.cells]; rfl) (by decide) ?_
    refine aL rfl (by decide) ?_
    refine eJ rfl rfl ?_; simp only [cC, Value.cells, List.set, List.take, List.drop, List.nil_append, List.append_nil, List.length_cons, List.length_nil, List.cons_append, Nat.reduceAdd]
    refine XK.aE ?_
    refine XK.ret ?_
    refine XK.norm ?_
    exact XK.nA (n := 2) (vs := [.int .u8 0, .int .i64 0]) rfl (by kernel_rfl) rfl rfl (by first | assumption | exact aD.whole 0 rfl | exact aD.whole 1 rfl | exact aD.whole 2 rfl | exact aD.whole 3 rfl | exact aD.whole 4 rfl | exact aD.whole 5 rfl | exact aD.whole 6 rfl | exact aD.whole 7 rfl | exact aD.whole 8 rfl | exact aD.fD (by simp) (by assumption)) rfl fun w9 st => ⟨by
     rw [dX, if_neg h4, if_pos (by revert h7; cases (kI (cH w1) (cR w1)).isSome <;> simp)]; rfl, st.below (by simp)⟩
   ·
    have Vo : ¬ (kI (cH w1) (cR w1)).isSome = false := by revert h7; cases (kI (cH w1) (cR w1)).isSome <;> simp
    refine XK.skip ?_
    refine XK.norm ?_
    refine XK.seq ?_
    refine XK.seq ?_
    refine XK.region ?_
    refine aG rfl (by decide) ?_
    refine fX (el := 44) (by kernel_rfl) rfl (by decide) ?_
    refine Mk rfl rfl (bA (by omega)) (by decide) ?_
    refine bL (off := 0) (by kernel_rfl) rfl (by decide) ?_
    refine cP rfl ?_
    refine oP rfl rfl (by decide) ?_
    refine XK.aE ?_
    refine XK.if_ rfl (fun h9 => ?_) (fun h9 => ?_)
    ·
     refine XK.seq ?_
     refine XK.region ?_
     refine dB (zs := [.int .u8 0, .int .i64 0]) (L := [(0, 1), (1, 1)]) (aM (by kernel_rfl)) (by kernel_rfl) rfl (by simp [aR, aU, Value.cells]; rfl) (by decide) ?_
     refine aL rfl (by decide) ?_
     refine eJ rfl rfl ?_; simp only [cC, Value.cells, List.set, List.take, List.drop, List.nil_append, List.append_nil, List.length_cons, List.length_nil, List.cons_append, Nat.reduceAdd]
     refine XK.aE ?_
     refine XK.ret ?_
     refine XK.norm ?_
     exact XK.nA (n := 2) (vs := [.int .u8 0, .int .i64 0]) rfl (by kernel_rfl) rfl rfl (by first | assumption | exact aD.whole 0 rfl | exact aD.whole 1 rfl | exact aD.whole 2 rfl | exact aD.whole 3 rfl | exact aD.whole 4 rfl | exact aD.whole 5 rfl | exact aD.whole 6 rfl | exact aD.whole 7 rfl | exact aD.whole 8 rfl | exact aD.fD (by simp) (by assumption)) rfl fun w9 st => ⟨by
      rw [dX, if_neg h4, if_neg Vo, if_pos (by omega)]; rfl, st.below (by simp)⟩
    ·
     have h9' : ¬ (r.length : Int) ≠ (cO (cH w1) (cR w1)).n := by omega
     refine XK.skip ?_
     refine XK.norm ?_
     refine XK.seq ?_
     refine XK.seq ?_
     refine XK.region ?_
     refine bL (off := 0) (by kernel_rfl) rfl (by decide) ?_
     refine cP rfl ?_
     refine iS rfl rfl (by decide) ?_
     refine XK.aE ?_
     refine XK.if_ rfl (fun h11 => ?_) (fun h11 => ?_)
     ·
      refine XK.seq ?_
      refine XK.region ?_
      refine dB (zs := [.int .u8 0, .int .i64 0]) (L := [(0, 1), (1, 1)]) (aM (by kernel_rfl)) (by kernel_rfl) rfl (by simp [aR, aU, Value.cells]; rfl) (by decide) ?_
      refine aL rfl (by decide) ?_
      refine eJ rfl rfl ?_; simp only [cC, Value.cells, List.set, List.take, List.drop, List.nil_append, List.append_nil, List.length_cons, List.length_nil, List.cons_append, Nat.reduceAdd]
      refine XK.aE ?_
      refine XK.ret ?_
      refine XK.norm ?_
      exact XK.nA (n := 2) (vs := [.int .u8 0, .int .i64 0]) rfl (by kernel_rfl) rfl rfl (by first | assumption | exact aD.whole 0 rfl | exact aD.whole 1 rfl | exact aD.whole 2 rfl | exact aD.whole 3 rfl | exact aD.whole 4 rfl | exact aD.whole 5 rfl | exact aD.whole 6 rfl | exact aD.whole 7 rfl | exact aD.whole 8 rfl | exact aD.fD (by simp) (by assumption)) rfl fun w9 st => ⟨by
       rw [dX, if_neg h4, if_neg Vo, if_neg h9', if_pos h11]; rfl, st.below (by simp)⟩
     ·
      obtain ⟨id, hid⟩ : ∃ x, r[0]? = some x := ⟨r[0]'(by omega), List.getElem?_eq_getElem _⟩
      obtain ⟨v, hv⟩ : ∃ x, r[(cO (cH w1) (cR w1)).n.toNat - 1]? = some x := ⟨r[(cO (cH w1) (cR w1)).n.toNat - 1]'(by omega), List.getElem?_eq_getElem _⟩
      have aFB : r.getD 0 0 = id := by rw [List.getD_eq_getElem?_getD, hid]; rfl
      have hv' : r.getD ((cO (cH w1) (cR w1)).n.toNat - 1) 0 = v := by rw [List.getD_eq_getElem?_getD, hv]; rfl
      have aI6 := hu id (List.mem_cons_of_mem _ (List.mem_of_getElem? hid))
      have Kc := hu v (List.mem_cons_of_mem _ (List.mem_of_getElem? hv))
      have aI5 := hcell 1 id (by simpa using hid)
      have hcv := hcell (cO (cH w1) (cR w1)).n.toNat v (by
       obtain ⟨t, ht⟩ : ∃ t, (cO (cH w1) (cR w1)).n.toNat = t + 1 := ⟨(cO (cH w1) (cR w1)).n.toNat - 1, by omega⟩
       rw [ht] at hv ⊢; simpa using hv)
      have hread : dX s (w1 :: r) = tL s (cH w1) (cO (cH w1) (cR w1)) id v := by rw [dX, if_neg h4, if_neg Vo, if_neg h9', if_neg h11, aFB, hv']
      refine XK.skip ?_
      refine XK.norm ?_
      refine XK.seq ?_
      refine XK.region ?_
      refine aG rfl (by decide) ?_
      refine dH 1 (off + 1) (el := 44) (sz := 1) (by kernel_rfl) (by kernel_rfl) rfl rfl (by rfl) (by omega) (by omega) (by decide) ?_
      refine cP rfl ?_
      refine rH (ds := .int .u32) (by kernel_rfl) (by kernel_rfl) rfl (bA (by omega)) (by decide) ?_
      refine aL rfl (by decide) ?_
      refine XK.aE ?_
      refine XK.seq ?_
      refine XK.seq ?_
      refine XK.region ?_
      refine aG rfl (by decide) ?_
      refine iK 4 rfl ?_
      refine bL (off := 2) (by kernel_rfl) rfl (by decide) ?_
      refine cP rfl ?_
      refine aY (f := 177) (fi := []) (ca := []) (by kernel_rfl) rfl rfl (by decide) (fun w2 st => aE1 s A1 A2 A3 A4 n1 k1 n2 k2 n3 k3 n4 k4 (cH w1) w2 hS) ?_
      refine yW rfl rfl (by decide) ?_
      refine XK.aE ?_
      refine XK.if_ rfl (fun mT => ?_) (fun mT => ?_)
      ·
       refine XK.seq ?_
       refine XK.region ?_
       refine dB (zs := [.int .u8 0, .int .i64 0]) (L := [(0, 1), (1, 1)]) (aM (by kernel_rfl)) (by kernel_rfl) rfl (by simp [aR, aU, Value.cells]; rfl) (by decide) ?_
       refine aL rfl (by decide) ?_
       refine eJ rfl rfl ?_; simp only [cC, Value.cells, List.set, List.take, List.drop, List.nil_append, List.append_nil, List.length_cons, List.length_nil, List.cons_append, Nat.reduceAdd]
       refine XK.aE ?_
       refine XK.ret ?_
       refine XK.norm ?_
       exact XK.nA (n := 2) (vs := [.int .u8 0, .int .i64 0]) rfl (by kernel_rfl) rfl rfl (by first | assumption | exact aD.whole 0 rfl | exact aD.whole 1 rfl | exact aD.whole 2 rfl | exact aD.whole 3 rfl | exact aD.whole 4 rfl | exact aD.whole 5 rfl | exact aD.whole 6 rfl | exact aD.whole 7 rfl | exact aD.whole 8 rfl | exact aD.fD (by simp) (by assumption)) rfl fun w9 st => ⟨by
        rw [hread, tL, if_pos mT]; rfl, st.below (by simp)⟩
      ·
       refine XK.skip ?_
       refine XK.norm ?_
       refine XK.seq ?_
       refine XK.seq ?_
       refine XK.region ?_
       refine bL (off := 1) (by kernel_rfl) rfl (by decide) ?_
       refine cP rfl ?_
       refine iS rfl rfl (by decide) ?_
       refine XK.aE ?_
       refine XK.if_ rfl (fun rY => ?_) (fun rY => ?_)
       ·
        refine XK.seq ?_
        refine XK.region ?_
        refine dB (zs := [.int .u8 0, .int .i64 0]) (L := [(0, 1), (1, 1)]) (aM (by kernel_rfl)) (by kernel_rfl) rfl (by simp [aR, aU, Value.cells]; rfl) (by decide) ?_
        refine aL rfl (by decide) ?_
        refine eJ rfl rfl ?_; simp only [cC, Value.cells, List.set, List.take, List.drop, List.nil_append, List.append_nil, List.length_cons, List.length_nil, List.cons_append, Nat.reduceAdd]
        refine XK.aE ?_
        refine XK.ret ?_
        refine XK.norm ?_
        exact XK.nA (n := 2) (vs := [.int .u8 0, .int .i64 0]) rfl (by kernel_rfl) rfl rfl (by first | assumption | exact aD.whole 0 rfl | exact aD.whole 1 rfl | exact aD.whole 2 rfl | exact aD.whole 3 rfl | exact aD.whole 4 rfl | exact aD.whole 5 rfl | exact aD.whole 6 rfl | exact aD.whole 7 rfl | exact aD.whole 8 rfl | exact aD.fD (by simp) (by assumption)) rfl fun w9 st => ⟨by
         rw [hread, tL, if_neg mT, if_pos rY]; rfl, st.below (by simp)⟩
       ·
        refine XK.skip ?_
        refine XK.norm ?_
        refine XK.seq ?_
        refine XK.region ?_
        refine aG rfl (by decide) ?_
        refine bL (off := 0) (by kernel_rfl) rfl (by decide) ?_
        refine cP rfl ?_
        refine dH (cO (cH w1) (cR w1)).n.toNat (off + (cO (cH w1) (cR w1)).n.toNat) (el := 44) (sz := 1) (by kernel_rfl) (by kernel_rfl) rfl rfl (by omega) (by omega) (by omega) (by decide) ?_
        refine cP rfl ?_
        refine rH (ds := .int .u32) (by kernel_rfl) (by kernel_rfl) rfl (bA (by omega)) (by decide) ?_
        refine aL rfl (by decide) ?_
        refine XK.aE ?_
        refine XK.seq ?_
        refine XK.seq ?_
        refine XK.region ?_
        refine aG rfl (by decide) ?_
        refine bL (off := 1) (by kernel_rfl) rfl (by decide) ?_
        refine cP rfl ?_
        refine yW rfl rfl (by decide) ?_
        refine XK.aE ?_
        refine XK.if_ rfl (fun Pn => ?_) (fun Pn => ?_)
        ·
         refine XK.seq ?_
         refine XK.region ?_
         refine dB (zs := [.int .u8 0, .int .i64 0]) (L := [(0, 1), (1, 1)]) (aM (by kernel_rfl)) (by kernel_rfl) rfl (by simp [aR, aU, Value.cells]; rfl) (by decide) ?_
         refine aL rfl (by decide) ?_
         refine eJ rfl rfl ?_; simp only [cC, Value.cells, List.set, List.take, List.drop, List.nil_append, List.append_nil, List.length_cons, List.length_nil, List.cons_append, Nat.reduceAdd]
         refine XK.aE ?_
         refine XK.ret ?_
         refine XK.norm ?_
         exact XK.nA (n := 2) (vs := [.int .u8 0, .int .i64 0]) rfl (by kernel_rfl) rfl rfl (by first | assumption | exact aD.whole 0 rfl | exact aD.whole 1 rfl | exact aD.whole 2 rfl | exact aD.whole 3 rfl | exact aD.whole 4 rfl | exact aD.whole 5 rfl | exact aD.whole 6 rfl | exact aD.whole 7 rfl | exact aD.whole 8 rfl | exact aD.fD (by simp) (by assumption)) rfl fun w9 st => ⟨by
          rw [hread, tL, if_neg mT, if_neg rY, if_pos Pn]; rfl, st.below (by simp)⟩
        ·
         have hact : ([.int .i64 (cO (cH w1) (cR w1)).n, .int .i64 (cO (cH w1) (cR w1)).m, .int .u8 (cO (cH w1) (cR w1)).a, .int .u8 (cO (cH w1) (cR w1)).b, .int .u8 (cO (cH w1) (cR w1)).c] : List Value)[2 + v.toNat]? = some (.int .u8 ((cO (cH w1) (cR w1)).act v)) := by
          unfold iI.act
          rcases (by omega : v = 0 ∨ v = 1 ∨ v = 2) with rfl | rfl | rfl <;> rfl
         have aF4 := hF4 v Kc.1 (by omega)
         generalize hk : (cO (cH w1) (cR w1)).act v = k at *
         refine XK.skip ?_
         refine XK.norm ?_
         refine XK.seq ?_
         refine XK.region ?_
         refine aG rfl (by decide) ?_
         refine bL (off := 2) (by kernel_rfl) rfl (by decide) ?_
         refine Qv v.toNat (2 + v.toNat) (n := 3) (el := 5) (sz := 1) (by kernel_rfl) (by kernel_rfl) rfl rfl (by omega) (by omega) (by omega) (by decide) ?_
         refine gA (by kernel_rfl) rfl (Rd.aF 0 rfl hact) (by decide) ?_
         refine aG rfl (by decide) ?_
         refine dB (zs := [.int .u8 0, .int .i64 0]) (L := [(0, 1), (1, 1)]) (aM (by kernel_rfl)) (by kernel_rfl) rfl (by simp [aR, aU, Value.cells]; rfl) (by decide) ?_
         refine bZ (cs := [.int .u8 0, .int .i64 0]) (aM (by kernel_rfl)) (by decide) fun g5 => ?_
         refine eJ rfl rfl ?_; simp only [cC, Value.cells, List.set, List.take, List.drop, List.nil_append, List.append_nil, List.length_cons, List.length_nil, List.cons_append, Nat.reduceAdd]
         refine XK.aE ?_
         refine XK.seq ?_
         refine XK.sB 113 (iN s (cH w1) ((cO (cH w1) (cR w1)).act v) id.toNat) ?_ ?_
         ·skip
          refine XK.region ?_
          refine bL (off := 0) (by kernel_rfl) rfl (by decide) ?_
          refine cP rfl ?_
          refine iS rfl rfl (by decide) ?_
          refine aG rfl (by decide) ?_
          (first | refine bT (t := 91) rfl (fun hg => ?_) (fun hg => ?_) | refine jH (t := 91) rfl (fun hg => ?_) (fun hg => ?_))
          ·
           have hp := aF4 (by simpa using hg)
           obtain ⟨dm, qW⟩ : ∃ d, s.domains[id.toNat]? = some d := ⟨s.domains[id.toNat]'(by rw [hp] at mT; simp only [nX, if_true] at mT; omega), List.getElem?_eq_getElem _⟩
           obtain ⟨bD, oD, rD, rfl, _, rfl, hRD⟩ := hS.dom.row qW
           have aAM : Ds s id.toNat = dm.ret := by rw [Ds, qW]; rfl
           have Ep := hS.rO
           have aIx := (List.getElem?_eq_some_iff.1 qW).1
           have Ph := hRD.at_ (j := 2) rfl
           refine aS rfl rfl ?_; refine bL (off := 1) (by kernel_rfl) rfl (by decide) ?_
           refine aS rfl rfl ?_; refine cP rfl ?_
           refine aS rfl rfl ?_; refine aG rfl (by decide) ?_
           refine aS rfl rfl ?_; refine dH id.toNat (oD + id.toNat * 3) (el := 75) (sz := 3) (by kernel_rfl) (by kernel_rfl) rfl rfl (by omega) (by omega) (by omega) (by decide) ?_
           refine aS rfl rfl ?_; refine bL (off := 2) (by kernel_rfl) rfl (by decide) ?_
           refine aS rfl rfl ?_; refine cP rfl ?_
           refine aS rfl rfl ?_; (first | refine yU rfl (by decide) ?_ | refine yV rfl (by decide) ?_)
           (first | refine cL rfl rfl (by decide) ?_ | refine cM rfl rfl (by decide) ?_)
           refine aG rfl (by decide) ?_
           (first | refine bT (t := 100) rfl (fun hg => ?_) (fun hg => ?_) | refine jH (t := 100) rfl (fun hg => ?_) (fun hg => ?_))
           ·
            refine aP rfl rfl rfl (by decide) ?_
            refine aP rfl rfl rfl (by decide) ?_
            refine aP rfl rfl rfl (by decide) ?_
            refine aP rfl rfl rfl (by decide) ?_
            refine rG rfl rfl (by decide) ?_
            refine rG rfl rfl (by decide) ?_
            refine rG rfl rfl (by decide) ?_
            refine rG rfl rfl (by decide) ?_
            refine rG rfl rfl (by decide) ?_
            refine rG rfl rfl (by decide) ?_
            refine rG rfl rfl (by decide) ?_
            refine aP rfl rfl rfl (by decide) ?_
            (first | refine cL rfl rfl (by decide) ?_ | refine cM rfl rfl (by decide) ?_)
            refine XK.aE ?_
            exact XK.sQ (by repeat (first | exact trivial | refine ⟨rfl, ?_⟩)) (by first | exact vD rfl (by simp_all [iN, fC]) | exact wL rfl (by simp_all [iN, fC]) | exact zQ rfl (by simp_all [iN, fC]))
           ·
            refine aS rfl rfl ?_; refine bL (off := 2) (by kernel_rfl) rfl (by decide) ?_
            refine aS rfl rfl ?_; refine cP rfl ?_
            refine aS rfl rfl ?_; refine iS rfl rfl (by decide) ?_
            refine aS rfl rfl ?_; refine aG rfl (by decide) ?_
            (first | refine bT (t := 104) rfl (fun hg => ?_) (fun hg => ?_) | refine jH (t := 104) rfl (fun hg => ?_) (fun hg => ?_))
            ·
             have hp : cH w1 = 20 := by simpa using hg
             obtain ⟨ck, pN⟩ : ∃ d, s.aB[id.toNat]? = some d := ⟨s.aB[id.toNat]'(by rw [hp] at mT; simp only [nX, if_true] at mT; simp at mT; omega), List.getElem?_eq_getElem _⟩
             obtain ⟨bC, oC, rC, rfl, _, Vj, hC⟩ := hS.fH.row pN
             obtain ⟨cA, cn, aHY, hrow, _⟩ := Vj
             have Um : kindOf s id.toNat = ck.kind := by rw [kindOf, pN]; rfl
             have hlC := hS.qN
             have aF8 := (List.getElem?_eq_some_iff.1 pN).1
             subst hrow
             refine aS rfl rfl ?_; refine bL (off := 0) (by kernel_rfl) rfl (by decide) ?_
             refine aS rfl rfl ?_; refine cP rfl ?_
             refine aS rfl rfl ?_; refine aG rfl (by decide) ?_
             refine aS rfl rfl ?_; refine dH id.toNat (oC + id.toNat * 6) (el := 118) (sz := 6) (by kernel_rfl) (by kernel_rfl) rfl rfl (by omega) (by omega) (by omega) (by decide) ?_
             refine aS rfl rfl ?_; refine iK 6 rfl ?_
             refine aS rfl rfl ?_; refine aY (f := 178) (fi := []) (ca := []) (by kernel_rfl) rfl rfl (by decide) (fun w2 st => Za ck.kind _ _ _ _ _ _ _ w2) ?_
             refine aS rfl rfl ?_; (first | refine yU rfl (by decide) ?_ | refine yV rfl (by decide) ?_)
             refine aS rfl rfl ?_; (first | refine cL rfl rfl (by decide) ?_ | refine cM rfl rfl (by decide) ?_)
             (first | refine cL rfl rfl (by decide) ?_ | refine cM rfl rfl (by decide) ?_)
             refine XK.aE ?_
             exact XK.sQ (by repeat (first | exact trivial | refine ⟨rfl, ?_⟩)) (by first | exact vD rfl (by simp_all [iN, fC]) | exact wL rfl (by simp_all [iN, fC]) | exact zQ rfl (by simp_all [iN, fC]))
            ·
             refine aP rfl rfl rfl (by decide) ?_
             refine aP rfl rfl rfl (by decide) ?_
             refine aP rfl rfl rfl (by decide) ?_
             refine aP rfl rfl rfl (by decide) ?_
             refine aP rfl rfl rfl (by decide) ?_
             refine aP rfl rfl rfl (by decide) ?_
             refine aP rfl rfl rfl (by decide) ?_
             refine aS rfl rfl ?_; (first | refine cL rfl rfl (by decide) ?_ | refine cM rfl rfl (by decide) ?_)
             (first | refine cL rfl rfl (by decide) ?_ | refine cM rfl rfl (by decide) ?_)
             refine XK.aE ?_
             exact XK.sQ (by repeat (first | exact trivial | refine ⟨rfl, ?_⟩)) (by first | exact vD rfl (by simp_all [iN, fC]) | exact wL rfl (by simp_all [iN, fC]) | exact zQ rfl (by simp_all [iN, fC]))
          ·
           refine aP rfl rfl rfl (by decide) ?_
           refine aP rfl rfl rfl (by decide) ?_
           refine aP rfl rfl rfl (by decide) ?_
           refine aP rfl rfl rfl (by decide) ?_
           refine aP rfl rfl rfl (by decide) ?_
           refine aP rfl rfl rfl (by decide) ?_
           refine aP rfl rfl rfl (by decide) ?_
           (first | refine cL rfl rfl (by decide) ?_ | refine cM rfl rfl (by decide) ?_)
           refine aG rfl (by decide) ?_
           refine aS rfl rfl ?_; refine bL (off := 2) (by kernel_rfl) rfl (by decide) ?_
           refine aS rfl rfl ?_; refine cP rfl ?_
           refine aS rfl rfl ?_; refine iS rfl rfl (by decide) ?_
           refine aS rfl rfl ?_; refine aG rfl (by decide) ?_
           (first | refine bT (t := 104) rfl (fun hg => ?_) (fun hg => ?_) | refine jH (t := 104) rfl (fun hg => ?_) (fun hg => ?_))
           ·
            have hp : cH w1 = 20 := by simpa using hg
            obtain ⟨ck, pN⟩ : ∃ d, s.aB[id.toNat]? = some d := ⟨s.aB[id.toNat]'(by rw [hp] at mT; simp only [nX, if_true] at mT; simp at mT; omega), List.getElem?_eq_getElem _⟩
            obtain ⟨bC, oC, rC, rfl, _, Vj, hC⟩ := hS.fH.row pN
            obtain ⟨cA, cn, aHY, hrow, _⟩ := Vj
            have Um : kindOf s id.toNat = ck.kind := by rw [kindOf, pN]; rfl
            have hlC := hS.qN
            have aF8 := (List.getElem?_eq_some_iff.1 pN).1
            subst hrow
            refine aS rfl rfl ?_; refine bL (off := 0) (by kernel_rfl) rfl (by decide) ?_
            refine aS rfl rfl ?_; refine cP rfl ?_
            refine aS rfl rfl ?_; refine aG rfl (by decide) ?_
            refine aS rfl rfl ?_; refine dH id.toNat (oC + id.toNat * 6) (el := 118) (sz := 6) (by kernel_rfl) (by kernel_rfl) rfl rfl (by omega) (by omega) (by omega) (by decide) ?_
            refine aS rfl rfl ?_; refine iK 6 rfl ?_
            refine aS rfl rfl ?_; refine aY (f := 178) (fi := []) (ca := []) (by kernel_rfl) rfl rfl (by decide) (fun w2 st => Za ck.kind _ _ _ _ _ _ _ w2) ?_
            refine aS rfl rfl ?_; (first | refine yU rfl (by decide) ?_ | refine yV rfl (by decide) ?_)
            refine aS rfl rfl ?_; (first | refine cL rfl rfl (by decide) ?_ | refine cM rfl rfl (by decide) ?_)
            (first | refine cL rfl rfl (by decide) ?_ | refine cM rfl rfl (by decide) ?_)
            refine XK.aE ?_
            exact XK.sQ (by repeat (first | exact trivial | refine ⟨rfl, ?_⟩)) (by first | exact vD rfl (by simp_all [iN, fC]) | exact wL rfl (by simp_all [iN, fC]) | exact zQ rfl (by simp_all [iN, fC]))
           ·
            refine aP rfl rfl rfl (by decide) ?_
            refine aP rfl rfl rfl (by decide) ?_
            refine aP rfl rfl rfl (by decide) ?_
            refine aP rfl rfl rfl (by decide) ?_
            refine aP rfl rfl rfl (by decide) ?_
            refine aP rfl rfl rfl (by decide) ?_
            refine aP rfl rfl rfl (by decide) ?_
            refine aS rfl rfl ?_; (first | refine cL rfl rfl (by decide) ?_ | refine cM rfl rfl (by decide) ?_)
            (first | refine cL rfl rfl (by decide) ?_ | refine cM rfl rfl (by decide) ?_)
            refine XK.aE ?_
            exact XK.sQ (by repeat (first | exact trivial | refine ⟨rfl, ?_⟩)) (by first | exact vD rfl (by simp_all [iN, fC]) | exact wL rfl (by simp_all [iN, fC]) | exact zQ rfl (by simp_all [iN, fC]))
         refine XK.if_ rfl (fun vA => ?_) (fun vA => ?_)
         ·
          refine XK.seq ?_
          refine XK.region ?_
          refine dB (zs := [.int .u8 0, .int .i64 0]) (L := [(0, 1), (1, 1)]) (aM (by kernel_rfl)) (by kernel_rfl) rfl (by simp [aR, aU, Value.cells]; rfl) (by decide) ?_
          refine aL rfl (by decide) ?_
          refine eJ rfl rfl ?_; simp only [cC, Value.cells, List.set, List.take, List.drop, List.nil_append, List.append_nil, List.length_cons, List.length_nil, List.cons_append, Nat.reduceAdd]
          refine XK.aE ?_
          refine XK.ret ?_
          refine XK.norm ?_
          exact XK.nA (n := 2) (vs := [.int .u8 0, .int .i64 0]) rfl (by kernel_rfl) rfl rfl (by first | assumption | exact aD.whole 0 rfl | exact aD.whole 1 rfl | exact aD.whole 2 rfl | exact aD.whole 3 rfl | exact aD.whole 4 rfl | exact aD.whole 5 rfl | exact aD.whole 6 rfl | exact aD.whole 7 rfl | exact aD.whole 8 rfl | exact aD.fD (by simp) (by assumption)) rfl fun w9 st => ⟨by
           rw [hread, tL, if_neg mT, if_neg rY, if_neg Pn, if_pos vA]; rfl, st.below (by simp)⟩
         ·
          refine XK.skip ?_
          refine XK.norm ?_
          refine XK.seq ?_
          refine XK.draw 2 (by kernel_rfl) (by kernel_rfl) ?_
          refine XA.dA 0 rfl rfl rfl (Fk 2 rfl) ?_
          refine XA.dA 1 rfl rfl rfl (yE rfl) ?_
          refine XA.next 2 rfl (by kernel_rfl) ?_
          refine eJ rfl rfl ?_; simp only [cC, Value.cells, List.set, List.take, List.drop, List.nil_append, List.append_nil, List.length_cons, List.length_nil, List.cons_append, Nat.reduceAdd]
          refine XA.bt ?_
          refine XA.done (by kernel_rfl) ?_
          refine XK.norm ?_
          refine XK.ret ?_
          refine XK.norm ?_
          exact XK.nA (n := 2) (vs := [.int .u8 k, .int .i64 id]) rfl (by kernel_rfl) rfl rfl (by first | assumption | exact aD.whole 0 rfl | exact aD.whole 1 rfl | exact aD.whole 2 rfl | exact aD.whole 3 rfl | exact aD.whole 4 rfl | exact aD.whole 5 rfl | exact aD.whole 6 rfl | exact aD.whole 7 rfl | exact aD.whole 8 rfl | exact aD.fD (by simp) (by assumption)) rfl fun w9 st => ⟨by
           rw [hread, tL, if_neg mT, if_neg rY, if_neg Pn, if_neg vA, hk]; rfl, st.below (by simp)⟩
end
section
def Dg (l : List Nat) (v : Value) (w w' : World) : Prop := ∃ A c, v = .slice A l.length c ∧ aH (fresh w w') 1 A l.length (aO (fR l))
theorem Pz (q : Piece) (s : aC) (A1 A2 A3 A4 : Option Addr) (n1 k1 n2 k2 n3 k3 n4 k4 : Nat) (c : Nat) (w : World) (nG : pV q s A1 n1 A2 n2 A3 n3 A4 n4) (hm : s.rM) (hq : q.Le (all w)) (hc : c < s.aB.length) :
  Calls Tryz.prog 89 #[.agg #[.slice A1 n1 k1, .slice A2 n2 k2, .slice A3 n3 k3, .slice A4 n4 k4], .int .i64 (c : Int)] w (Ql (Dg (eI s c)) w) := by
 obtain ⟨rfl, rfl, rfl, rfl⟩ := nG.len
 refine XK.enter (vs := [.agg #[.slice A1 s.aB.length k1, .slice A2 s.domains.length k2, .slice A3 s.aW.length k3, .slice A4 s.aA.length k4], .int .i64 (c : Int)]) Tryz.func89 rfl Tryz.ntmps89 (by simp) ?_
 refine XK.piece q (by simp) hq ?_
 refine XK.seq ?_
 refine XK.region ?_
 refine bY rfl (by decide) fun g1 => ?_
 refine aL rfl (by decide) ?_
 refine XK.aE ?_
 refine XK.seq ?_
 refine XK.region ?_
 refine aL rfl (by decide) ?_
 refine XK.aE ?_
 refine XK.seq ?_
 refine XK.kN 3 1 ?_
 refine XK.aK [(1, .int .i64 (c : Int)), (5, .slice none 0 0), (2, .pointer (some ⟨g1, 0, none⟩))] ?_
 refine XK.block ?_
 refine XK.loop (fun m e R H => ∃ (cur : Nat) (l : List Nat) (A : Option Addr) (k : Nat), cur < s.aB.length ∧ l.length ≤ s.aB.length ∧ m = s.aB.length - l.length ∧ eI s c = l ++ kZ s (s.aB.length - l.length) cur ∧ e = [(1, .int .i64 (cur : Int)), (5, .slice A l.length k), (2, .pointer (some ⟨g1, 0, none⟩))] ∧ R = [q, all w] ∧ H = [HP.own 3 1 (.slice A l.length k) l.length (aO (fR l)), HP.aF g1 29 [.slice A1 s.aB.length k1, .slice A2 s.domains.length k2, .slice A3 s.aW.length k3, .slice A4 s.aA.length k4]]) s.aB.length ⟨c, [], none, 0, hc, by simp, rfl, rfl, rfl, rfl, rfl⟩ fun m e R H hI => ?_
 obtain ⟨cur, l, A, k, aFS, uM, rfl, eK, rfl, rfl, rfl⟩ := hI
 refine XK.seq ?_
 refine XK.sB 22 (l.length < s.aB.length) ?_ ?_
 ·skip
  refine XK.region ?_
  refine aG rfl (by decide) ?_
  refine yW rfl rfl (by decide) ?_
  refine aG rfl (by decide) ?_
  refine bT (t := 8) rfl (fun hg => ?_) (fun hg => ?_)
  ·
   refine aS rfl rfl ?_; refine aG rfl (by decide) ?_
   refine aS rfl rfl ?_; refine bL (off := 0) (by kernel_rfl) rfl (by decide) ?_
   refine aS rfl rfl ?_; refine cP rfl ?_
   refine aS rfl rfl ?_; refine fX (el := 118) (by kernel_rfl) rfl (by decide) ?_
   refine aS rfl rfl ?_; refine hJ rfl rfl (by decide) ?_
   (first | refine cL rfl rfl (by decide) ?_ | refine cM rfl rfl (by decide) ?_)
   refine aG rfl (by decide) ?_
   refine bT (t := 15) rfl (fun hg => ?_) (fun hg => ?_)
   ·
    refine aS rfl rfl ?_; refine aG rfl (by decide) ?_
    refine aS rfl rfl ?_; refine fX (el := 3) (by kernel_rfl) rfl (by decide) ?_
    refine aS rfl rfl ?_; refine bL (off := 0) (by kernel_rfl) rfl (by decide) ?_
    refine aS rfl rfl ?_; refine cP rfl ?_
    refine aS rfl rfl ?_; refine fX (el := 118) (by kernel_rfl) rfl (by decide) ?_
    refine aS rfl rfl ?_; refine hJ rfl rfl (by decide) ?_
    (first | refine cL rfl rfl (by decide) ?_ | refine cM rfl rfl (by decide) ?_)
    refine XK.aE ?_
    exact XK.sQ (by repeat (first | exact trivial | refine ⟨rfl, ?_⟩)) (vD rfl (by omega))
   ·
    refine aP rfl rfl rfl (by decide) ?_
    refine aP rfl rfl rfl (by decide) ?_
    refine aP rfl rfl rfl (by decide) ?_
    refine aP rfl rfl rfl (by decide) ?_
    refine aP rfl rfl rfl (by decide) ?_
    refine aP rfl rfl rfl (by decide) ?_
    (first | refine cL rfl rfl (by decide) ?_ | refine cM rfl rfl (by decide) ?_)
    refine XK.aE ?_
    exact XK.sQ (by repeat (first | exact trivial | refine ⟨rfl, ?_⟩)) (wL rfl (by omega))
  ·
   refine aP rfl rfl rfl (by decide) ?_
   refine aP rfl rfl rfl (by decide) ?_
   refine aP rfl rfl rfl (by decide) ?_
   refine aP rfl rfl rfl (by decide) ?_
   refine aP rfl rfl rfl (by decide) ?_
   (first | refine cL rfl rfl (by decide) ?_ | refine cM rfl rfl (by decide) ?_)
   refine aG rfl (by decide) ?_
   refine aP rfl rfl rfl (by decide) ?_
   refine aP rfl rfl rfl (by decide) ?_
   refine aP rfl rfl rfl (by decide) ?_
   refine aP rfl rfl rfl (by decide) ?_
   refine aP rfl rfl rfl (by decide) ?_
   refine aP rfl rfl rfl (by decide) ?_
   (first | refine cL rfl rfl (by decide) ?_ | refine cM rfl rfl (by decide) ?_)
   refine XK.aE ?_
   exact XK.sQ (by repeat (first | exact trivial | refine ⟨rfl, ?_⟩)) (wL rfl (by omega))
 refine XK.if_ rfl (fun h => ?_) (fun h => ?_)
 ·
  refine XK.skip ?_
  refine XK.norm ?_
  refine XK.block ?_
  refine XK.seq ?_
  have hlt : l.length < s.aB.length := h
  obtain ⟨x, hx⟩ : ∃ x, s.aB[cur]? = some x := ⟨_, List.getElem?_eq_getElem aFS⟩
  obtain ⟨k0, zJ⟩ : ∃ k0, s.aB.length - l.length = k0 + 1 := ⟨s.aB.length - l.length - 1, by omega⟩
  rw [zJ, aHU hx] at eK
  have hn9 := hm.nc
  have hfit := (hm.aB cur x hx).1
  refine XK.region ?_
  refine aG rfl (by decide) ?_
  refine aG rfl (by decide) ?_
  refine eP (el := 3) (sz := 1) (zs := [.int .i64 0]) (by kernel_rfl) (aM (by kernel_rfl)) (by kernel_rfl) rfl (by decide) (by decide) rfl (by simp [aR, aU, Value.cells, List.range_succ, List.set]; rfl) (by decide) fun g2 => ?_
  refine fI 1 1 8 1 (n' := l.length + 1) (el := 3) (by kernel_rfl) (by kernel_rfl) (by decide) rfl rfl rfl (kL 0 rfl rfl) (by simp [Value.oneCell']) rfl (by omega) (by omega) (by decide) fun A' k' => ?_
  dsimp only [List.set]
  rw [show aO (fR l) ++ [Value.int .i64 (cur : Int)] = aO (fR (l ++ [cur])) by simp [aO, fR]]
  refine XK.weak [1, 2] rfl (by decide) (R' := [q, all w]) (by simp) ?_
  refine aL rfl (by decide) ?_
  refine XK.aE ?_
  refine XK.seq ?_
  refine XK.seq ?_
  obtain ⟨bC, oC, rC, rfl, hzC, _, hR, hcC⟩ := nG.fH.xC hx
  obtain ⟨As, ns, ks, rfl, rfl, Jd⟩ := hR
  refine XK.region ?_
  refine bL (off := 0) (by kernel_rfl) rfl (by decide) ?_
  refine cP rfl ?_
  refine aG rfl (by decide) ?_
  refine dH (cur) (oC + cur * 6) (el := 118) (sz := 6) (by kernel_rfl) (by kernel_rfl) rfl rfl (by omega) (by omega) (by omega) (by decide) ?_
  refine bL (off := 1) (by kernel_rfl) rfl (by decide) ?_
  refine gA (by kernel_rfl) rfl (Rd.ro (p := q) (by simp) hzC (hcC 1 _ rfl)) (by decide) ?_
  refine fX (el := 3) (by kernel_rfl) rfl (by decide) ?_
  refine iS rfl rfl (by decide) ?_
  refine XK.aE ?_
  refine XK.if_ rfl (fun h0 => ?_) (fun h0 => ?_)
  ·
   refine XK.exit ?_
   refine XK.norm ?_
   refine XK.seq ?_
   refine XK.region ?_
   refine aG rfl (by decide) ?_
   refine aL rfl (by decide) ?_
   refine XK.aE ?_
   refine XK.ret ?_
   refine XK.norm ?_
   have hs0 : x.src = [] := List.eq_nil_of_length_eq_zero (by have : ((x.src.length : Nat) : Int) = 0 := h0; omega)
   rw [hs0] at eK
   have uO : (l ++ [cur]) = eI s c := eK.symm
   refine XK.still [] [0] [] (by simp) rfl (by decide) (by decide) fun qf rR _ hfr => ?_
   obtain ⟨Ff, sf, zf⟩ := rR 0 _ (by simp) rfl
   obtain ⟨Av, cv, hv, Bp⟩ := aH.rN (Y := qf.Z) sf zf
   exact XK.aI rfl rfl fun w1 st => ⟨⟨_, rfl, by
    rw [← uO]
    unfold Dg
    rw [hv]
    exact ⟨Av, cv, by simp, by simpa using aH.le Bp (st.lK (by simp) (hfr (by simp) (by simp)))⟩⟩, st.below (by simp)⟩
  ·
   refine XK.skip ?_
   refine XK.norm ?_
   obtain ⟨f, fs, hs0⟩ : ∃ f fs, x.src = f :: fs := by
    cases hs0 : x.src with
    | nil => exact absurd (by rw [hs0]; rfl) h0
    | cons f fs => exact ⟨f, fs, rfl⟩
   have hf := hfit f (by rw [hs0]; simp)
   obtain ⟨f', rfl⟩ : ∃ f' : Nat, f = (f' : Int) := ⟨f.toNat, by omega⟩
   rw [hs0] at eK
   obtain ⟨bS, oS, rfl, hzS, hcS⟩ := Jd.2 (by rw [hs0]; simp)
   refine XK.region ?_
   refine bL (off := 0) (by kernel_rfl) rfl (by decide) ?_
   refine cP rfl ?_
   refine aG rfl (by decide) ?_
   refine dH (cur) (oC + cur * 6) (el := 118) (sz := 6) (by kernel_rfl) (by kernel_rfl) rfl rfl (by omega) (by omega) (by omega) (by decide) ?_
   refine bL (off := 1) (by kernel_rfl) rfl (by decide) ?_
   refine gA (by kernel_rfl) rfl (Rd.ro (p := q) (by simp) hzC (hcC 1 _ rfl)) (by decide) ?_
   refine dH 0 oS (el := 3) (sz := 1) (by kernel_rfl) (by kernel_rfl) rfl rfl rfl (by rw [hs0]; simp) (by omega) (by decide) ?_
   refine gA (by kernel_rfl) rfl (Rd.ro (p := q) (by simp) hzS (hcS 0 _ (by rw [hs0]; rfl))) (by decide) ?_
   refine aL rfl (by decide) ?_
   refine XK.aE ?_
   exact XK.aK [(1, .int .i64 (f' : Int)), (5, .slice A' (l.length + 1) k'), (2, .pointer (some ⟨g1, 0, none⟩))] (XK.round (s.aB.length - (l.length + 1)) (by omega) ⟨f', l ++ [cur], A', k', by omega, by simp; omega, by simp, by rw [eK]; simp [show s.aB.length - (l.length + 1) = k0 by omega], by simp, rfl, by simp⟩)
 ·
  refine XK.exit ?_
  refine XK.norm ?_
  refine XK.seq ?_
  refine XK.region ?_
  refine aG rfl (by decide) ?_
  refine aL rfl (by decide) ?_
  refine XK.aE ?_
  refine XK.ret ?_
  refine XK.norm ?_
  have hge : ¬ l.length < s.aB.length := h
  rw [show s.aB.length - l.length = 0 by omega] at eK
  have uO : l = eI s c := by rw [eK]; simp [kZ]
  refine XK.still [] [0] [] (by simp) rfl (by decide) (by decide) fun qf rR _ hfr => ?_
  obtain ⟨Ff, sf, zf⟩ := rR 0 _ (by simp) rfl
  obtain ⟨Av, cv, hv, Bp⟩ := aH.rN (Y := qf.Z) sf zf
  exact XK.aI rfl rfl fun w1 st => ⟨⟨_, rfl, by
   rw [← uO]
   unfold Dg
   rw [hv]
   exact ⟨Av, cv, rfl, aH.le Bp (st.lK (by simp) (hfr (by simp) (by simp)))⟩⟩, st.below (by simp)⟩
end
end Go.Proofs.YticjkhagldkejaaGreatDoor
