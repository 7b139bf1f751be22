/- A chunk more in a chunk of many. -/
import Derived.Test.YticjkhagldkejaaGreatDoorFirmWordsK3
namespace Go.Proofs.YticjkhagldkejaaGreatDoor
set_option linter.all false
open Go.RowKit
section
section
variable {P : Program} {N : cJ} {w0 w : World} {K : Act → World → Prop} {e : Env} {R : List Piece} {H H' : List HP}
theorem XK.push {p : HP} {ps : List HP} (h : XK N w0 K e R (HP.many (ps ++ [p]) :: H)) : XK N w0 K e R (p :: HP.many ps :: H) := fun a w hr st => by
  obtain ⟨Z, F, hz, cM, hs, cN, dI⟩ := st.ex
  obtain ⟨G, hG1, Rw, hG3⟩ := hs 1 _ rfl
  refine h a w hr ⟨st.os, st.tape, st.output, st.size, Z, fun j => match j with | 0 => fun b => F 0 b ∨ F 1 b | j + 1 => F (j + 2), hz, cM, fun j r hj => ?_, fun j b hb => ?_, fun j k b iU hj hk => ?_⟩
  · cases j with
    | zero =>
      simp at hj
      subst hj
      refine ⟨fun i b => if i < ps.length then G i b else i = ps.length ∧ F 0 b, fun i r hi => ?_, fun i b hb => ?_, fun i k b hik h1 h2 => ?_⟩
      · rcases Nat.lt_or_ge i ps.length with hl | hl
        · rw [List.getElem?_append_left hl] at hi
          show r.sat (fun b => if i < ps.length then G i b else i = ps.length ∧ F 0 b) w
          rw [show (fun b => if i < ps.length then G i b else i = ps.length ∧ F 0 b) = G i by funext b; rw [if_pos hl]]
          exact hG1 i r hi
        · rw [List.getElem?_append_right hl] at hi
          have h0 := sD hi
          have hil : i = ps.length := by simp at h0; omega
          subst hil
          simp at hi
          subst hi
          show p.sat (fun b => if ps.length < ps.length then G ps.length b else ps.length = ps.length ∧ F 0 b) w
          rw [show (fun b => if ps.length < ps.length then G ps.length b else ps.length = ps.length ∧ F 0 b) = F 0 by funext b; simp]
          exact hs 0 _ rfl
      · dsimp only at hb
        split at hb
        · exact .inr (Rw i b hb)
        · exact .inl hb.2
      · dsimp only at h1 h2
        split at h1 <;> split at h2
        · exact hG3 i k b hik h1 h2
        · exact dI 1 0 b (by omega) (Rw i b h1) h2.2
        · exact dI 0 1 b (by omega) h1.2 (Rw k b h2)
        · omega
    | succ j => exact hs (j + 2) r (by simpa using hj)
  · cases j with
    | zero => rcases hb with hb | hb <;> exact cN _ b hb
    | succ j => exact cN _ b hb
  · cases j with
    | zero => cases k with
      | zero => exact iU rfl
      | succ k => rcases hj with hj | hj
                  · exact dI 0 (k + 2) b (by omega) hj hk
                  · exact dI 1 (k + 2) b (by omega) hj hk
    | succ j => cases k with
      | zero => rcases hk with hk | hk
                · exact dI 0 (j + 2) b (by omega) hk hj
                · exact dI 1 (j + 2) b (by omega) hk hj
      | succ k => exact dI (j + 2) (k + 2) b (by omega) hj hk
end
theorem XK.three {N : cJ} {w0 : World} {e : Env} {R : List Piece} {H : List HP} {K : Act → World → Prop} {p q r : HP} (h : XK N w0 K e R (HP.many [p, q, r] :: H)) : XK N w0 K e R (p :: q :: r :: H) := by
 refine XK.pair ?_
 refine fun a w hr st => ?_
 refine (XK.push (ps := [p, q]) (p := r) h) a w hr (st.weak (fun _ h => h) (fun i => match i with
  | 0 => 1
  | 1 => 0
  | i + 2 => i + 2) (fun i j _ _ he => by
   match i, j with
   | 0, 0 => rfl
   | 0, 1 => simp at he
   | 0, j + 2 => simp at he
   | 1, 0 => simp at he
   | 1, 1 => rfl
   | 1, j + 2 => simp at he
   | i + 2, 0 => simp at he
   | i + 2, 1 => simp at he
   | i + 2, j + 2 => simpa using he) (fun i p hi => by
   match i, hi with
   | 0, hi => simpa using hi
   | 1, hi => simpa using hi
   | i + 2, hi => simpa using hi))
end
section
set_option maxHeartbeats 4000000
set_option maxRecDepth 20000
theorem XK.four {N : cJ} {w0 : World} {e : Env} {R : List Piece} {H : List HP} {K : Act → World → Prop} {p q r s : HP} (h : XK N w0 K e R (HP.many [p, q, r, s] :: H)) : XK N w0 K e R (p :: q :: r :: s :: H) := by
 refine XK.pair ?_
 refine fun a w hr st => ?_
 have swap : ∀ {x y : HP} {H : List HP} {w : World}, St w0 R (x :: y :: H) w → St w0 R (y :: x :: H) w := fun st => st.weak (fun _ h => h) (fun i => match i with
  | 0 => 1
  | 1 => 0
  | i + 2 => i + 2) (fun i j _ _ he => by
   match i, j with
   | 0, 0 => rfl
   | 0, 1 => simp at he
   | 0, j + 2 => simp at he
   | 1, 0 => simp at he
   | 1, 1 => rfl
   | 1, j + 2 => simp at he
   | i + 2, 0 => simp at he
   | i + 2, 1 => simp at he
   | i + 2, j + 2 => simpa using he) (fun i p hi => by
   match i, hi with
   | 0, hi => simpa using hi
   | 1, hi => simpa using hi
   | i + 2, hi => simpa using hi)
 refine (XK.push (ps := [p, q]) (p := r) (H := s :: H) (fun a w hr st => ?_)) a w hr (swap st)
 exact (XK.push (ps := [p, q, r]) (p := s) h) a w hr (swap st)
def aBi (d : bN) (v : Value) (hs : List HP) (_ : Piece) : Prop := ∃ L : FL, v = .tuple #[.pointer (some ⟨L.f, 0, none⟩), .int .i64 0] ∧ hs = [dK L d (uZ d)]
theorem uO (l : List Rg) : List.replicate l.length (Value.int .u32 0) = iY (l.map fun _ => 0) := by
 refine List.ext_getElem? fun j => ?_
 simp only [iY, List.map_map, List.getElem?_replicate, List.getElem?_map]
 by_cases h : j < l.length
 ·rw [if_pos h, List.getElem?_eq_getElem h]; rfl
 ·rw [if_neg h, List.getElem?_eq_none (by omega)]; rfl
theorem aCG (d : bN) (hrl : d.aQ.length ≤ 8) (cM : ∀ r ∈ d.aQ, 0 ≤ r.reset ∧ r.reset < 4294967296) (A : Option Addr) (c : Nat) (w : World) (hs : aI (all w) 2 A d.aQ.length (d.aQ.flatMap Rg.cells)) :
  Calls Tryz.prog 63 #[.slice A d.aQ.length c] w (fun y w' => (∃ v hs q, y = .returned v ∧ q.w = w' ∧ aBi d v hs q ∧ jN w hs q) ∧ Below w.heap.size w w') := by
 refine XK.enter (vs := [.slice A d.aQ.length c]) Tryz.func63 rfl Tryz.ntmps63 (by simp) ?_
 refine XK.seq ?_
 refine XK.region ?_
 refine bI ?_
 refine bI ?_
 refine XK.aA ?_
 refine XK.seq ?_
 refine XK.seq ?_
 refine XK.region ?_
 refine bI ?_
 refine bI ?_
 refine bI ?_
 refine XK.aA ?_
 refine XK.if_ rfl (fun h => absurd h (by omega)) (fun _ => ?_)
 refine XK.skip ?_
 refine XK.norm ?_
 refine XK.cut (fun e R H => ∃ B j gn gs g3, e = [(4, .pointer (some ⟨g3, 0, none⟩))] ∧ R = [all w] ∧ H = [HP.aE g3 240 [.slice B d.aQ.length j, .slice (some ⟨gn, 0, none⟩) d.aQ.length d.aQ.length, .slice (some ⟨gs, 0, none⟩) d.aQ.length d.aQ.length, .bool false], HP.aE gn 44 (iY (d.aQ.map fun _ => 0)), HP.aE gs 44 (iY (d.aQ.map fun _ => 0)), HP.own 92 2 (.slice B d.aQ.length j) d.aQ.length (d.aQ.flatMap Rg.cells)]) ?_ ?_
 ·refine XK.draw 8 (by kernel_rfl) (by kernel_rfl) ?_
  refine XA.q 0 ?_
  refine XA.q 2 ?_
  refine XA.q 3 ?_
  refine XA.q 5 ?_
  refine XA.q 6 ?_
  refine XA.three 1 4 7 rfl rfl rfl (by kernel_rfl) ?_ ?_ ?_
  ·skip
   refine dU (f := 141) (fi := []) (ca := []) (by kernel_rfl) rfl rfl (by decide) (Dl d.aQ.length (d.aQ.flatMap Rg.cells)) (fun w1 st => Hj A _ c _ w1 (hs.le (st.le (by simp))) Bp (by omega)) ?_
   rintro _ _ q ⟨B, j, rfl, rfl⟩ _
   dsimp only [List.cons_append, List.nil_append]
   refine XA.bk ?_ (hS := (fun _ h => h.aP.tail))
   refine XA.either 4 7 rfl rfl (by kernel_rfl) ?_ ?_
   ·skip
    refine jQ (n := d.aQ.length) 4 (el := 44) (z := .int .u32 0) (by kernel_rfl) (by kernel_rfl) rfl rfl rfl (by omega) (by omega) (by decide) fun gn => ?_
    rw [uO d.aQ]
    refine XA.bk ?_ (hS := (fun _ h => h.tail.aP.tail))
    refine XA.next 7 rfl (by kernel_rfl) ?_
    refine jQ (n := d.aQ.length) 4 (el := 44) (z := .int .u32 0) (by kernel_rfl) (by kernel_rfl) rfl rfl rfl (by omega) (by omega) (by decide) fun gs => ?_
    rw [uO d.aQ]
    refine XA.bk ?_ (hS := (fun _ h => h.tail.tail.aP.tail))
    refine XA.next 8 rfl (by kernel_rfl) ?_
    refine dJ (zs := [.slice none 0 0, .slice none 0 0, .slice none 0 0, .bool false]) (L := [(0, 1), (1, 1), (2, 1), (3, 1)]) (aM (by kernel_rfl)) (by kernel_rfl) rfl (by simp [aS, aT, Value.cells]; rfl) (by decide) ?_
    refine XA.bt ?_
    refine XA.next 9 rfl (by kernel_rfl) ?_
    refine bY rfl (by decide) fun g3 => ?_
    dsimp only [Value.cells]
    refine XA.bt ?_
    refine XA.next 10 rfl (by kernel_rfl) ?_
    refine bI ?_
    refine XA.bt ?_
    refine XA.done (by kernel_rfl) ?_
    refine XK.norm ?_
    exact XK.weak [0, 2, 1, 3] rfl (by decide) (by simp) (XK.aL [(4, .pointer (some ⟨g3, 0, none⟩))] (XK.meet ⟨B, j, gn, gs, g3, rfl, rfl, rfl⟩))
   ·skip
    refine jQ (n := d.aQ.length) 4 (el := 44) (z := .int .u32 0) (by kernel_rfl) (by kernel_rfl) rfl rfl rfl (by omega) (by omega) (by decide) fun gs => ?_
    rw [uO d.aQ]
    refine XA.bk ?_ (hS := (fun _ h => h.tail.aP.tail))
    refine XA.next 4 rfl (by kernel_rfl) ?_
    refine jQ (n := d.aQ.length) 4 (el := 44) (z := .int .u32 0) (by kernel_rfl) (by kernel_rfl) rfl rfl rfl (by omega) (by omega) (by decide) fun gn => ?_
    rw [uO d.aQ]
    refine XA.bk ?_ (hS := (fun _ h => h.tail.tail.aP.tail))
    refine XA.next 8 rfl (by kernel_rfl) ?_
    refine dJ (zs := [.slice none 0 0, .slice none 0 0, .slice none 0 0, .bool false]) (L := [(0, 1), (1, 1), (2, 1), (3, 1)]) (aM (by kernel_rfl)) (by kernel_rfl) rfl (by simp [aS, aT, Value.cells]; rfl) (by decide) ?_
    refine XA.bt ?_
    refine XA.next 9 rfl (by kernel_rfl) ?_
    refine bY rfl (by decide) fun g3 => ?_
    dsimp only [Value.cells]
    refine XA.bt ?_
    refine XA.next 10 rfl (by kernel_rfl) ?_
    refine bI ?_
    refine XA.bt ?_
    refine XA.done (by kernel_rfl) ?_
    refine XK.norm ?_
    exact XK.weak [0, 1, 2, 3] rfl (by decide) (by simp) (XK.aL [(4, .pointer (some ⟨g3, 0, none⟩))] (XK.meet ⟨B, j, gn, gs, g3, rfl, rfl, rfl⟩))
  ·skip
   refine jQ (n := d.aQ.length) 4 (el := 44) (z := .int .u32 0) (by kernel_rfl) (by kernel_rfl) rfl rfl rfl (by omega) (by omega) (by decide) fun gn => ?_
   rw [uO d.aQ]
   refine XA.bk ?_ (hS := (fun _ h => h.tail))
   refine XA.either 1 7 rfl rfl (by kernel_rfl) ?_ ?_
   ·skip
    refine dU (f := 141) (fi := []) (ca := []) (by kernel_rfl) rfl rfl (by decide) (Dl d.aQ.length (d.aQ.flatMap Rg.cells)) (fun w1 st => Hj A _ c _ w1 (hs.le (st.le (by simp))) Bp (by omega)) ?_
    rintro _ _ q ⟨B, j, rfl, rfl⟩ _
    dsimp only [List.cons_append, List.nil_append]
    refine XA.bk ?_ (hS := (fun _ h => h.aP.tail.tail))
    refine XA.next 7 rfl (by kernel_rfl) ?_
    refine jQ (n := d.aQ.length) 4 (el := 44) (z := .int .u32 0) (by kernel_rfl) (by kernel_rfl) rfl rfl rfl (by omega) (by omega) (by decide) fun gs => ?_
    rw [uO d.aQ]
    refine XA.bk ?_ (hS := (fun _ h => h.tail.aP.tail.tail))
    refine XA.next 8 rfl (by kernel_rfl) ?_
    refine dJ (zs := [.slice none 0 0, .slice none 0 0, .slice none 0 0, .bool false]) (L := [(0, 1), (1, 1), (2, 1), (3, 1)]) (aM (by kernel_rfl)) (by kernel_rfl) rfl (by simp [aS, aT, Value.cells]; rfl) (by decide) ?_
    refine XA.bt ?_
    refine XA.next 9 rfl (by kernel_rfl) ?_
    refine bY rfl (by decide) fun g3 => ?_
    dsimp only [Value.cells]
    refine XA.bt ?_
    refine XA.next 10 rfl (by kernel_rfl) ?_
    refine bI ?_
    refine XA.bt ?_
    refine XA.done (by kernel_rfl) ?_
    refine XK.norm ?_
    exact XK.weak [0, 3, 1, 2] rfl (by decide) (by simp) (XK.aL [(4, .pointer (some ⟨g3, 0, none⟩))] (XK.meet ⟨B, j, gn, gs, g3, rfl, rfl, rfl⟩))
   ·skip
    refine jQ (n := d.aQ.length) 4 (el := 44) (z := .int .u32 0) (by kernel_rfl) (by kernel_rfl) rfl rfl rfl (by omega) (by omega) (by decide) fun gs => ?_
    rw [uO d.aQ]
    refine XA.bk ?_ (hS := (fun _ h => h.tail.tail))
    refine XA.next 1 rfl (by kernel_rfl) ?_
    refine dU (f := 141) (fi := []) (ca := []) (by kernel_rfl) rfl rfl (by decide) (Dl d.aQ.length (d.aQ.flatMap Rg.cells)) (fun w1 st => Hj A _ c _ w1 (hs.le (st.le (by simp))) Bp (by omega)) ?_
    rintro _ _ q ⟨B, j, rfl, rfl⟩ _
    dsimp only [List.cons_append, List.nil_append]
    refine XA.bk ?_ (hS := (fun _ h => h.aP.tail.tail.tail))
    refine XA.next 8 rfl (by kernel_rfl) ?_
    refine dJ (zs := [.slice none 0 0, .slice none 0 0, .slice none 0 0, .bool false]) (L := [(0, 1), (1, 1), (2, 1), (3, 1)]) (aM (by kernel_rfl)) (by kernel_rfl) rfl (by simp [aS, aT, Value.cells]; rfl) (by decide) ?_
    refine XA.bt ?_
    refine XA.next 9 rfl (by kernel_rfl) ?_
    refine bY rfl (by decide) fun g3 => ?_
    dsimp only [Value.cells]
    refine XA.bt ?_
    refine XA.next 10 rfl (by kernel_rfl) ?_
    refine bI ?_
    refine XA.bt ?_
    refine XA.done (by kernel_rfl) ?_
    refine XK.norm ?_
    exact XK.weak [0, 3, 2, 1] rfl (by decide) (by simp) (XK.aL [(4, .pointer (some ⟨g3, 0, none⟩))] (XK.meet ⟨B, j, gn, gs, g3, rfl, rfl, rfl⟩))
  ·skip
   refine jQ (n := d.aQ.length) 4 (el := 44) (z := .int .u32 0) (by kernel_rfl) (by kernel_rfl) rfl rfl rfl (by omega) (by omega) (by decide) fun gs => ?_
   rw [uO d.aQ]
   refine XA.bk ?_ (hS := (fun _ h => h.tail))
   refine XA.either 1 4 rfl rfl (by kernel_rfl) ?_ ?_
   ·skip
    refine dU (f := 141) (fi := []) (ca := []) (by kernel_rfl) rfl rfl (by decide) (Dl d.aQ.length (d.aQ.flatMap Rg.cells)) (fun w1 st => Hj A _ c _ w1 (hs.le (st.le (by simp))) Bp (by omega)) ?_
    rintro _ _ q ⟨B, j, rfl, rfl⟩ _
    dsimp only [List.cons_append, List.nil_append]
    refine XA.bk ?_ (hS := (fun _ h => h.aP.tail.tail))
    refine XA.next 4 rfl (by kernel_rfl) ?_
    refine jQ (n := d.aQ.length) 4 (el := 44) (z := .int .u32 0) (by kernel_rfl) (by kernel_rfl) rfl rfl rfl (by omega) (by omega) (by decide) fun gn => ?_
    rw [uO d.aQ]
    refine XA.bk ?_ (hS := (fun _ h => h.tail.aP.tail.tail))
    refine XA.next 8 rfl (by kernel_rfl) ?_
    refine dJ (zs := [.slice none 0 0, .slice none 0 0, .slice none 0 0, .bool false]) (L := [(0, 1), (1, 1), (2, 1), (3, 1)]) (aM (by kernel_rfl)) (by kernel_rfl) rfl (by simp [aS, aT, Value.cells]; rfl) (by decide) ?_
    refine XA.bt ?_
    refine XA.next 9 rfl (by kernel_rfl) ?_
    refine bY rfl (by decide) fun g3 => ?_
    dsimp only [Value.cells]
    refine XA.bt ?_
    refine XA.next 10 rfl (by kernel_rfl) ?_
    refine bI ?_
    refine XA.bt ?_
    refine XA.done (by kernel_rfl) ?_
    refine XK.norm ?_
    exact XK.weak [0, 1, 3, 2] rfl (by decide) (by simp) (XK.aL [(4, .pointer (some ⟨g3, 0, none⟩))] (XK.meet ⟨B, j, gn, gs, g3, rfl, rfl, rfl⟩))
   ·skip
    refine jQ (n := d.aQ.length) 4 (el := 44) (z := .int .u32 0) (by kernel_rfl) (by kernel_rfl) rfl rfl rfl (by omega) (by omega) (by decide) fun gn => ?_
    rw [uO d.aQ]
    refine XA.bk ?_ (hS := (fun _ h => h.tail.tail))
    refine XA.next 1 rfl (by kernel_rfl) ?_
    refine dU (f := 141) (fi := []) (ca := []) (by kernel_rfl) rfl rfl (by decide) (Dl d.aQ.length (d.aQ.flatMap Rg.cells)) (fun w1 st => Hj A _ c _ w1 (hs.le (st.le (by simp))) Bp (by omega)) ?_
    rintro _ _ q ⟨B, j, rfl, rfl⟩ _
    dsimp only [List.cons_append, List.nil_append]
    refine XA.bk ?_ (hS := (fun _ h => h.aP.tail.tail.tail))
    refine XA.next 8 rfl (by kernel_rfl) ?_
    refine dJ (zs := [.slice none 0 0, .slice none 0 0, .slice none 0 0, .bool false]) (L := [(0, 1), (1, 1), (2, 1), (3, 1)]) (aM (by kernel_rfl)) (by kernel_rfl) rfl (by simp [aS, aT, Value.cells]; rfl) (by decide) ?_
    refine XA.bt ?_
    refine XA.next 9 rfl (by kernel_rfl) ?_
    refine bY rfl (by decide) fun g3 => ?_
    dsimp only [Value.cells]
    refine XA.bt ?_
    refine XA.next 10 rfl (by kernel_rfl) ?_
    refine bI ?_
    refine XA.bt ?_
    refine XA.done (by kernel_rfl) ?_
    refine XK.norm ?_
    exact XK.weak [0, 2, 3, 1] rfl (by decide) (by simp) (XK.aL [(4, .pointer (some ⟨g3, 0, none⟩))] (XK.meet ⟨B, j, gn, gs, g3, rfl, rfl, rfl⟩))
 rintro _ _ _ ⟨B, j, gn, gs, g3, rfl, rfl, rfl⟩
 refine XK.rS 3 (Φ := nC d B) (hm := nC.le (d := d) (A := B)) rfl (fun p h => h) ?_
 dsimp only [List.set]
 refine XK.four ?_
 refine XK.go ?_
 refine iL 0 (dK ⟨g3, gn, gs, B, j⟩ d (Ho d ⟨d.aQ.map fun _ => 0, d.aQ.map fun _ => 0, false⟩)) (fun w1 G t hG qY hle => Oi ⟨g3, gn, gs, B, j⟩ d ⟨d.aQ.map fun _ => 0, d.aQ.map fun _ => 0, false⟩ (by omega) ⟨by simp, by simp, fun v hv => by
  obtain ⟨r, hr, rfl⟩ := List.mem_map.1 hv
  decide, fun v hv => by
  obtain ⟨r, hr, rfl⟩ := List.mem_map.1 hv
  decide⟩ w1 G hG qY) ?_
 dsimp only [List.set]
 refine XK.go ?_
 refine XK.still [] [] [0] (by simp) rfl (by decide) (by decide) fun q _ _ hfr => ?_
 exact XK.fQ rfl rfl rfl fun w1 t => ⟨⟨_, _, ⟨w1, q.Z⟩, rfl, rfl, ⟨⟨g3, gn, gs, B, j⟩, rfl, rfl⟩, t.newR (by simp) (by simp) (hfr (by simp) (by simp))⟩, t.below (by simp)⟩
theorem aCS (w : World) :
  Calls Tryz.prog 65 #[] w (fun y w' => (∃ v hs q, y = .returned v ∧ q.w = w' ∧ (∃ g, v = .pointer (some ⟨g, 0, none⟩) ∧ hs = [HP.aE g 242 [.int .i64 0, .int .i64 0]]) ∧ jN w hs q) ∧ Below w.heap.size w w') := by
 refine XK.enter (vs := []) Tryz.func65 rfl Tryz.ntmps65 (by simp) ?_
 refine XK.go ?_
 refine dJ (zs := [.int .i64 0, .int .i64 0]) (L := [(0, 1), (1, 1)]) (aM (by kernel_rfl)) (by kernel_rfl) rfl (by simp [aS, aT, Value.cells]; rfl) (by decide) ?_
 refine bY rfl (by decide) fun g => ?_
 dsimp only [Value.cells]
 refine XK.go ?_
 refine XK.still [] [] [0] (by simp) rfl (by decide) (by decide) fun q _ _ hfr => ?_
 exact XK.aK rfl rfl fun w1 t => ⟨⟨_, _, ⟨w1, q.Z⟩, rfl, rfl, ⟨g, rfl, rfl⟩, t.newR (by simp) (by simp) (hfr (by simp) (by simp))⟩, t.below (by simp)⟩
end
section
set_option maxHeartbeats 4000000
set_option maxRecDepth 20000
def Ih (x : dP) : List Value := [.int .i64 x.at_, .int .i64 x.denied]
def qJ (g : Nat) (x : dP) : HP := HP.aE g 242 (Ih x)
def Dg (w : World) : Prop := ∀ i v, [(114 : Int), 97, 115, 100][i]? = some v → eK w 0 i (.int .u8 v)
theorem Dg.below {w w' : World} (h : Dg w) (hb : Below w.heap.size w w') : Dg w' := fun i v hv =>
 ⟨Nat.lt_of_lt_of_le (h i v hv).1 hb.size, (hb.cell (p := ⟨0, i, none⟩) (h i v hv).1).trans (h i v hv).2⟩
theorem aCU (g : Nat) (x : dP) (hx : wT x) (w : World) (hL : Dg w) (hR : cX w g 0 (Ih x)) :
  Calls Tryz.prog 93 #[.pointer (some ⟨g, 0, none⟩)] w (Rt (.int .u8 (vS x.at_)) w) := by
 have k0 := hR.at_ (j := 0) rfl
 obtain ⟨h1, h2⟩ := hx
 obtain ⟨i, hi⟩ : ∃ i : Nat, x.at_ = i := ⟨x.at_.toNat, by omega⟩
 have hv : [(114 : Int), 97, 115, 100][i]? = some (vS x.at_) := by
  have : i = 0 ∨ i = 1 ∨ i = 2 ∨ i = 3 := by omega
  rcases this with rfl | rfl | rfl | rfl <;> rw [hi] <;> rfl
 have k1 := hL i _ hv
 have hlt : i < 4 := by omega
 rw [hi] at k0 k1 ⊢
 refine XK.enter (vs := [.pointer (some ⟨g, 0, none⟩)]) Tryz.func93 rfl Tryz.ntmps93 (by simp) ?_
 refine XK.go ?_
 refine kd (eW i i) ?_
 refine XK.go ?_
 exact XK.bP (by simp) rfl
section
variable {g : Nat} {x : dP} {w : World} {F : Nat → Prop}
theorem aCV (hp : (qJ g x).sat F w) (hF : ∀ b, F b → b < w.heap.size) :
  Calls Tryz.prog 245 #[.pointer (some ⟨g, 0, none⟩)] w (fun y w' => y = .returned (.int .i64 (lZ x).1) ∧ ∃ F', (qJ g (lZ x).2).sat F' w' ∧ bX w w' F F') := by
 refine XK.dY (p := qJ g x) (F := F) (vs := [.pointer (some ⟨g, 0, none⟩)]) Tryz.func245 rfl Tryz.ntmps245 (by simp) hp hF ?_
 dsimp only [qJ, Ih]
 refine XK.go ?_
 refine bO (t := 11) rfl (fun h2 => ?_) (fun h2 => ?_)
 ·refine XK.go ?_
  refine XK.if_ rfl (fun h => ?_) (fun h => ?_)
  ·have hr : lZ x = (6, x) := if_pos ⟨by simpa using h2, by simpa using h⟩
   rw [hr]
   refine XK.go ?_
   exact XK.aK rfl rfl fun w1 t => ⟨rfl, t.turns hF (by simp) (i := 0) rfl⟩
  ·have hr : lZ x = (0, ⟨0, x.denied⟩) := if_neg fun h3 => h3.2 (by simpa using h)
   rw [hr]
   refine XK.go ?_
   exact XK.aK rfl rfl fun w1 t => ⟨rfl, t.turns hF (by simp) (i := 0) rfl⟩
 ·have hr : lZ x = (0, ⟨0, x.denied⟩) := if_neg fun h3 => h3.1 (by simpa using h2)
  rw [hr]
  refine XK.go ?_
  exact XK.aK rfl rfl fun w1 t => ⟨rfl, t.turns hF (by simp) (i := 0) rfl⟩
theorem aCT (yC dN : Bool) (hp : (qJ g x).sat F w) (hF : ∀ b, F b → b < w.heap.size) :
  Calls Tryz.prog 81 #[.pointer (some ⟨g, 0, none⟩), .bool yC, .bool dN] w (fun y w' => y = .returned (.tuple #[]) ∧ ∃ F', (qJ g (nI x yC dN)).sat F' w' ∧ bX w w' F F') := by
 refine XK.dY (p := qJ g x) (F := F) (vs := [.pointer (some ⟨g, 0, none⟩), .bool yC, .bool dN]) Tryz.func81 rfl Tryz.ntmps81 (by simp) hp hF ?_
 dsimp only [qJ, Ih]
 refine XK.go ?_
 refine XK.if_ rfl (fun h => ?_) (fun h => ?_)
 ·have hr : nI x yC dN = x := if_pos (by simpa using h)
  rw [hr]
  refine XK.go ?_
  exact XK.kI (.inl rfl) rfl fun w1 t => ⟨rfl, t.turns hF (by simp) (i := 0) rfl⟩
 ·have h1 : ¬ x.at_ ≠ 1 := by simpa using h
  cases dN
  ·cases yC
   ·have hr : nI x false false = ⟨2, 0⟩ := (if_neg h1).trans ((if_neg (by decide)).trans (if_neg (by decide)))
    rw [hr]
    refine XK.go ?_
    exact XK.kI (.inr rfl) rfl fun w1 t => ⟨rfl, t.turns hF (by simp) (i := 0) rfl⟩
   ·have hr : nI x true false = x := (if_neg h1).trans ((if_neg (by decide)).trans (if_pos rfl))
    rw [hr]
    refine XK.go ?_
    exact XK.kI (.inr rfl) rfl fun w1 t => ⟨rfl, t.turns hF (by simp) (i := 0) rfl⟩
  ·have hr : nI x yC true = ⟨3, IntKind.i64.wrap (x.denied + 1)⟩ := (if_neg h1).trans (if_pos rfl)
   rw [hr]
   refine XK.go ?_
   refine dD rfl rfl rfl (by decide) ?_
   refine XK.go ?_
   exact XK.kI (.inr rfl) rfl fun w1 t => ⟨rfl, t.turns hF (by simp) (i := 0) rfl⟩
end
end
section
set_option maxHeartbeats 4000000
set_option maxRecDepth 20000
structure TL where
 t : Nat
 A : Option Addr
 c : Nat
 fa : List (Option Addr × Nat)
def lX (c : cZ) (a : Option Addr × Nat) (x : cR) : List Value := [.int .u8 c.kind, .slice a.1 c.src.length a.2, .int .u64 c.rate, .int .i64 c.mul, .int .i64 c.div, .int .i64 c.lock, .bool x.on, .int .i64 x.left, .int .i64 0, .int .i64 0, .int .i64 (Td c)]
def fK (s : aD) (fa : List (Option Addr × Nat)) (st : List cR) : List (List Value) := List.zipWith (fun c p => lX c p.1 p.2) s.aB (fa.zip st)
structure qI (w : World) (L : TL) (s : aD) (st : List cR) : Prop where
 r0 : eK w L.t 0 (.slice L.A s.aB.length L.c)
 row : aI (all w) 11 L.A s.aB.length (fK s L.fa st).flatten
 mG : ∀ (i : Nat) (c : cZ) (a : Option Addr × Nat), s.aB[i]? = some c → L.fa[i]? = some a → aI (all w) 1 a.1 c.src.length (aR c.src)
 fl : L.fa.length = s.aB.length
 ok : lB s st
theorem qI.below {w w' : World} {L : TL} {s : aD} {st : List cR} (h : qI w L s st) (hb : Below w.heap.size w w') : qI w' L s st :=
 ⟨⟨Nat.lt_of_lt_of_le h.r0.1 hb.size, (hb.cell (p := ⟨_, 0, none⟩) h.r0.1).trans h.r0.2⟩, h.row.le (fF hb), fun i c a hc ha => (h.mG i c a hc ha).le (fF hb), h.fl, h.ok⟩
theorem qI.node {w : World} {L : TL} {s : aD} {st : List cR} (h : qI w L s st) {i : Nat} (hi : i < s.aB.length) :
  ∃ b off c a x, s.aB[i]? = some c ∧ st[i]? = some x ∧ L.A = some ⟨b, off, none⟩ ∧ cX w b (off + i * 11) (lX c a x) ∧ aI (all w) 1 a.1 c.src.length (aR c.src) := by
 obtain ⟨c, hc⟩ := get_some hi
 obtain ⟨a, ha⟩ := get_some (l := L.fa) (i := i) (by rw [h.fl]; exact hi)
 obtain ⟨x, hx⟩ := get_some (l := st) (i := i) (by rw [h.ok.len]; exact hi)
 have hr : (fK s L.fa st)[i]? = some (lX c a x) := by
  rw [fK, List.getElem?_zipWith, hc, (List.getElem?_zip_eq_some (z := (a, x))).2 ⟨ha, hx⟩]
 obtain ⟨b, off, hA, hro⟩ := aI.row h.row (fun r hr => by
  obtain ⟨j, hj⟩ := List.getElem?_of_mem hr
  rw [fK, List.getElem?_zipWith] at hj
  split at hj <;> cases hj
  rfl) hr hi
 exact ⟨b, off, c, a, x, hc, hx, hA, hro, h.mG i c a hc ha⟩
def nE (s : aD) (fa : List (Option Addr × Nat)) (p : Piece) : Prop := ∀ (i : Nat) (c : cZ) (a : Option Addr × Nat), s.aB[i]? = some c → fa[i]? = some a → aI p 1 a.1 c.src.length (aR c.src)
theorem nE.le {s : aD} {fa : List (Option Addr × Nat)} (p q : Piece) (hl : p.Le q) (h : nE s fa p) : nE s fa q := fun i c a hc ha => (h i c a hc ha).le hl
def iW (L : TL) (s : aD) (st : List cR) : HP := HP.many [HP.aE L.t 225 [.slice L.A s.aB.length L.c], HP.own 227 11 (.slice L.A s.aB.length L.c) s.aB.length (fK s L.fa st).flatten, HP.dM (nE s L.fa) (nE.le (s := s) (fa := L.fa))]
theorem iW.reads {L : TL} {s : aD} {st : List cR} {F : Nat → Prop} {w : World} (h : (iW L s st).sat F w) (hF : ∀ b, F b → b < w.heap.size) (hfl : L.fa.length = s.aB.length) (hok : lB s st) : qI w L s st := by
 obtain ⟨G, g1, g2, _⟩ := h
 have h0 := g1 0 _ rfl
 have h1 := g1 1 _ rfl
 have h2 := g1 2 _ rfl
 have hl : ∀ i b, G i b → b < w.heap.size := fun i b hb => hF b (g2 i b hb)
 obtain ⟨A', c', he, hs⟩ := aI.qS (Y := fun b => b < w.heap.size) h1 (hl 1)
 injection he with he
 subst he
 exact ⟨⟨h0.2.lt, by rw [h0.2.cell]; rfl⟩, hs, fun i c a hc ha => (h2 i c a hc ha).le (fun b hb => ⟨hl 2 b hb, rfl⟩), hfl, hok⟩
theorem aAC (t n c b off i : Nat) (w : World) (h0 : eK w t 0 (.slice (some ⟨b, off, none⟩) n c)) (hi : i < n) :
  Calls Tryz.prog 160 #[.pointer (some ⟨t, 0, none⟩), .int .i64 (i : Int)] w (Rt (.pointer (some ⟨b, off + i * 11, none⟩)) w) := by
 refine XK.enter (vs := [.pointer (some ⟨t, 0, none⟩), .int .i64 (i : Int)]) Tryz.func160 rfl Tryz.ntmps160 (by simp) ?_
 refine XK.go ?_
 refine bO (t := 11) rfl (fun h => absurd h (by omega)) (fun _ => ?_)
 refine XK.go ?_
 refine XK.if_ rfl (fun h => absurd h (by omega)) (fun _ => ?_)
 refine XK.go ?_
 refine kd (dat i (off + i * 11)) ?_
 refine XK.go ?_
 exact XK.bP (by simp) rfl
theorem aAB (t n c : Nat) (A : Option Addr) (i : Int) (w : World) (h0 : eK w t 0 (.slice A n c)) (hi : cL n i = false) :
  Calls Tryz.prog 160 #[.pointer (some ⟨t, 0, none⟩), .int .i64 i] w (Rt (.pointer none) w) := by
 have hi := of_decide_eq_false hi
 refine XK.enter (vs := [.pointer (some ⟨t, 0, none⟩), .int .i64 i]) Tryz.func160 rfl Tryz.ntmps160 (by simp) ?_
 refine XK.go ?_
 refine bO (t := 11) rfl (fun h => ?_) (fun h => ?_)
 ·refine XK.go ?_
  exact XK.bP (by simp) rfl
 ·refine XK.go ?_
  refine XK.if_ rfl (fun h => ?_) (fun h => absurd hi (by omega))
  refine XK.go ?_
  exact XK.bP (by simp) rfl
theorem Cz (L : TL) (s : aD) (st : List cR) (i f : Nat) (c : cZ) (fs : List Int) (w : World) (hR : qI w L s st) (hi : s.aB[i]? = some c) (hf : c.src = (f : Int) :: fs) :
  Calls Tryz.prog 167 #[.pointer (some ⟨L.t, 0, none⟩), .int .i64 (i : Int)] w (Rt (.int .i64 (f : Int)) w) := by
 have hlt : i < s.aB.length := (List.getElem?_eq_some_iff.1 hi).1
 obtain ⟨b, off, c', a, x, hc, hx, hA, hro, hs⟩ := hR.node hlt
 obtain rfl : c = c' := by rw [hi] at hc; exact Option.some.inj hc
 have h0 := hR.r0
 rw [hA] at h0
 have h1 := hro.at_ (j := 1) rfl
 have h8 := hro.at_ (j := 8) rfl
 rw [hf] at h1 hs
 obtain ⟨b2, o2, hA2, kR, tT⟩ := hs.2 (by simp)
 rw [hA2] at h1
 have h2 : eK w b2 o2 (.int .i64 (f : Int)) := ⟨kR, tT 0 _ rfl⟩
 refine XK.enter (vs := [.pointer (some ⟨L.t, 0, none⟩), .int .i64 (i : Int)]) Tryz.func167 rfl Tryz.ntmps167 (by simp) ?_
 refine XK.go ?_
 refine kd (dat i (off + i * 11)) ?_
 refine XK.go ?_
 refine XK.jD ?_
 refine XQ.go ?_
 refine XQ.kd (dat 0 o2 (hlt := by simp)) ?_
 refine XQ.end_ ?_
 refine XK.go ?_
 exact XK.bP (by simp) rfl
theorem aG1 (L : TL) (s : aD) (st : List cR) (hH : s.cK) (b1 b2 : Nat) : ∀ (i : Nat), i < s.aB.length → ∀ w, qI w L s st → eK w b1 0 (.pointer (some ⟨L.t, 0, none⟩)) → eK w b2 0 (.func (.func 173) #[] #[.pointer (some ⟨b1, 0, none⟩), .pointer (some ⟨b2, 0, none⟩)]) →
  Calls Tryz.prog 173 #[.int .i64 (i : Int), .pointer (some ⟨b1, 0, none⟩), .pointer (some ⟨b2, 0, none⟩)] w (Rt (.bool (runs s st i)) w) := by
 intro i
 induction i using Nat.strongRecOn with
 | _ i ih =>
  intro hlt w hR zY cV
  obtain ⟨b, off, c, a, x, hc, hx, hA, hro, hs⟩ := hR.node hlt
  have hrun := Vn hH.t.aB hc hx
  have h0 := hR.r0
  rw [hA] at h0
  have k0 := hro.at_ (j := 0) rfl
  have k6 := hro.at_ (j := 6) rfl
  have k7 := hro.at_ (j := 7) rfl
  have Cj : ∀ {w1}, Below w.heap.size w w1 → eK w1 b1 0 (.pointer (some ⟨L.t, 0, none⟩)) := fun hb => ⟨Nat.lt_of_lt_of_le zY.1 hb.size, (hb.cell (p := ⟨_, 0, none⟩) zY.1).trans zY.2⟩
  have go2 : ∀ {w1}, Below w.heap.size w w1 → eK w1 b2 0 (.func (.func 173) #[] #[.pointer (some ⟨b1, 0, none⟩), .pointer (some ⟨b2, 0, none⟩)]) := fun hb => ⟨Nat.lt_of_lt_of_le cV.1 hb.size, (hb.cell (p := ⟨_, 0, none⟩) cV.1).trans cV.2⟩
  obtain ⟨hsrc, hfit⟩ := hH.t.aB i c hc
  refine XK.enter (vs := [.int .i64 (i : Int), .pointer (some ⟨b1, 0, none⟩), .pointer (some ⟨b2, 0, none⟩)]) Tryz.func173 rfl Tryz.ntmps173 (by simp) ?_
  refine XK.go ?_
  refine kd (dat i (off + i * 11)) ?_
  rcases hfit with ⟨hk, hs0, _⟩ | hfit
  ·rw [hk] at k0
   refine XK.go ?_
   refine XK.bP (by simp) ?_
   rw [hrun, hs0]
   simp [mR, hk]
  obtain ⟨f, fs, hf⟩ : ∃ (f : Nat) (fs : List Int), c.src = (f : Int) :: fs := by
   cases hs0 : c.src with
   | nil => rw [hs0] at hfit; simp at hfit
   | cons f fs => exact ⟨f.toNat, fs, by have := (hsrc f (by rw [hs0]; simp)).1; rw [Int.toNat_of_nonneg this]⟩
  have zP : f < i := by have := (hsrc f (by rw [hf]; simp)).2; omega
  have zG : runs s st i = (mR c x && runs s st f) := by rw [hrun, hf]; rfl
  clear hrun
  rcases hfit with ⟨hk, _⟩ | ⟨hk, _⟩ | ⟨hk, _⟩ | ⟨hk, _⟩
  ·rw [hk] at k0
   cases oN : x.on
   ·rw [oN] at k6
    refine XK.go ?_
    refine XK.jD ?_
    refine XQ.end_ ?_
    refine XK.go ?_
    refine XK.bP (by simp) ?_
    rw [zG]
    simp [mR, hk, oN]
   ·rw [oN] at k6
    refine XK.go ?_
    refine XK.jD ?_
    refine XQ.go ?_
    refine XQ.split 32 rfl (fun h => ?_) (fun h => ?_)
    ·refine XQ.go ?_
     refine XQ.call (fun w1 iP => Cz L s st i f c fs w1 (hR.below (iP.below (by simp))) hc hf) ?_
     refine XQ.go ?_
     refine XQ.wP (fi := []) (vs := [.int .i64 (f : Int)]) (ca := [.pointer (some ⟨b1, 0, none⟩), .pointer (some ⟨b2, 0, none⟩)]) (fun w1 iP => ih f zP (by omega) w1 (hR.below (iP.below (by simp))) (Cj (iP.below (by simp))) (go2 (iP.below (by simp)))) ?_
     refine XQ.end_ ?_
     refine XK.go ?_
     refine XK.bP (by simp) ?_
     rw [zG]
     simp [mR, hk, oN, h]
    ·refine XQ.end_ ?_
     refine XK.go ?_
     refine XK.bP (by simp) ?_
     rw [zG]
     simp [mR, hk, oN, h]
  ·rw [hk] at k0
   refine XK.go ?_
   refine XK.jD ?_
   refine XQ.go ?_
   refine XQ.call (fun w1 iP => Cz L s st i f c fs w1 (hR.below (iP.below (by simp))) hc hf) ?_
   refine XQ.wP (fi := []) (vs := [.int .i64 (f : Int)]) (ca := [.pointer (some ⟨b1, 0, none⟩), .pointer (some ⟨b2, 0, none⟩)]) (fun w1 iP => ih f zP (by omega) w1 (hR.below (iP.below (by simp))) (Cj (iP.below (by simp))) (go2 (iP.below (by simp)))) ?_
   refine XQ.end_ ?_
   refine XK.go ?_
   refine XK.bP (by simp) ?_
   rw [zG]
   simp [mR, hk]
  ·rw [hk] at k0
   cases oN : x.on
   ·rw [oN] at k6
    refine XK.go ?_
    refine XK.jD ?_
    refine XQ.end_ ?_
    refine XK.go ?_
    refine XK.bP (by simp) ?_
    rw [zG]
    simp [mR, hk, oN]
   ·rw [oN] at k6
    refine XK.go ?_
    refine XK.jD ?_
    refine XQ.go ?_
    refine XQ.call (fun w1 iP => Cz L s st i f c fs w1 (hR.below (iP.below (by simp))) hc hf) ?_
    refine XQ.go ?_
    refine XQ.wP (fi := []) (vs := [.int .i64 (f : Int)]) (ca := [.pointer (some ⟨b1, 0, none⟩), .pointer (some ⟨b2, 0, none⟩)]) (fun w1 iP => ih f zP (by omega) w1 (hR.below (iP.below (by simp))) (Cj (iP.below (by simp))) (go2 (iP.below (by simp)))) ?_
    refine XQ.end_ ?_
    refine XK.go ?_
    refine XK.bP (by simp) ?_
    rw [zG]
    simp [mR, hk, oN]
  ·rw [hk] at k0
   refine XK.go ?_
   refine XK.jD ?_
   refine XQ.go ?_
   refine XQ.call (fun w1 iP => Cz L s st i f c fs w1 (hR.below (iP.below (by simp))) hc hf) ?_
   refine XQ.wP (fi := []) (vs := [.int .i64 (f : Int)]) (ca := [.pointer (some ⟨b1, 0, none⟩), .pointer (some ⟨b2, 0, none⟩)]) (fun w1 iP => ih f zP (by omega) w1 (hR.below (iP.below (by simp))) (Cj (iP.below (by simp))) (go2 (iP.below (by simp)))) ?_
   refine XQ.end_ ?_
   refine XK.go ?_
   refine XK.bP (by simp) ?_
   rw [zG]
   simp [mR, hk]
end
section
set_option maxHeartbeats 4000000
set_option maxRecDepth 20000
section
variable {N : cJ} {w0 w : World} {e : Env} {R : List Piece} {H : List HP} {K : Act → World → Prop} {L : TL} {s : aD} {st : List cR}
theorem St.Nt (t : St w0 R H w) (i : Nat) (hi : H[i]? = some (iW L s st)) (hfl : L.fa.length = s.aB.length) (hok : lB s st) : qI w L s st := by
 obtain ⟨F, h1, h2, _⟩ := t.chunk hi
 exact iW.reads h1 h2 hfl hok
theorem Rd.tree (i : Nat) (hi : H[i]? = some (iW L s st)) (hfl : L.fa.length = s.aB.length) (hok : lB s st) : Rd w0 R H L.t 0 (.slice L.A s.aB.length L.c) := fun w t => (t.Nt i hi hfl hok).r0.2
theorem Ou (hfl : L.fa.length = s.aB.length) (hok : lB s st) : (fK s L.fa st).length = s.aB.length ∧ ∀ r ∈ fK s L.fa st, r.length = 11 := by
 have := hok.len
 refine ⟨by simp [fK]; omega, fun r hr => ?_⟩
 obtain ⟨j, hj⟩ := List.getElem?_of_mem hr
 rw [fK, List.getElem?_zipWith] at hj
 split at hj <;> cases hj
 rfl
theorem Bu {i : Nat} {c : cZ} {a : Option Addr × Nat} {x : cR} (hc : s.aB[i]? = some c) (ha : L.fa[i]? = some a) (hx : st[i]? = some x) : (fK s L.fa st)[i]? = some (lX c a x) := by
 rw [fK, List.getElem?_zipWith, hc, (List.getElem?_zip_eq_some (z := (a, x))).2 ⟨ha, hx⟩]
theorem Wt {i : Nat} {c : cZ} {a : Option Addr × Nat} {x : cR} (hc : s.aB[i]? = some c) (ha : L.fa[i]? = some a) (hi : i < st.length) : (fK s L.fa st).set i (lX c a x) = fK s L.fa (st.set i x) := by
 refine List.ext_getElem? fun j => ?_
 rw [List.getElem?_set]
 by_cases he : i = j
 ·subst he
  rw [if_pos rfl, Bu hc ha (x := x) (by rw [List.getElem?_set_self hi])]
  rw [if_pos]
  have h1 := (List.getElem?_eq_some_iff.1 hc).1
  have h2 := (List.getElem?_eq_some_iff.1 ha).1
  simp [fK]; omega
 ·rw [if_neg he, fK, fK, List.getElem?_zipWith, List.getElem?_zipWith]
  have hz : (L.fa.zip st)[j]? = (L.fa.zip (st.set i x))[j]? := by
   rw [List.zip_eq_zipWith, List.zip_eq_zipWith, List.getElem?_zipWith, List.getElem?_zipWith, List.getElem?_set_ne he]
  rw [hz]
theorem St.aBT {g : Nat} {cs : List Value} (t : St w0 R H w) (i j : Nat) (hi : H[i]? = some (HP.aE g 227 cs)) (hj : H[j]? = some (HP.many [HP.aE L.t 225 [.slice (some ⟨g, 0, none⟩) s.aB.length L.c], HP.emp, HP.dM (nE s L.fa) (nE.le (s := s) (fa := L.fa))])) (hA : L.A = some ⟨g, 0, none⟩) (h2 : cs.take (s.aB.length * 11) = (fK s L.fa st).flatten) (hfl : L.fa.length = s.aB.length) (hok : lB s st) : qI w L s st := by
 obtain ⟨iT, gS⟩ := Ou hfl hok
 have hb := t.aE hi
 obtain ⟨F, ⟨G, g1, g2, _⟩, hlt, _⟩ := t.chunk hj
 have h0 := g1 0 _ rfl
 have aE1 := g1 2 _ rfl
 refine ⟨⟨h0.2.lt, by rw [h0.2.cell, hA]; rfl⟩, ⟨by rw [Of _ gS, iT], fun _ => ⟨g, 0, hA, hb.lt, fun k u hu => ?_⟩⟩, fun k c a hc ha => (aE1 k c a hc ha).le (fun b hbG => ⟨hlt b (g2 2 b hbG), rfl⟩), hfl, hok⟩
 rw [← h2] at hu
 rw [Nat.zero_add]
 show w.cell? _ = _
 rw [hb.cell]
 have hk : k < s.aB.length * 11 := by
  rcases Nat.lt_or_ge k (s.aB.length * 11) with h | h
  ·exact h
  ·rw [List.getElem?_eq_none (by rw [List.length_take]; omega)] at hu; cases hu
 rw [List.getElem?_take_of_lt hk] at hu
 simpa using hu
theorem XK.Wo (i : Nat) (hi : H[i]? = some (iW L s st)) (hn : 0 < s.aB.length) (h : ∀ g cs, L.A = some ⟨g, 0, none⟩ → cs.length = L.c * 11 → cs.take (s.aB.length * 11) = (fK s L.fa st).flatten → s.aB.length ≤ L.c → L.c ≤ maxLen →
  XK N w0 K e R (HP.aE g 227 cs :: H.set i (HP.many [HP.aE L.t 225 [.slice L.A s.aB.length L.c], HP.emp, HP.dM (nE s L.fa) (nE.le (s := s) (fa := L.fa))]))) : XK N w0 K e R H := by
 refine XK.take i 1 hi rfl ?_
 refine XK.Jt 0 rfl hn fun g hA => ?_
 dsimp only [List.set]
 rw [hA]
 refine XK.uP 0 rfl fun cs h1 h2 h3 h4 => ?_
 have := h g cs hA h1 h2 h3 h4
 rw [hA] at this
 exact this
theorem XK.sL (i : Nat) {g : Nat} {cs : List Value} {st' : List cR} (hA : L.A = some ⟨g, 0, none⟩) (h1 : cs.length = L.c * 11) (h2 : cs.take (s.aB.length * 11) = (fK s L.fa st').flatten) (h3 : s.aB.length ≤ L.c) (h4 : L.c ≤ maxLen)
  (hi : H[i]? = some (HP.many [HP.aE L.t 225 [.slice (some ⟨g, 0, none⟩) s.aB.length L.c], HP.emp, HP.dM (nE s L.fa) (nE.le (s := s) (fa := L.fa))]))
  (h : XK N w0 K e R (H.set i (iW L s st'))) : XK N w0 K e R (HP.aE g 227 cs :: H) := by
 refine XK.vE 0 (n := s.aB.length) (c := L.c) (sz := 11) rfl h1 h2 h3 h4 ?_
 dsimp only [List.set]
 rw [← hA] at hi ⊢
 exact XK.bF i 1 hi rfl h
end
theorem Hl (L : TL) (s : aD) (st : List cR) (hH : s.cK) (i : Int) (w : World) (hR : qI w L s st) :
  Calls Tryz.prog 91 #[.pointer (some ⟨L.t, 0, none⟩), .int .i64 i] w (Rt (.bool (lE s st i)) w) := by
 cases hi : cL s.aB.length i
 ·refine XK.enter (vs := [.pointer (some ⟨L.t, 0, none⟩), .int .i64 i]) Tryz.func91 rfl Tryz.ntmps91 (by simp) ?_
  refine XK.go ?_
  refine bY rfl (by decide) fun g1 => ?_
  refine XK.go ?_
  refine bB (fun w1 t => aAB L.t s.aB.length L.c L.A i w1 ((hR.below (t.below (by simp))).r0) hi) ?_
  refine XK.go ?_
  refine XK.bP (by simp) ?_
  simp [lE, hi]
 ·obtain ⟨n, rfl⟩ : ∃ n : Nat, i = n := ⟨i.toNat, by have := of_decide_eq_true hi; omega⟩
  have hlt : n < s.aB.length := by have := of_decide_eq_true hi; omega
  obtain ⟨b, off, c, a, x, hc, hx, hA, _⟩ := hR.node hlt
  refine XK.enter (vs := [.pointer (some ⟨L.t, 0, none⟩), .int .i64 (n : Int)]) Tryz.func91 rfl Tryz.ntmps91 (by simp) ?_
  refine XK.go ?_
  refine bY rfl (by decide) fun g1 => ?_
  refine XK.go ?_
  refine bB (fun w1 t => aAC L.t s.aB.length L.c b off n w1 (by rw [← hA]; exact (hR.below (t.below (by simp))).r0) hlt) ?_
  refine XK.go ?_
  refine cD (cs := [.nilFunc]) (aM (by kernel_rfl)) (by decide) fun g2 => ?_
  refine XK.go ?_
  refine iA (vf := []) (vc := [.pointer (some ⟨g1, 0, none⟩), .pointer (some ⟨g2, 0, none⟩)]) rfl rfl (by decide) ?_
  refine XK.go ?_
  refine Ki (fi := []) (vs := [.int .i64 (n : Int)]) (ca := [.pointer (some ⟨g1, 0, none⟩), .pointer (some ⟨g2, 0, none⟩)]) (fun w1 t => aG1 L s st hH g1 g2 n hlt w1 (hR.below (t.below (by simp))) ((t.box (i := 1) rfl).at_ (j := 0) rfl) ((t.box (i := 0) rfl).at_ (j := 0) rfl)) ?_
  refine XK.go ?_
  refine XK.bP (by simp) ?_
  simp [lE, hi]
theorem aG3 (L : TL) (s : aD) (st : List cR) (hfl : L.fa.length = s.aB.length) (hok : lB s st) (i : Int) (on : Bool) (w : World) (F : Nat → Prop) (hp : (iW L s st).sat F w) (hF : ∀ b, F b → b < w.heap.size) :
  Calls Tryz.prog 78 #[.pointer (some ⟨L.t, 0, none⟩), .int .i64 i, .bool on] w (fun y w' => y = .returned (.int .i64 (iR s st i on).1) ∧ ∃ F', (iW L s (iR s st i on).2).sat F' w' ∧ bX w w' F F') := by
 cases hi : cL s.aB.length i
 ·have hr : iR s st i on = (4, st) := by simp [iR, hi]
  rw [hr]
  refine XK.dY (p := iW L s st) (F := F) (vs := [.pointer (some ⟨L.t, 0, none⟩), .int .i64 i, .bool on]) Tryz.func78 rfl Tryz.ntmps78 (by simp) hp hF ?_
  refine XK.go ?_
  refine bB (fun w1 t => aAB L.t s.aB.length L.c L.A i w1 ((t.Nt 0 rfl hfl hok).r0) hi) ?_
  refine XK.go ?_
  exact XK.aK rfl rfl fun w1 t => ⟨rfl, t.turns hF (by simp) (i := 0) rfl⟩
 ·obtain ⟨n, rfl⟩ : ∃ n : Nat, i = n := ⟨i.toNat, by have := of_decide_eq_true hi; omega⟩
  have hlt : n < s.aB.length := by have := of_decide_eq_true hi; omega
  have hl := hok.len
  obtain ⟨c, hc⟩ := get_some hlt
  obtain ⟨a, ha⟩ := get_some (l := L.fa) (i := n) (by omega)
  obtain ⟨x, hx⟩ := get_some (l := st) (i := n) (by omega)
  obtain ⟨iT, gS⟩ := Ou hfl hok
  refine XK.dY (p := iW L s st) (F := F) (vs := [.pointer (some ⟨L.t, 0, none⟩), .int .i64 (n : Int), .bool on]) Tryz.func78 rfl Tryz.ntmps78 (by simp) hp hF ?_
  refine XK.Wo 0 rfl (by omega) fun g cs hA h1 h2 h3 h4 => ?_
  dsimp only [List.set]
  rw [hA]
  have hs := Ai h2 iT gS (Bu hc ha hx)
  have hlen : n * 11 + 11 ≤ cs.length := by omega
  refine XK.take 1 0 rfl rfl ?_
  dsimp only [List.set]
  refine XK.go ?_
  refine bB (fun w1 t => aAC L.t s.aB.length L.c g 0 n w1 ((t.box (i := 0) rfl).at_ (j := 0) rfl) hlt) ?_
  refine XK.bF 1 0 rfl rfl ?_
  dsimp only [List.set]
  rw [Nat.zero_add]
  refine XK.go ?_
  have hpq : ∀ x' : cR, (fK s L.fa st).set n (lX c a x') = fK s L.fa (st.set n x') := fun x' => Wt hc ha (by omega)
  refine bO (t := 19) rfl (fun hk => ?_) (fun hk => ?_)
  ·refine XK.go ?_
   refine XK.if_ rfl (fun hg => ?_) (fun hg => ?_)
   ·have hr : iR s st (n : Int) on = (1, st) := by simp [iR, hi, hc, hx, hk, hg]
    rw [hr]
    refine XK.go ?_
    refine XK.sL 0 hA h1 h2 h3 h4 rfl ?_
    exact XK.aK rfl rfl fun w1 t => ⟨rfl, t.turns hF (by simp) (i := 0) rfl⟩
   ·have hg : c.kind = 103 := Classical.not_not.1 hg
    have hr : iR s st (n : Int) on = (0, st.set n ⟨on, x.left⟩) := by simp [iR, hi, hc, hx, hg, Bt]
    rw [hr]
    have hs1 := hs.set 6 (.bool on) (by simp [lX]) (by omega)
    have oK := (qH.refl cs (n * 11) 11).set 6 (.bool on) (by decide)
    have eR := wG (r' := lX c a ⟨on, x.left⟩) h2 iT gS hlt (by omega) rfl hs1 oK
    rw [hpq] at eR
    refine XK.go ?_
    refine bO (t := 37) rfl (fun h => absurd h hk) (fun _ => ?_)
    refine XK.go ?_
    refine XK.sL 0 hA (by simpa using h1) eR h3 h4 rfl ?_
    exact XK.aK rfl rfl fun w1 t => ⟨rfl, t.turns hF (by simp) (i := 0) rfl⟩
  ·have hk : c.kind = 112 := Classical.not_not.1 hk
   have hs1 := hs.set 6 (.bool on) (by simp [lX]) (by omega)
   have oK := (qH.refl cs (n * 11) 11).set 6 (.bool on) (by decide)
   cases on
   ·have hr : iR s st (n : Int) false = (0, st.set n ⟨false, c.lock⟩) := by simp [iR, hi, hc, hx, hk, Bt]
    rw [hr]
    refine XK.go ?_
    refine bO (t := 37) rfl (fun _ => ?_) (fun h => absurd hk h)
    have eV := hs1.set 7 (.int .i64 c.lock) (by simp [lX]) (by simp; omega)
    have hu2 := oK.set 7 (.int .i64 c.lock) (by decide)
    have eR := wG (r' := lX c a ⟨false, c.lock⟩) h2 iT gS hlt (by omega) rfl eV hu2
    rw [hpq] at eR
    refine XK.go ?_
    refine XK.sL 0 hA (by simpa using h1) eR h3 h4 rfl ?_
    exact XK.aK rfl rfl fun w1 t => ⟨rfl, t.turns hF (by simp) (i := 0) rfl⟩
   ·have hr : iR s st (n : Int) true = (0, st.set n ⟨true, x.left⟩) := by simp [iR, hi, hc, hx, hk, Bt]
    rw [hr]
    have eR := wG (r' := lX c a ⟨true, x.left⟩) h2 iT gS hlt (by omega) rfl hs1 oK
    rw [hpq] at eR
    refine XK.go ?_
    refine bO (t := 37) rfl (fun _ => ?_) (fun h => absurd hk h)
    refine XK.go ?_
    refine XK.sL 0 hA (by simpa using h1) eR h3 h4 rfl ?_
    exact XK.aK rfl rfl fun w1 t => ⟨rfl, t.turns hF (by simp) (i := 0) rfl⟩
end
section
set_option maxHeartbeats 4000000
set_option maxRecDepth 20000
theorem aI.vM {p : Piece} {sz n : Nat} {A : Option Addr} {rows : List (List Value)} (h : aI p sz A n rows.flatten) (hl : ∀ r ∈ rows, r.length = sz) {k : Nat} {r : List Value} (hk : rows[k]? = some r) (hn : k < n) :
  ∃ b off, A = some ⟨b, off, none⟩ ∧ p.Z b ∧ ∀ j u, r[j]? = some u → p.w.cell? ⟨b, off + k * sz + j, none⟩ = some u := by
 obtain ⟨b, off, hA, hz, hc⟩ := aI.at_ h hn
 refine ⟨b, off, hA, hz, fun j u hu => hc j u ?_⟩
 have hj : j < sz := by
  rw [← hl r (List.mem_of_getElem? hk)]
  exact (List.getElem?_eq_some_iff.1 hu).1
 rw [Gu rows hl k j r hk hj, hu]
theorem aC.roP {w0 : World} {R : List Piece} {H : List HP} {p : Piece} {b o : Nat} {vs : List Value} (hp : p ∈ R) (hz : p.Z b) (h : ∀ j u, vs[j]? = some u → p.w.cell? ⟨b, o + j, none⟩ = some u) : aC w0 R H b o vs := .of fun j v hj => Rd.ro hp hz (h j v hj)
theorem Hp (s : aD) (A1 A2 A3 A4 : Option Addr) (n1 k1 n2 k2 n3 k3 n4 k4 : Nat) (w : World) (hW : eO w s A1 n1 A2 n2 A3 n3 A4 n4) (aET : Mj s = 0) :
  Calls Tryz.prog 59 #[.agg #[.slice A1 n1 k1, .slice A2 n2 k2, .slice A3 n3 k3, .slice A4 n4 k4]] w (Rt (.int .i64 0) w) := by
 have := aAE s A1 A2 A3 A4 n1 k1 n2 k2 n3 k3 n4 k4 w hW
 rw [aET] at this
 exact this
def aAU (s : aD) (v : Value) (hs : List HP) (_ : Piece) : Prop := ∃ L : TL, v = .tuple #[.pointer (some ⟨L.t, 0, none⟩), .int .i64 0] ∧ hs = [iW L s (s.aB.map rI)] ∧ L.fa.length = s.aB.length
theorem aG4 (s : aD) (hH : s.cK) (A1 A2 A3 A4 : Option Addr) (n1 k1 n2 k2 n3 k3 n4 k4 : Nat) (w : World) (hW : eO w s A1 n1 A2 n2 A3 n3 A4 n4) :
  Calls Tryz.prog 60 #[.agg #[.slice A1 n1 k1, .slice A2 n2 k2, .slice A3 n3 k3, .slice A4 n4 k4]] w (fun y w' => (∃ v hs q, y = .returned v ∧ q.w = w' ∧ aAU s v hs q ∧ jN w hs q) ∧ Below w.heap.size w w') := by
 have hnc := hH.t.nc
 have Fp : ∀ d ∈ s.aG, d.aQ.length ≤ 1000000 := fun d hd => by
  obtain ⟨i, hi⟩ := List.getElem?_of_mem hd
  have := hH.t.aG i d hi
  unfold bN.fit at this
  omega
 refine XK.enter (vs := [.agg #[.slice A1 n1 k1, .slice A2 n2 k2, .slice A3 n3 k3, .slice A4 n4 k4]]) Tryz.func60 rfl Tryz.ntmps60 (by simp) ?_
 refine XK.go ?_
 refine bY rfl (by decide) fun g1 => ?_
 dsimp only [Value.cells]
 refine XK.go ?_
 refine bB (fun w1 t => Hp s A1 A2 A3 A4 n1 k1 n2 k2 n3 k3 n4 k4 w1 (hW.le (t.started (by simp))) hH.t.Da) ?_
 refine XK.go ?_
 refine dJ (zs := [.slice none 0 0]) (L := [(0, 1)]) (aM (by kernel_rfl)) (by kernel_rfl) rfl (by simp [aS, aT, Value.cells]; rfl) (by decide) ?_
 refine bY rfl (by decide) fun g2 => ?_
 dsimp only [Value.cells]
 refine XK.go ?_
 refine jX [] (f := 67) (fi := []) (ca := []) (by kernel_rfl) rfl rfl (by decide) (by simp) (Tw s) (fun w1 t => aA8 s A1 A2 A3 A4 n1 k1 n2 k2 n3 k3 n4 k4 w1 (hW.le (t.started (by simp))) Fp) ?_
 rintro _ w1 q1 ⟨cs1, rfl, hS⟩ eR _ Rb
 have Rb := Rb (by simp)
 obtain ⟨B1, m1, j1, B2, m2, j2, B3, m3, j3, B4, m4, j4, rfl, mY⟩ := (hS.mono (fV eR)).Q
 clear eR hS
 obtain ⟨rc, hrc, Fw, hsc⟩ := mY.gX
 obtain ⟨fa, hfl, rfl, Lc⟩ := Sy hrc
 subst Fw
 obtain ⟨fD, tR⟩ := Il (f := sN) (es := s.aB) (bs := fa) (sz := 6) hfl (fun _ _ => rfl)
 have hl0 : (s.aB.map rI).length = s.aB.length := by simp
 refine kd (aA5 (off := 0) (cs := [.slice B1 s.aB.length j1, .slice B2 m2 j2, .slice B3 m3 j3, .slice B4 m4 j4]) (by kernel_rfl) rfl rfl) ?_
 refine XK.go ?_
 refine XK.kA 227 11 ?_
 refine XK.aL [(20, .int .i64 0), (19, .int .i64 s.aB.length), (18, .slice B1 s.aB.length j1), (5, .pointer (some ⟨g2, 0, none⟩))] ?_
 refine XK.loop (fun m e R H => ∃ (i : Nat) (A : Option Addr) (k : Nat), i ≤ s.aB.length ∧ m = s.aB.length - i ∧ e = [(20, .int .i64 i), (19, .int .i64 s.aB.length), (18, .slice B1 s.aB.length j1), (5, .pointer (some ⟨g2, 0, none⟩))] ∧ R = [q1, all w] ∧ H = [HP.own 227 11 (.slice A i k) i ((fK s fa (s.aB.map rI)).take i).flatten, HP.aE g2 225 [.slice A i k], HP.aE g1 29 [.slice A1 n1 k1, .slice A2 n2 k2, .slice A3 n3 k3, .slice A4 n4 k4]]) s.aB.length ⟨0, none, 0, by omega, rfl, rfl, rfl, by simp⟩ fun m e R H hI => ?_
 obtain ⟨i, A, k, hi, rfl, rfl, rfl, rfl⟩ := hI
 refine XK.go ?_
 refine XK.if_ rfl (fun hlt => ?_) (fun hge => ?_)
 ·have hlt : i < s.aB.length := by omega
  obtain ⟨c, hc⟩ := get_some hlt
  obtain ⟨a, ha⟩ := get_some (l := fa) (i := i) (by omega)
  obtain ⟨b, off, hB, hz, hcell⟩ := aI.vM hsc tR (Dp hc ha) hlt
  subst hB
  have hrow : (fK s fa (s.aB.map rI))[i]? = some (lX c a (rI c)) := Bu (L := ⟨0, none, 0, fa⟩) hc ha (by rw [List.getElem?_map, hc]; rfl)
  have nP : ((fK s fa (s.aB.map rI)).take (i + 1)).flatten = ((fK s fa (s.aB.map rI)).take i).flatten ++ lX c a (rI c) := by
   rw [List.take_succ, hrow, List.flatten_append]; simp
  have hrn : ∀ H, aC w [q1, all w] H b (off + i * 6) (sN c a) := fun H => aC.roP (by simp) hz hcell
  have aHg := hrn [HP.own 227 11 (.slice A i k) i ((fK s fa (s.aB.map rI)).take i).flatten, HP.aE g2 225 [.slice A i k], HP.aE g1 29 [.slice A1 n1 k1, .slice A2 n2 k2, .slice A3 n3 k3, .slice A4 n4 k4]]
  refine XK.go ?_
  refine kd (dat i (off + i * 6)) ?_
  refine XK.go ?_
  refine cD (cs := [.int .u8 0, .slice none 0 0, .int .u64 0, .int .i64 0, .int .i64 0, .int .i64 0]) (aM (by kernel_rfl)) (by decide) fun g3 => ?_
  obtain ⟨kd, src, rate, mul, dv, lock⟩ := c
  dsimp only [sN]
  refine XK.go ?_
  refine dJ (zs := [.int .u8 0, .slice none 0 0, .int .u64 0, .int .i64 0, .int .i64 0, .int .i64 0, .bool false, .int .i64 0, .int .i64 0, .int .i64 0, .int .i64 0]) (L := [(0, 6), (6, 1), (7, 1), (8, 1), (9, 1), (10, 1)]) (aM (by kernel_rfl)) (by kernel_rfl) rfl (by simp [aS, aT, Value.cells]; rfl) (by decide) ?_
  refine cD (cs := [.int .u8 0, .slice none 0 0, .int .u64 0, .int .i64 0, .int .i64 0, .int .i64 0, .bool false, .int .i64 0, .int .i64 0, .int .i64 0, .int .i64 0]) (aM (by kernel_rfl)) (by decide) fun g4 => ?_
  have hfit := (hH.t.aB i _ hc).2
  dsimp only at hfit
  rcases hfit with ⟨rfl, _⟩ | ⟨rfl, _⟩ | ⟨rfl, _⟩ | ⟨rfl, _⟩ | ⟨rfl, _⟩
  ·skip
   refine XK.go ?_
   refine XK.eJ [2, 3, 4, 5] ?_
   refine XB.mv 0 ?_
   refine XB.mv 1 ?_
   refine XB.q 2 ?_
   refine XB.q 3 ?_
   refine XB.q 4 ?_
   refine XB.q 5 ?_
   refine XB.next 6 rfl (by kernel_rfl) ?_
   refine eZ (el := 227) (sz := 11) (zs := [.int .u8 0, .slice none 0 0, .int .u64 0, .int .i64 0, .int .i64 0, .int .i64 0, .bool false, .int .i64 0, .int .i64 0, .int .i64 0, .int .i64 0]) (by kernel_rfl) (aM (by kernel_rfl)) (by kernel_rfl) rfl (by decide) (by decide) rfl (by simp [aS, aT, Value.cells, List.range_succ, List.set]; rfl) (by decide) fun g5 => ?_
   refine XB.bk ?_
   refine XB.next 7 rfl (by kernel_rfl) ?_
   refine fA 3 11 104 1 (el := 227) (by kernel_rfl) (by kernel_rfl) (by decide) rfl rfl rfl (jY 0 rfl rfl) (by simp [Value.oneCell']) rfl (by omega) (by omega) (by decide) fun A' k' => ?_
   dsimp only [List.set]
   refine XB.bt ?_
   refine XB.next 8 rfl (by kernel_rfl) ?_
   refine bI ?_
   refine XB.bt ?_
   refine XB.next 9 rfl (by kernel_rfl) ?_
   refine bI ?_
   refine XB.bt ?_
   refine XB.next 10 rfl (by kernel_rfl) ?_
   refine gR rfl rfl ?_
   dsimp only [List.set]
   refine XB.bt ?_
   refine XB.done (by kernel_rfl) ?_
   refine XK.go ?_
   refine XK.weak [3, 4, 5] rfl (by decide) (fun _ h => h) ?_
   refine XK.aL [(20, .int .i64 (i + 1 : Nat)), (19, .int .i64 s.aB.length), (18, .slice (some ⟨b, off, none⟩) s.aB.length j1), (5, .pointer (some ⟨g2, 0, none⟩))] ?_
   exact XK.round (s.aB.length - (i + 1)) (by omega) ⟨i + 1, A', k', hlt, rfl, rfl, rfl, by rw [nP]; rfl⟩
  ·skip
   refine XK.go ?_
   refine XK.eJ [2, 3, 4, 5] ?_
   refine XB.mv 0 ?_
   refine XB.mv 1 ?_
   refine XB.q 2 ?_
   refine XB.q 3 ?_
   refine XB.q 4 ?_
   refine XB.q 5 ?_
   refine XB.next 6 rfl (by kernel_rfl) ?_
   refine eZ (el := 227) (sz := 11) (zs := [.int .u8 0, .slice none 0 0, .int .u64 0, .int .i64 0, .int .i64 0, .int .i64 0, .bool false, .int .i64 0, .int .i64 0, .int .i64 0, .int .i64 0]) (by kernel_rfl) (aM (by kernel_rfl)) (by kernel_rfl) rfl (by decide) (by decide) rfl (by simp [aS, aT, Value.cells, List.range_succ, List.set]; rfl) (by decide) fun g5 => ?_
   refine XB.bk ?_
   refine XB.next 7 rfl (by kernel_rfl) ?_
   refine fA 3 11 104 1 (el := 227) (by kernel_rfl) (by kernel_rfl) (by decide) rfl rfl rfl (jY 0 rfl rfl) (by simp [Value.oneCell']) rfl (by omega) (by omega) (by decide) fun A' k' => ?_
   dsimp only [List.set]
   refine XB.bt ?_
   refine XB.next 8 rfl (by kernel_rfl) ?_
   refine bI ?_
   refine XB.bt ?_
   refine XB.next 9 rfl (by kernel_rfl) ?_
   refine bI ?_
   refine XB.bt ?_
   refine XB.next 10 rfl (by kernel_rfl) ?_
   refine gR rfl rfl ?_
   dsimp only [List.set]
   refine XB.bt ?_
   refine XB.done (by kernel_rfl) ?_
   refine XK.go ?_
   refine XK.weak [3, 4, 5] rfl (by decide) (fun _ h => h) ?_
   refine XK.aL [(20, .int .i64 (i + 1 : Nat)), (19, .int .i64 s.aB.length), (18, .slice (some ⟨b, off, none⟩) s.aB.length j1), (5, .pointer (some ⟨g2, 0, none⟩))] ?_
   exact XK.round (s.aB.length - (i + 1)) (by omega) ⟨i + 1, A', k', hlt, rfl, rfl, rfl, by rw [nP]; rfl⟩
  ·skip
   refine XK.go ?_
   refine XK.eJ [2, 3, 4, 5] ?_
   refine XB.mv 0 ?_
   refine XB.mv 1 ?_
   refine XB.q 2 ?_
   refine XB.q 3 ?_
   refine XB.q 4 ?_
   refine XB.q 5 ?_
   refine XB.next 6 rfl (by kernel_rfl) ?_
   refine eZ (el := 227) (sz := 11) (zs := [.int .u8 0, .slice none 0 0, .int .u64 0, .int .i64 0, .int .i64 0, .int .i64 0, .bool false, .int .i64 0, .int .i64 0, .int .i64 0, .int .i64 0]) (by kernel_rfl) (aM (by kernel_rfl)) (by kernel_rfl) rfl (by decide) (by decide) rfl (by simp [aS, aT, Value.cells, List.range_succ, List.set]; rfl) (by decide) fun g5 => ?_
   refine XB.bk ?_
   refine XB.next 7 rfl (by kernel_rfl) ?_
   refine fA 3 11 104 1 (el := 227) (by kernel_rfl) (by kernel_rfl) (by decide) rfl rfl rfl (jY 0 rfl rfl) (by simp [Value.oneCell']) rfl (by omega) (by omega) (by decide) fun A' k' => ?_
   dsimp only [List.set]
   refine XB.bt ?_
   refine XB.next 8 rfl (by kernel_rfl) ?_
   refine bI ?_
   refine XB.bt ?_
   refine XB.next 9 rfl (by kernel_rfl) ?_
   refine bI ?_
   refine XB.bt ?_
   refine XB.next 10 rfl (by kernel_rfl) ?_
   refine gR rfl rfl ?_
   dsimp only [List.set]
   refine XB.bt ?_
   refine XB.done (by kernel_rfl) ?_
   refine XK.go ?_
   refine XK.weak [3, 4, 5] rfl (by decide) (fun _ h => h) ?_
   refine XK.aL [(20, .int .i64 (i + 1 : Nat)), (19, .int .i64 s.aB.length), (18, .slice (some ⟨b, off, none⟩) s.aB.length j1), (5, .pointer (some ⟨g2, 0, none⟩))] ?_
   exact XK.round (s.aB.length - (i + 1)) (by omega) ⟨i + 1, A', k', hlt, rfl, rfl, rfl, by rw [nP]; rfl⟩
  ·skip
   refine XK.go ?_
   refine XK.eJ [2, 3, 4, 5] ?_
   refine XB.mv 0 ?_
   refine XB.mv 1 ?_
   refine XB.q 2 ?_
   refine XB.q 3 ?_
   refine XB.q 4 ?_
   refine XB.q 5 ?_
   refine XB.next 6 rfl (by kernel_rfl) ?_
   refine eZ (el := 227) (sz := 11) (zs := [.int .u8 0, .slice none 0 0, .int .u64 0, .int .i64 0, .int .i64 0, .int .i64 0, .bool false, .int .i64 0, .int .i64 0, .int .i64 0, .int .i64 0]) (by kernel_rfl) (aM (by kernel_rfl)) (by kernel_rfl) rfl (by decide) (by decide) rfl (by simp [aS, aT, Value.cells, List.range_succ, List.set]; rfl) (by decide) fun g5 => ?_
   refine XB.bk ?_
   refine XB.next 7 rfl (by kernel_rfl) ?_
   refine fA 3 11 104 1 (el := 227) (by kernel_rfl) (by kernel_rfl) (by decide) rfl rfl rfl (jY 0 rfl rfl) (by simp [Value.oneCell']) rfl (by omega) (by omega) (by decide) fun A' k' => ?_
   dsimp only [List.set]
   refine XB.bt ?_
   refine XB.next 8 rfl (by kernel_rfl) ?_
   refine bI ?_
   refine XB.bt ?_
   refine XB.next 9 rfl (by kernel_rfl) ?_
   refine bI ?_
   refine XB.bt ?_
   refine XB.next 10 rfl (by kernel_rfl) ?_
   refine gR rfl rfl ?_
   dsimp only [List.set]
   refine XB.bt ?_
   refine XB.done (by kernel_rfl) ?_
   refine XK.go ?_
   refine XK.weak [3, 4, 5] rfl (by decide) (fun _ h => h) ?_
   refine XK.aL [(20, .int .i64 (i + 1 : Nat)), (19, .int .i64 s.aB.length), (18, .slice (some ⟨b, off, none⟩) s.aB.length j1), (5, .pointer (some ⟨g2, 0, none⟩))] ?_
   exact XK.round (s.aB.length - (i + 1)) (by omega) ⟨i + 1, A', k', hlt, rfl, rfl, rfl, by rw [nP]; rfl⟩
  ·skip
   refine XK.go ?_
   refine XK.eJ [2, 3, 4, 5] ?_
   refine XB.mv 0 ?_
   refine XB.mv 1 ?_
   refine XB.q 2 ?_
   refine XB.q 3 ?_
   refine XB.q 4 ?_
   refine XB.q 5 ?_
   refine XB.next 6 rfl (by kernel_rfl) ?_
   refine eZ (el := 227) (sz := 11) (zs := [.int .u8 0, .slice none 0 0, .int .u64 0, .int .i64 0, .int .i64 0, .int .i64 0, .bool false, .int .i64 0, .int .i64 0, .int .i64 0, .int .i64 0]) (by kernel_rfl) (aM (by kernel_rfl)) (by kernel_rfl) rfl (by decide) (by decide) rfl (by simp [aS, aT, Value.cells, List.range_succ, List.set]; rfl) (by decide) fun g5 => ?_
   refine XB.bk ?_
   refine XB.next 7 rfl (by kernel_rfl) ?_
   refine fA 3 11 104 1 (el := 227) (by kernel_rfl) (by kernel_rfl) (by decide) rfl rfl rfl (jY 0 rfl rfl) (by simp [Value.oneCell']) rfl (by omega) (by omega) (by decide) fun A' k' => ?_
   dsimp only [List.set]
   refine XB.bt ?_
   refine XB.next 8 rfl (by kernel_rfl) ?_
   refine bI ?_
   refine XB.bt ?_
   refine XB.next 9 rfl (by kernel_rfl) ?_
   refine bI ?_
   refine XB.bt ?_
   refine XB.next 10 rfl (by kernel_rfl) ?_
   refine gR rfl rfl ?_
   dsimp only [List.set]
   refine XB.bt ?_
   refine XB.done (by kernel_rfl) ?_
   refine XK.go ?_
   refine XK.weak [3, 4, 5] rfl (by decide) (fun _ h => h) ?_
   refine XK.aL [(20, .int .i64 (i + 1 : Nat)), (19, .int .i64 s.aB.length), (18, .slice (some ⟨b, off, none⟩) s.aB.length j1), (5, .pointer (some ⟨g2, 0, none⟩))] ?_
   exact XK.round (s.aB.length - (i + 1)) (by omega) ⟨i + 1, A', k', hlt, rfl, rfl, rfl, by rw [nP]; rfl⟩
 ·obtain rfl : i = s.aB.length := by omega
  refine XK.go ?_
  have hfull : (fK s fa (s.aB.map rI)).take s.aB.length = fK s fa (s.aB.map rI) := List.take_of_length_le (by simp [fK]; omega)
  rw [hfull]
  refine XK.weak [1, 0] rfl (by decide) (fun _ h => h) ?_
  refine XK.Js Rb (by simp [all]) (Φ := nE s fa) (hm := nE.le (s := s) (fa := fa)) (fun i c a hc ha => Lc i c a hc ha) ?_
  refine XK.weak [1, 2, 0] rfl (by decide) (fun _ h => h) ?_
  refine XK.three ?_
  refine XK.still [] [] [0] (by simp) rfl (by decide) (by decide) fun q _ _ hfr => ?_
  exact XK.fQ rfl rfl rfl fun w1 t => ⟨⟨_, _, ⟨w1, q.Z⟩, rfl, rfl, ⟨⟨g2, A, k, fa⟩, rfl, rfl, hfl⟩, t.newR (by simp) (by simp) (hfr (by simp) (by simp))⟩, t.below (by simp)⟩
end
section
set_option maxHeartbeats 4000000
set_option maxRecDepth 20000
def fL (r : Int) (x : gM) : Value := .agg #[.int .i64 r, .int .i64 x.left, .bool x.held, .bool x.wanted]
def yY (s : aD) (st : List gM) (i : Nat) : Int × Value := ((i : Int), fL (s.aU.getD i 0) (st.getD i lJ))
def jS (s : aD) (st : List gM) : List (Int × Value) := (List.range st.length).map (yY s st)
theorem Xc (f : Nat → Value) (n : Nat) (i : Int) : jK ((List.range n).map fun j : Nat => ((j : Int), f j)) i = if cL n i then some (f i.toNat) else none := by
 induction n with
 | zero =>
  have : cL 0 i = false := decide_eq_false (by omega)
  rw [this]; rfl
 | succ n ih =>
  have h0 : jK ((List.range (n + 1)).map fun j : Nat => ((j : Int), f j)) i = (jK ((List.range n).map fun j : Nat => ((j : Int), f j)) i).or (jK [((n : Int), f n)] i) := by
   rw [List.range_succ, List.map_append]
   unfold jK
   rw [List.find?_append]
   cases List.find? (fun p => decide (p.1 = i)) ((List.range n).map fun j : Nat => ((j : Int), f j)) <;> rfl
  rw [h0, ih]
  by_cases h1 : cL n i = true
  ·have : cL (n + 1) i = true := by have := of_decide_eq_true h1; exact decide_eq_true (by omega)
   rw [if_pos h1, if_pos this]; rfl
  ·have hf : cL n i = false := by simpa using h1
   have := of_decide_eq_false hf
   rw [if_neg h1, Ex]
   by_cases h2 : (n : Int) = i
   ·subst h2
    have : cL (n + 1) (n : Int) = true := decide_eq_true (by omega)
    rw [if_pos rfl, if_pos this]; rfl
   ·have h3 : cL (n + 1) i = false := decide_eq_false (by omega)
    rw [if_neg h2, h3]; rfl
theorem aDF (f : Nat → Value) (n i : Nat) (v : Value) (hi : i < n) : kQ ((List.range n).map fun j : Nat => ((j : Int), f j)) (i : Int) v = (List.range n).map fun j : Nat => ((j : Int), if j = i then v else f j) := by
  have key : ∀ (l : List Nat), i ∈ l → l.Nodup → kQ (l.map fun j : Nat => ((j : Int), f j)) (i : Int) v = l.map fun j : Nat => ((j : Int), if j = i then v else f j) := by
    intro l
    induction l with
    | nil => intro h; simp at h
    | cons a l ih =>
      intro h hn
      rw [List.map_cons, kQ, List.map_cons]
      by_cases ha : (a : Int) = (i : Int)
      · have tW : a = i := by omega
        subst tW
        rw [if_pos rfl, if_pos rfl]
        congr 1
        refine List.map_congr_left fun j hj => ?_
        rw [if_neg (fun he : j = a => (List.nodup_cons.1 hn).1 (he ▸ hj))]
      · rw [if_neg ha, if_neg (by omega)]
        congr 1
        exact ih (by rcases List.mem_cons.1 h with h | h
                     · omega
                     · exact h) (List.nodup_cons.1 hn).2
  exact key _ (List.mem_range.2 hi) List.nodup_range
theorem Xd {s : aD} {st : List gM} (i : Int) : jK (jS s st) i = if cL st.length i then some (fL (s.aU.getD i.toNat 0) (st.getD i.toNat lJ)) else none := Xc (fun j => fL (s.aU.getD j 0) (st.getD j lJ)) st.length i
theorem Xa {s : aD} {st : List gM} {i : Nat} {x : gM} {r : Int} (hr : s.aU.getD i 0 = r) (hi : i < st.length) : kQ (jS s st) (i : Int) (fL r x) = jS s (st.set i x) := by
 have := aDF (fun j => fL (s.aU.getD j 0) (st.getD j lJ)) st.length i (fL r x) hi
 refine this.trans ?_
 unfold jS
 rw [List.length_set]
 refine List.map_congr_left fun j hj => ?_
 unfold yY
 congr 1
 by_cases he : j = i
 ·subst he
  rw [if_pos rfl, ← hr, List.getD_eq_getElem?_getD (l := st.set j x), List.getElem?_set_self hi]
  rfl
 ·rw [if_neg he, List.getD_eq_getElem?_getD (l := st.set i x), List.getElem?_set_ne (Ne.symm he), List.getD_eq_getElem?_getD (l := st)]
structure RL where
 t : Nat
 g : Nat
def jO (L : RL) (s : aD) (st : List gM) : HP := HP.many [HP.aE L.t 235 [.map (some L.g)], HP.map L.g (jS s st)]
structure yG (w : World) (L : RL) (s : aD) (st : List gM) : Prop where
 r0 : eK w L.t 0 (.map (some L.g))
 m : rL w L.g (jS s st)
theorem yG.below {w w' : World} {L : RL} {s : aD} {st : List gM} (h : yG w L s st) (hb : Below w.heap.size w w') : yG w' L s st :=
 ⟨⟨Nat.lt_of_lt_of_le h.r0.1 hb.size, (hb.cell (p := ⟨_, 0, none⟩) h.r0.1).trans h.r0.2⟩, h.m.below hb⟩
section
variable {N : cJ} {w0 w : World} {e : Env} {R : List Piece} {H : List HP} {K : Act → World → Prop} {L : RL} {s : aD} {st : List gM}
theorem jO.reads {F : Nat → Prop} (h : (jO L s st).sat F w) : yG w L s st := by
 obtain ⟨G, g1, g2, _⟩ := h
 have h0 := g1 0 _ rfl
 exact ⟨⟨h0.2.lt, by rw [h0.2.cell]; rfl⟩, (g1 1 _ rfl).2⟩
theorem St.Kc (t : St w0 R H w) (i : Nat) (hi : H[i]? = some (jO L s st)) : yG w L s st := by
 obtain ⟨F, h1, h2, _⟩ := t.chunk hi
 exact jO.reads h1
end
theorem Xl : (Tryz.prog.info? 237).bind (·.zero) = some (fL 0 ⟨0, false, false⟩) := by kernel_rfl
def sG (s : aD) (st : List gM) (i : Int) : Value := if cL st.length i then fL (s.aU.getD i.toNat 0) (st.getD i.toNat lJ) else fL 0 ⟨0, false, false⟩
theorem aF8 (s : aD) (st : List gM) (i : Int) : ∃ r x, sG s st i = fL r x := by
 unfold sG
 split
 ·exact ⟨_, _, rfl⟩
 ·exact ⟨_, _, rfl⟩
theorem Oe (L : RL) (s : aD) (st : List gM) (i : Int) (w : World) (hR : yG w L s st) :
  Calls Tryz.prog 174 #[.pointer (some ⟨L.t, 0, none⟩), .int .i64 i] w (Rt (.tuple #[sG s st i, .bool (cL st.length i)]) w) := by
 have h0 := hR.r0
 obtain ⟨r, x, hv⟩ := aF8 s st i
 have hm := Xd (s := s) (st := st) i
 have hz : (jK (jS s st) i).getD (fL 0 ⟨0, false, false⟩) = fL r x := by
  rw [hm, ← hv, sG]
  split <;> rfl
 have hb : (jK (jS s st) i).isSome = cL st.length i := by
  rw [hm]
  split
  ·rename_i h; rw [h]; rfl
  ·rename_i h; simp at h; rw [h]; rfl
 rw [hv]
 refine XK.enter (vs := [.pointer (some ⟨L.t, 0, none⟩), .int .i64 i]) Tryz.func174 rfl Tryz.ntmps174 (by simp) ?_
 refine XK.go ?_
 refine cD (cs := [.int .i64 0, .int .i64 0, .bool false, .bool false]) (aM (by kernel_rfl)) (by decide) fun g1 => ?_
 refine XK.go ?_
 refine Nb (kt := 3) (et := 237) (kd := .i64) (z := fL 0 ⟨0, false, false⟩) (l := jS s st) true (by kernel_rfl) (by kernel_rfl) Xl rfl rfl (fun w1 t => (hR.below (t.below (by simp))).m) (by decide) ?_
 simp only [if_true]
 rw [hz, hb]
 refine XK.go ?_
 refine cD (cs := [.int .i64 0, .int .i64 0, .bool false, .bool false]) (aM (by kernel_rfl)) (by decide) fun g2 => ?_
 unfold fL
 refine XK.go ?_
 exact XK.Em rfl (by kernel_rfl) rfl rfl (by first | assumption | exact aC.whole 0 rfl | exact aC.whole 1 rfl | exact aC.whole 2 rfl | exact aC.whole 3 rfl | exact aC.whole 4 rfl | exact aC.whole 5 rfl | exact aC.whole 6 rfl | exact aC.whole 7 rfl | exact aC.whole 8 rfl | exact aC.eM (by simp) (by assumption)) rfl fun w1 t => ⟨rfl, t.below (by simp)⟩
theorem Vs (L : RL) (s : aD) (st : List gM) (i : Int) (w : World) (hR : yG w L s st) :
  Calls Tryz.prog 92 #[.pointer (some ⟨L.t, 0, none⟩), .int .i64 i] w (Rt (.bool (sE st i)) w) := by
 refine XK.enter (vs := [.pointer (some ⟨L.t, 0, none⟩), .int .i64 i]) Tryz.func92 rfl Tryz.ntmps92 (by simp) ?_
 refine XK.go ?_
 refine bB (fun w1 t => Oe L s st i w1 (hR.below (t.below (by simp)))) ?_
 refine XK.go ?_
 refine cD (cs := [.int .i64 0, .int .i64 0, .bool false, .bool false]) (aM (by kernel_rfl)) (by decide) fun g2 => ?_
 cases hi : cL st.length i
 ·have hv : sG s st i = fL 0 ⟨0, false, false⟩ := by simp [sG, hi]
  rw [hv]
  unfold fL
  refine XK.go ?_
  refine XK.bP (by simp) ?_
  simp [sE, hi]
 ·have hv : sG s st i = fL (s.aU.getD i.toNat 0) (st.getD i.toNat lJ) := by simp [sG, hi]
  rw [hv]
  unfold fL
  refine XK.go ?_
  refine XK.bP (by simp) ?_
  have : i.toNat < st.length := by have := of_decide_eq_true hi; omega
  simp [sE, hi, List.getElem?_eq_getElem this]
end
section
set_option maxHeartbeats 4000000
set_option maxRecDepth 20000
theorem aA2 : ∀ {cl : List Dom} {rs : List (List Value)}, Rows sV 3 cl rs → rs = cl.map fun d => [.int .i64 d.above, .int .i64 d.delay, .bool d.ret]
 | [], [], _ => rfl
 | e :: es, r :: rs, h => by
  have h1 : r = [.int .i64 e.above, .int .i64 e.delay, .bool e.ret] := h.2.1
  rw [h1, aA2 h.2.2]
  rfl
theorem Vr : ∀ {cl : List Int} {rs : List (List Value)}, Rows sQ 1 cl rs → rs = cl.map fun d => [.int .i64 d]
 | [], [], _ => rfl
 | e :: es, r :: rs, h => by
  have h1 : r = [.int .i64 e] := h.2.1
  rw [h1, Vr h.2.2]
  rfl
def aBh (s : aD) (v : Value) (hs : List HP) (_ : Piece) : Prop := ∃ L : GL, v = .tuple #[.pointer (some ⟨L.t, 0, none⟩), .int .i64 0] ∧ hs = [pG L s (s.domains.map fun _ => rH)]
theorem aDc (s : aD) (hH : s.cK) (A1 A2 A3 A4 : Option Addr) (n1 k1 n2 k2 n3 k3 n4 k4 : Nat) (w : World) (hW : eO w s A1 n1 A2 n2 A3 n3 A4 n4) :
  Calls Tryz.prog 61 #[.agg #[.slice A1 n1 k1, .slice A2 n2 k2, .slice A3 n3 k3, .slice A4 n4 k4]] w (fun y w' => (∃ v hs q, y = .returned v ∧ q.w = w' ∧ aBh s v hs q ∧ jN w hs q) ∧ Below w.heap.size w w') := by
 have hnd := hH.t.nd
 obtain ⟨rd, hrd, hn2, Qe⟩ := hW.dom
 have hrd := aA2 hrd
 subst hrd; subst hn2
 have mX : (s.domains.map fun _ => rH).length = s.domains.length := by simp
 refine XK.enter (vs := [.agg #[.slice A1 n1 k1, .slice A2 s.domains.length k2, .slice A3 n3 k3, .slice A4 n4 k4]]) Tryz.func61 rfl Tryz.ntmps61 (by simp) ?_
 refine XK.go ?_
 refine bY rfl (by decide) fun g1 => ?_
 dsimp only [Value.cells]
 refine XK.go ?_
 refine bB (fun w1 t => Hp s A1 A2 A3 A4 n1 k1 _ k2 n3 k3 n4 k4 w1 (hW.le (t.started (by simp))) hH.t.Da) ?_
 refine XK.go ?_
 refine dJ (zs := [.slice none 0 0]) (L := [(0, 1)]) (aM (by kernel_rfl)) (by kernel_rfl) rfl (by simp [aS, aT, Value.cells]; rfl) (by decide) ?_
 refine bY rfl (by decide) fun g2 => ?_
 dsimp only [Value.cells]
 refine XK.go ?_
 refine XK.kA 232 7 ?_
 refine XK.aL [(18, .int .i64 0), (17, .int .i64 s.domains.length), (16, .slice A2 s.domains.length k2), (5, .pointer (some ⟨g2, 0, none⟩))] ?_
 refine XK.loop (fun m e R H => ∃ (i : Nat) (A : Option Addr) (k : Nat), i ≤ s.domains.length ∧ m = s.domains.length - i ∧ e = [(18, .int .i64 i), (17, .int .i64 s.domains.length), (16, .slice A2 s.domains.length k2), (5, .pointer (some ⟨g2, 0, none⟩))] ∧ R = [all w] ∧ H = [HP.own 232 7 (.slice A i k) i ((kY s (s.domains.map fun _ => rH)).take i).flatten, HP.aE g2 230 [.slice A i k], HP.aE g1 29 [.slice A1 n1 k1, .slice A2 s.domains.length k2, .slice A3 n3 k3, .slice A4 n4 k4]]) s.domains.length ⟨0, none, 0, by omega, rfl, rfl, rfl, by simp⟩ fun m e R H hI => ?_
 obtain ⟨i, A, k, hi, rfl, rfl, rfl, rfl⟩ := hI
 refine XK.go ?_
 refine XK.if_ rfl (fun hlt => ?_) (fun hge => ?_)
 ·have hlt : i < s.domains.length := by omega
  obtain ⟨c, hc⟩ := get_some hlt
  obtain ⟨b, off, hB, hro⟩ := aI.row Qe (fun r hr => by obtain ⟨q, _, rfl⟩ := List.mem_map.1 hr; rfl) (r := [.int .i64 c.above, .int .i64 c.delay, .bool c.ret]) (by rw [List.getElem?_map, hc]; rfl) hlt
  subst hB
  have hrow : (kY s (s.domains.map fun _ => rH))[i]? = some (lR c rH) := Cq hc (by rw [List.getElem?_map, hc]; rfl)
  have nP : ((kY s (s.domains.map fun _ => rH)).take (i + 1)).flatten = ((kY s (s.domains.map fun _ => rH)).take i).flatten ++ lR c rH := by
   rw [List.take_succ, hrow, List.flatten_append]; simp
  refine XK.go ?_
  refine kd (dat i (off + i * 3)) ?_
  refine XK.go ?_
  refine cD (cs := [.int .i64 0, .int .i64 0, .bool false]) (aM (by kernel_rfl)) (by decide) fun g3 => ?_
  refine XK.go ?_
  refine XK.eJ [2, 3, 4, 5, 6] ?_
  refine XB.mv 0 ?_
  refine XB.mv 1 ?_
  refine XB.q 2 ?_
  refine XB.q 3 ?_
  refine XB.q 4 ?_
  refine XB.q 5 ?_
  refine XB.q 6 ?_ (eD := fS (zs := [.int .i64 0, .int .i64 0, .bool false, .int .u8 0, .int .i64 0, .bool false, .bool false]) (L := [(0, 3), (3, 1), (4, 1), (5, 1), (6, 1)]) (aM (by kernel_rfl)) (by kernel_rfl) rfl (by simp [aS, aT, Value.cells]; rfl))
  refine XB.next 7 rfl (by kernel_rfl) ?_
  refine eZ (el := 232) (sz := 7) (zs := [.int .i64 0, .int .i64 0, .bool false, .int .u8 0, .int .i64 0, .bool false, .bool false]) (by kernel_rfl) (aM (by kernel_rfl)) (by kernel_rfl) rfl (by decide) (by decide) rfl (by simp [aS, aT, Value.cells, List.range_succ, List.set]; rfl) (by decide) fun g5 => ?_
  refine XB.bk ?_
  refine XB.next 8 rfl (by kernel_rfl) ?_
  refine fA 2 7 48 1 (el := 232) (by kernel_rfl) (by kernel_rfl) (by decide) rfl rfl rfl (jY 0 rfl rfl) (by simp [Value.oneCell']) rfl (by omega) (by omega) (by decide) fun A' k' => ?_
  dsimp only [List.set]
  refine XB.bt ?_
  refine XB.next 9 rfl (by kernel_rfl) ?_
  refine bI ?_
  refine XB.bt ?_
  refine XB.next 10 rfl (by kernel_rfl) ?_
  refine bI ?_
  refine XB.bt ?_
  refine XB.next 11 rfl (by kernel_rfl) ?_
  refine gR rfl rfl ?_
  dsimp only [List.set]
  refine XB.bt ?_
  refine XB.done (by kernel_rfl) ?_
  refine XK.go ?_
  refine XK.weak [2, 3, 4] rfl (by decide) (fun _ h => h) ?_
  refine XK.aL [(18, .int .i64 (i + 1 : Nat)), (17, .int .i64 s.domains.length), (16, .slice (some ⟨b, off, none⟩) s.domains.length k2), (5, .pointer (some ⟨g2, 0, none⟩))] ?_
  exact XK.round (s.domains.length - (i + 1)) (by omega) ⟨i + 1, A', k', hlt, rfl, rfl, rfl, by rw [nP]; rfl⟩
 ·obtain rfl : i = s.domains.length := by omega
  refine XK.go ?_
  have hfull : (kY s (s.domains.map fun _ => rH)).take s.domains.length = kY s (s.domains.map fun _ => rH) := List.take_of_length_le (by simp [kY])
  rw [hfull]
  refine XK.weak [1, 0] rfl (by decide) (fun _ h => h) ?_
  refine XK.pair ?_
  refine XK.still [] [] [0] (by simp) rfl (by decide) (by decide) fun q _ _ hfr => ?_
  exact XK.fQ rfl rfl rfl fun w1 t => ⟨⟨_, _, ⟨w1, q.Z⟩, rfl, rfl, ⟨⟨g2, A, k⟩, rfl, rfl⟩, t.newR (by simp) (by simp) (hfr (by simp) (by simp))⟩, t.below (by simp)⟩
theorem aB6 {N : cJ} {w0 : World} {e : Env} {R : List Piece} {H : List HP} {Q : Exit → Act → World → Prop} {ops : Array Oper} {rest : List Oper} {d : Nat} {ty : TypeId} {pos : String} {aJ : Array Edge} {x : Operand} {n : Int} {t kt et : TypeId} (ht : Tryz.prog.underlying t = some (.map kt et)) (hx : e.ev x = some (.int .i64 n)) (hd : d < N.n) (k : ∀ g, XK N w0 (wpList Tryz.prog ops Q rest) ((d, .map (some g)) :: e) R (HP.map g [] :: H)) : XK N w0 (wpList Tryz.prog ops Q (⟨some d, .makeMap t (some x), ty, pos, aJ, none⟩ :: rest)) e R H :=
 pM rfl fun a w hr st => ⟨.map (some w.heap.size), w.alloc (.map #[] 0), by simp [execOp, Instr.makeMap, hr.ev hx, run_underlying ht, asInt, asIntOf], k w.heap.size _ _ (hr.put hd _) (st.new (De w _) ⟨⟨Nat.le_refl _, by simp⟩, #[], 0, heap_alloc_new w _, rfl⟩)⟩
def aBc (s : aD) (v : Value) (hs : List HP) (_ : Piece) : Prop := ∃ L : RL, v = .tuple #[.pointer (some ⟨L.t, 0, none⟩), .int .i64 0] ∧ hs = [jO L s (s.aU.map fun _ => lJ)]
theorem aDE (l : List (Int × Value)) (k : Int) (v : Value) (h : jK l k = none) : kQ l k v = l ++ [(k, v)] := by
 induction l with
 | nil => rfl
 | cons p l ih =>
  obtain ⟨a, b⟩ := p
  rw [Ex] at h
  rw [kQ]
  split at h
  ·cases h
  ·rename_i hne
   rw [if_neg hne, ih h]
   rfl
theorem aC6 (s : aD) (hH : s.cK) (A1 A2 A3 A4 : Option Addr) (n1 k1 n2 k2 n3 k3 n4 k4 : Nat) (w : World) (hW : eO w s A1 n1 A2 n2 A3 n3 A4 n4) :
  Calls Tryz.prog 62 #[.agg #[.slice A1 n1 k1, .slice A2 n2 k2, .slice A3 n3 k3, .slice A4 n4 k4]] w (fun y w' => (∃ v hs q, y = .returned v ∧ q.w = w' ∧ aBc s v hs q ∧ jN w hs q) ∧ Below w.heap.size w w') := by
 have gS := hH.t.nr
 obtain ⟨rr, cM, qD, hst⟩ := hW.nZ
 have cM := Vr cM
 subst cM; subst qD
 have tL : (s.aU.map fun _ => lJ).length = s.aU.length := by simp
 refine XK.enter (vs := [.agg #[.slice A1 n1 k1, .slice A2 n2 k2, .slice A3 s.aU.length k3, .slice A4 n4 k4]]) Tryz.func62 rfl Tryz.ntmps62 (by simp) ?_
 refine XK.go ?_
 refine bY rfl (by decide) fun g1 => ?_
 dsimp only [Value.cells]
 refine XK.go ?_
 refine bB (fun w1 t => Hp s A1 A2 A3 A4 n1 k1 n2 k2 _ k3 n4 k4 w1 (hW.le (t.started (by simp))) hH.t.Da) ?_
 refine XK.go ?_
 refine aB6 (kt := 3) (et := 237) (by kernel_rfl) rfl (by decide) fun gm => ?_
 refine dJ (zs := [.map none]) (L := [(0, 1)]) (aM (by kernel_rfl)) (by kernel_rfl) rfl (by simp [aS, aT, Value.cells]; rfl) (by decide) ?_
 refine bY rfl (by decide) fun g2 => ?_
 dsimp only [Value.cells]
 refine XK.go ?_
 refine XK.aL [(22, .int .i64 0), (21, .int .i64 s.aU.length), (20, .slice A3 s.aU.length k3), (5, .pointer (some ⟨g2, 0, none⟩))] ?_
 refine XK.loop (fun m e R H => ∃ i : Nat, i ≤ s.aU.length ∧ m = s.aU.length - i ∧ e = [(22, .int .i64 i), (21, .int .i64 s.aU.length), (20, .slice A3 s.aU.length k3), (5, .pointer (some ⟨g2, 0, none⟩))] ∧ R = [all w] ∧ H = [HP.aE g2 235 [.map (some gm)], HP.map gm ((List.range i).map (yY s (s.aU.map fun _ => lJ))), HP.aE g1 29 [.slice A1 n1 k1, .slice A2 n2 k2, .slice A3 s.aU.length k3, .slice A4 n4 k4]]) s.aU.length ⟨0, by omega, rfl, rfl, rfl, rfl⟩ fun m e R H hI => ?_
 obtain ⟨i, hi, rfl, rfl, rfl, rfl⟩ := hI
 refine XK.go ?_
 refine XK.if_ rfl (fun hlt => ?_) (fun hge => ?_)
 ·have hlt : i < s.aU.length := by omega
  obtain ⟨c, hc⟩ := get_some hlt
  obtain ⟨b, off, hB, hro⟩ := aI.row hst (fun r hr => by obtain ⟨q, _, rfl⟩ := List.mem_map.1 hr; rfl) (r := [.int .i64 c]) (by rw [List.getElem?_map, hc]; rfl) hlt
  subst hB
  have jT : kQ ((List.range i).map (yY s (s.aU.map fun _ => lJ))) (i : Int) (fL c lJ) = (List.range (i + 1)).map (yY s (s.aU.map fun _ => lJ)) := by
   rw [aDE _ _ _ (by
    have := Xc (fun j => fL (s.aU.getD j 0) ((s.aU.map fun _ => lJ).getD j lJ)) i (i : Int)
    rw [if_neg (by simp [cL])] at this
    exact this), List.range_succ, List.map_append]
   congr 1
   simp [yY, List.getD_eq_getElem?_getD, hc]
  refine XK.go ?_
  refine kd (dat i (off + i * 1)) ?_
  refine XK.go ?_
  refine cD (cs := [.int .i64 0]) (aM (by kernel_rfl)) (by decide) fun g3 => ?_
  refine XK.go ?_
  refine XK.eJ [1, 2, 3, 5, 6, 7] ?_
  refine XB.mv 0 ?_
  refine XB.q 1 ?_
  refine XB.q 2 ?_
  refine XB.q 3 ?_
  refine XB.mv 4 ?_
  refine XB.q 5 ?_
  refine XB.q 6 ?_
  refine XB.q 7 ?_ (eD := fS (zs := [.int .i64 0, .int .i64 0, .bool false, .bool false]) (L := [(0, 1), (1, 1), (2, 1), (3, 1)]) (aM (by kernel_rfl)) (by kernel_rfl) rfl (by simp [aS, aT, Value.cells]; rfl))
  refine XB.next 8 rfl (by kernel_rfl) ?_
  refine Bi (kt := 3) (et := 237) (kd := .i64) (l := (List.range i).map (yY s (s.aU.map fun _ => lJ))) (v := fL c lJ) 2 (by kernel_rfl) (by kernel_rfl) rfl rfl rfl rfl ?_
  rw [jT]
  dsimp only [List.set]
  refine XB.bt ?_
  refine XB.done (by kernel_rfl) ?_
  refine XK.go ?_
  refine XK.weak [1, 2, 3] rfl (by decide) (fun _ h => h) ?_
  refine XK.aL [(22, .int .i64 (i + 1 : Nat)), (21, .int .i64 s.aU.length), (20, .slice (some ⟨b, off, none⟩) s.aU.length k3), (5, .pointer (some ⟨g2, 0, none⟩))] ?_
  exact XK.round (s.aU.length - (i + 1)) (by omega) ⟨i + 1, hlt, rfl, rfl, rfl, rfl⟩
 ·obtain rfl : i = s.aU.length := by omega
  refine XK.go ?_
  refine XK.pair ?_
  refine XK.still [] [] [0] (by simp) rfl (by decide) (by decide) fun q _ _ hfr => ?_
  exact XK.fQ rfl rfl rfl fun w1 t => ⟨⟨_, _, ⟨w1, q.Z⟩, rfl, rfl, ⟨⟨g2, gm⟩, rfl, by simp [jO, jS]⟩, t.newR (by simp) (by simp) (hfr (by simp) (by simp))⟩, t.below (by simp)⟩
end
section
set_option maxHeartbeats 4000000
set_option maxRecDepth 20000
structure oY where
 id : Int
 wr : Bool
 Oj : Int
 val : Int
def oY.cells (t : oY) : List Value := [.int .i64 t.id, .bool t.wr, .int .i64 t.Oj, .int .u32 t.val]
def QH (v : Value) : Option oY → HP
 | none => HP.pure (∃ A, v = .slice A 0 0)
 | some t => HP.own 260 4 v 1 t.cells
structure BL where
 b : Nat
 gr : Nat
 gw : Nat
def fP (ws : List (Option oY)) (i : Nat) : Nat := if ((ws[i]?).join).isSome then 1 else 0
def Tj (g n : Nat) (ws : List (Option oY)) : HP := HP.ex fun vs : List Value => HP.many (HP.aE g 265 vs :: HP.pure (vs.length = n) :: (List.range n).map fun i => QH (vs.getD i undef) (ws[i]?).join)
def Dm (L : BL) (ms : List Int) (ws : List (Option oY)) (iQ : Int) : HP := HP.many [HP.aE L.b 245 [.slice (some ⟨L.gr, 0, none⟩) ms.length ms.length, .slice (some ⟨L.gw, 0, none⟩) ms.length ms.length, .int .i64 iQ], HP.aE L.gr 3 (aR ms), Tj L.gw ms.length ws]
structure yJ (w : World) (L : BL) (ms : List Int) (ws : List (Option oY)) (iQ : Int) : Prop where
 r0 : cX w L.b 0 [.slice (some ⟨L.gr, 0, none⟩) ms.length ms.length, .slice (some ⟨L.gw, 0, none⟩) ms.length ms.length, .int .i64 iQ]
 rg : cX w L.gr 0 (aR ms)
 wt : ∀ i, i < ms.length → ∃ A c, eK w L.gw i (.slice A (fP ws i) c)
theorem yJ.below {w w' : World} {L : BL} {ms : List Int} {ws : List (Option oY)} {iQ : Int} (h : yJ w L ms ws iQ) (hb : Below w.heap.size w w') : yJ w' L ms ws iQ :=
 ⟨h.r0.below hb, h.rg.below hb, fun i hi => by
  obtain ⟨A, c, h1, h2⟩ := h.wt i hi
  exact ⟨A, c, Nat.lt_of_lt_of_le h1 hb.size, (hb.cell (p := ⟨_, i, none⟩) h1).trans h2⟩⟩
theorem Dm.reads {L : BL} {ms : List Int} {ws : List (Option oY)} {iQ : Int} {F : Nat → Prop} {w : World} (h : (Dm L ms ws iQ).sat F w) : yJ w L ms ws iQ := by
 obtain ⟨G, g1, g2, _⟩ := h
 refine ⟨vG (g1 0 _ rfl).2, vG (g1 1 _ rfl).2, fun i hi => ?_⟩
 obtain ⟨vs, G', k1, _, _⟩ := g1 2 _ rfl
 have hb := vG (k1 0 _ rfl).2
 have hl : vs.length = ms.length := k1 1 _ rfl
 obtain ⟨v, hv⟩ := get_some (l := vs) (i := i) (by omega)
 have hq := k1 (i + 2) (QH (vs.getD i undef) (ws[i]?).join) (by
  rw [List.getElem?_cons_succ, List.getElem?_cons_succ, List.getElem?_map, List.getElem?_range hi]; rfl)
 rw [List.getD_eq_getElem?_getD, hv] at hq
 have hc := hb.at_ hv
 rw [Nat.zero_add] at hc
 unfold fP
 cases hj : (ws[i]?).join with
 | none =>
  rw [hj] at hq
  obtain ⟨A, hA⟩ : ∃ A, v = .slice A 0 0 := hq
  subst hA
  exact ⟨A, 0, hc⟩
 | some t =>
  rw [hj] at hq
  obtain ⟨A, c, hA, _⟩ := aI.qS (Y := fun _ => True) hq (fun _ _ => trivial)
  have hA : v = .slice A 1 c := hA
  subst hA
  exact ⟨A, c, hc⟩
section
variable {N : cJ} {w0 w : World} {e : Env} {R : List Piece} {H : List HP} {K : Act → World → Prop} {L : BL} {ms : List Int} {ws : List (Option oY)} {iQ : Int}
end
theorem aAI (L : BL) (ms : List Int) (ws : List (Option oY)) (iQ : Int) (i : Int) (w : World) (hR : yJ w L ms ws iQ) :
  Calls Tryz.prog 166 #[.pointer (some ⟨L.b, 0, none⟩), .int .i64 i] w (Rt (.bool (cL ms.length i)) w) := by
 have k0 := hR.r0.at_ (j := 0) rfl
 refine XK.enter (vs := [.pointer (some ⟨L.b, 0, none⟩), .int .i64 i]) Tryz.func166 rfl Tryz.ntmps166 (by simp) ?_
 refine XK.go ?_
 refine bO (t := 11) rfl (fun h => ?_) (fun h => ?_)
 ·refine XK.go ?_
  refine XK.bP (by simp) ?_
  unfold cL
  congr 1
  simp; omega
 ·refine XK.go ?_
  refine XK.bP (by simp) ?_
  have : cL ms.length i = false := decide_eq_false (by omega)
  rw [this]
theorem aAH (L : BL) (ms : List Int) (ws : List (Option oY)) (iQ : Int) (i : Nat) (hi : i < ms.length) (w : World) (hR : yJ w L ms ws iQ) :
  Calls Tryz.prog 82 #[.pointer (some ⟨L.b, 0, none⟩), .int .i64 (i : Int)] w (Rt (.int .i64 (fP ws i : Nat)) w) := by
 have k1 := hR.r0.at_ (j := 1) rfl
 obtain ⟨A, c, hw⟩ := hR.wt i hi
 have hin : cL ms.length (i : Int) = true := decide_eq_true (by omega)
 refine XK.enter (vs := [.pointer (some ⟨L.b, 0, none⟩), .int .i64 (i : Int)]) Tryz.func82 rfl Tryz.ntmps82 (by simp) ?_
 refine XK.go ?_
 refine bB (fun w1 t => aAI L ms ws iQ i w1 (hR.below (t.below (by simp)))) ?_
 rw [hin]
 refine XK.go ?_
 refine kd (dat i i) ?_
 refine XK.go ?_
 exact XK.bP (by simp) rfl
def aBm (ms : List Int) (v : Value) (hs : List HP) (_ : Piece) : Prop := ∃ L : BL, v = .tuple #[.pointer (some ⟨L.b, 0, none⟩), .int .i64 0] ∧ hs = [Dm L ms (ms.map fun _ => none) 0]
theorem aBN {N : cJ} {w0 : World} {e : Env} {R : List Piece} {H : List HP} {K : Act → World → Prop} {g n : Nat} {β : Type} (l : List β) (hl : l.length = n) (i : Nat) (hi : H[i]? = some (HP.aE g 265 (List.replicate n (.slice none 0 0)))) (h : XK N w0 K e R (H.set i (Tj g n (l.map fun _ => none)))) : XK N w0 K e R H := by
 refine XK.reuse (q := Tj g n (l.map fun _ => none)) i hi (fun F w hs => ⟨List.replicate n (.slice none 0 0), fun k b => k = 0 ∧ F b, fun k p hk => ?_, fun k b h => h.2, fun k j b Qt h1 h2 => by have := h1.1; have := h2.1; omega⟩) h
 match k, hk with
 | 0, hk =>
  simp at hk; subst hk
  show (HP.aE g 265 (List.replicate n (.slice none 0 0))).sat (fun b => 0 = 0 ∧ F b) w
  rw [show (fun b => 0 = 0 ∧ F b) = F by funext b; simp]
  exact hs
 | 1, hk => cases hk; show (List.replicate n (Value.slice none 0 0)).length = n; simp
 | k + 2, hk =>
  rw [List.getElem?_cons_succ, List.getElem?_cons_succ, List.getElem?_map] at hk
  cases hr : (List.range n)[k]? with
  | none => rw [hr] at hk; cases hk
  | some j =>
   rw [hr] at hk
   have hj : j < n := List.mem_range.1 (List.mem_of_getElem? hr)
   have : ((l.map fun _ => (none : Option oY))[j]?).join = none := by
    rw [List.getElem?_map]
    cases l[j]? <;> rfl
   simp only [Option.map_some, Option.some.injEq, this] at hk
   subst hk
   refine ⟨none, ?_⟩
   rw [List.getD_eq_getElem?_getD, List.getElem?_replicate, if_pos hj]
   rfl
theorem aGV (ms : List Int) (hml : ms.length ≤ 6) (hm : ∀ m ∈ ms, 0 ≤ m ∧ m ≤ 8) (A : Option Addr) (c : Nat) (w : World) (hs : aI (all w) 1 A ms.length (aR ms)) :
  Calls Tryz.prog 66 #[.slice A ms.length c] w (fun y w' => (∃ v hs q, y = .returned v ∧ q.w = w' ∧ aBm ms v hs q ∧ jN w hs q) ∧ Below w.heap.size w w') := by
 refine XK.enter (vs := [.slice A ms.length c]) Tryz.func66 rfl Tryz.ntmps66 (by simp) ?_
 refine XK.seq ?_
 refine XK.region ?_
 refine bI ?_
 refine bI ?_
 refine XK.aA ?_
 refine XK.seq ?_
 refine XK.seq ?_
 refine XK.region ?_
 refine bI ?_
 refine bI ?_
 refine bI ?_
 refine XK.aA ?_
 refine XK.if_ rfl (fun h => absurd h (by omega)) (fun _ => ?_)
 refine XK.skip ?_
 refine XK.norm ?_
 refine XK.cut (fun e R H => ∃ gr gw g3, e = [(4, .pointer (some ⟨g3, 0, none⟩)), (0, .slice A ms.length c)] ∧ R = [all w] ∧ H = [HP.aE g3 245 [.slice (some ⟨gr, 0, none⟩) ms.length ms.length, .slice (some ⟨gw, 0, none⟩) ms.length ms.length, .int .i64 0], HP.aE gr 3 (List.replicate ms.length (.int .i64 0)), HP.aE gw 265 (List.replicate ms.length (.slice none 0 0))]) ?_ ?_
 ·refine XK.draw 6 (by kernel_rfl) (by kernel_rfl) ?_
  refine XA.q 0 ?_
  refine XA.q 1 ?_
  refine XA.q 3 ?_
  refine XA.q 4 ?_
  refine XA.either 2 5 rfl rfl (by kernel_rfl) ?_ ?_
  ·refine jQ (n := ms.length) 8 (el := 3) (z := .int .i64 0) (by kernel_rfl) (by kernel_rfl) rfl rfl rfl (by omega) (by omega) (by decide) fun gr => ?_
   refine XA.bk ?_
   refine XA.next 5 rfl (by kernel_rfl) ?_
   refine jQ (n := ms.length) 24 (el := 265) (z := .slice none 0 0) (by kernel_rfl) (by kernel_rfl) rfl rfl rfl (by omega) (by omega) (by decide) fun gw => ?_
   refine XA.bk ?_
   refine XA.next 6 rfl (by kernel_rfl) ?_
   refine dJ (zs := [.slice none 0 0, .slice none 0 0, .int .i64 0]) (L := [(0, 1), (1, 1), (2, 1)]) (aM (by kernel_rfl)) (by kernel_rfl) rfl (by simp [aS, aT, Value.cells]; rfl) (by decide) ?_
   refine XA.bt ?_
   refine XA.next 7 rfl (by kernel_rfl) ?_
   refine bY rfl (by decide) fun g3 => ?_
   dsimp only [Value.cells]
   refine XA.bt ?_
   refine XA.next 8 rfl (by kernel_rfl) ?_
   refine bI ?_
   refine XA.bt ?_
   refine XA.done (by kernel_rfl) ?_
   refine XK.norm ?_
   exact XK.weak [0, 2, 1] rfl (by decide) (by simp) (XK.aL [(4, .pointer (some ⟨g3, 0, none⟩)), (0, .slice A ms.length c)] (XK.meet ⟨gr, gw, g3, rfl, rfl, rfl⟩))
  ·refine jQ (n := ms.length) 24 (el := 265) (z := .slice none 0 0) (by kernel_rfl) (by kernel_rfl) rfl rfl rfl (by omega) (by omega) (by decide) fun gw => ?_
   refine XA.bk ?_
   refine XA.next 2 rfl (by kernel_rfl) ?_
   refine jQ (n := ms.length) 8 (el := 3) (z := .int .i64 0) (by kernel_rfl) (by kernel_rfl) rfl rfl rfl (by omega) (by omega) (by decide) fun gr => ?_
   refine XA.bk ?_
   refine XA.next 6 rfl (by kernel_rfl) ?_
   refine dJ (zs := [.slice none 0 0, .slice none 0 0, .int .i64 0]) (L := [(0, 1), (1, 1), (2, 1)]) (aM (by kernel_rfl)) (by kernel_rfl) rfl (by simp [aS, aT, Value.cells]; rfl) (by decide) ?_
   refine XA.bt ?_
   refine XA.next 7 rfl (by kernel_rfl) ?_
   refine bY rfl (by decide) fun g3 => ?_
   dsimp only [Value.cells]
   refine XA.bt ?_
   refine XA.next 8 rfl (by kernel_rfl) ?_
   refine bI ?_
   refine XA.bt ?_
   refine XA.done (by kernel_rfl) ?_
   refine XK.norm ?_
   exact XK.weak [0, 1, 2] rfl (by decide) (by simp) (XK.aL [(4, .pointer (some ⟨g3, 0, none⟩)), (0, .slice A ms.length c)] (XK.meet ⟨gr, gw, g3, rfl, rfl, rfl⟩))
 rintro _ _ _ ⟨gr, gw, g3, rfl, rfl, rfl⟩
 refine XK.go ?_
 refine XK.aL [(20, .int .i64 0), (19, .int .i64 ms.length), (18, .slice A ms.length c), (4, .pointer (some ⟨g3, 0, none⟩))] ?_
 refine XK.loop (fun m e R H => ∃ i : Nat, i ≤ ms.length ∧ m = ms.length - i ∧ e = [(20, .int .i64 i), (19, .int .i64 ms.length), (18, .slice A ms.length c), (4, .pointer (some ⟨g3, 0, none⟩))] ∧ R = [all w] ∧ H = [HP.aE g3 245 [.slice (some ⟨gr, 0, none⟩) ms.length ms.length, .slice (some ⟨gw, 0, none⟩) ms.length ms.length, .int .i64 0], HP.aE gr 3 (aR (fW ms (ms.map fun _ => 0) i)), HP.aE gw 265 (List.replicate ms.length (.slice none 0 0))]) ms.length ⟨0, by omega, rfl, rfl, rfl, by
  rw [Es]
  have : List.replicate ms.length (Value.int .i64 0) = aR (ms.map fun _ => 0) := by
   refine List.ext_getElem? fun j => ?_
   simp only [aR, List.map_map, List.getElem?_replicate, List.getElem?_map]
   by_cases h : j < ms.length
   ·rw [if_pos h, List.getElem?_eq_getElem h]; rfl
   ·rw [if_neg h, List.getElem?_eq_none (by omega)]; rfl
  rw [this]⟩ fun m e R H hI => ?_
 obtain ⟨i, hi, rfl, rfl, rfl, rfl⟩ := hI
 have Fv := Eu (vs := ms) (old := ms.map fun _ => 0) (n := ms.length) rfl (by simp) hi
 refine XK.go ?_
 refine XK.if_ rfl (fun hlt => ?_) (fun hge => ?_)
 ·have hlt : i < ms.length := by omega
  obtain ⟨v, hv⟩ := get_some hlt
  have hvb := hm v (List.mem_of_getElem? hv)
  obtain ⟨b, off, hB, hz, hc⟩ := hs.2 (by omega)
  subst hB
  have hro : eK w b (off + i) (.int .i64 v) := ⟨hz, hc i _ (by simp [aR, hv])⟩
  have fD : (aR (fW ms (ms.map fun _ => 0) i)).length = ms.length := by simp [aR, Fv]
  have jT : (aR (fW ms (ms.map fun _ => 0) i)).set i (.int .i64 v) = aR (fW ms (ms.map fun _ => 0) (i + 1)) := by
   rw [← Et (by simp) hv, aR, aR, List.map_set]
  refine XK.go ?_
  refine kd (dat i (off + i)) ?_
  refine XK.go ?_
  refine bO (t := 27) rfl (fun h => absurd h (by omega)) (fun _ => ?_)
  refine XK.go ?_
  refine XK.if_ rfl (fun h => absurd h (by omega)) (fun _ => ?_)
  refine XK.go ?_
  refine kd (dat i i) ?_
  refine gR rfl rfl ?_
  dsimp only [List.set]
  rw [jT]
  refine XK.go ?_
  refine XK.aL [(20, .int .i64 (i + 1 : Nat)), (19, .int .i64 ms.length), (18, .slice (some ⟨b, off, none⟩) ms.length c), (4, .pointer (some ⟨g3, 0, none⟩))] ?_
  exact XK.round (ms.length - (i + 1)) (by omega) ⟨i + 1, hlt, rfl, rfl, rfl, rfl⟩
 ·obtain rfl : i = ms.length := by omega
  rw [Ew rfl (by simp)]
  refine XK.go ?_
  refine aBN ms rfl 2 rfl ?_
  dsimp only [List.set]
  refine XK.three ?_
  refine XK.still [] [] [0] (by simp) rfl (by decide) (by decide) fun q _ _ hfr => ?_
  exact XK.fQ rfl rfl rfl fun w1 t => ⟨⟨_, _, ⟨w1, q.Z⟩, rfl, rfl, ⟨⟨g3, gr, gw⟩, rfl, rfl⟩, t.newR (by simp) (by simp) (hfr (by simp) (by simp))⟩, t.below (by simp)⟩
end
section
set_option maxHeartbeats 4000000
set_option maxRecDepth 20000
structure aV where
 ck : List cR
 dm : List eG
 ln : List gM
 dv : List (cP × dP)
 wt : List (Option oY)
 iQ : Int
def hw0 (s : aD) : aV := ⟨s.aB.map rI, s.domains.map fun _ => rH, s.aU.map fun _ => lJ, s.aG.map fun d => (uZ d, Bq), s.aG.map fun _ => none, 0⟩
structure HL where
 h : Nat
 T : TL
 G : GL
 R : RL
 B : BL
 A : Option Addr
 c : Nat
 ds : List (FL × Nat)
def Cp (d : bN) (l : FL × Nat) : List Value := [.int .i64 d.clock, .int .i64 d.domain, .int .i64 d.reset, .int .u32 d.eX, .pointer (some ⟨l.1.f, 0, none⟩), .pointer (some ⟨l.2, 0, none⟩)]
def qE (ds : List bN) (ls : List (FL × Nat)) : List (List Value) := List.zipWith Cp ds ls
def Co (d : bN) (p : (FL × Nat) × (cP × dP)) : HP := HP.many [dK p.1.1 d p.2.1, qJ p.1.2 p.2.2]
def rG (ds : List bN) (ls : List (FL × Nat)) (xs : List (cP × dP)) : List HP := List.zipWith Co ds (ls.zip xs)
def iD (s : aD) : List Int := s.aG.map fun d => (d.aQ.length : Int)
def Gk (L : HL) (n : Nat) : List Value := [.pointer (some ⟨L.T.t, 0, none⟩), .pointer (some ⟨L.G.t, 0, none⟩), .pointer (some ⟨L.R.t, 0, none⟩), .pointer (some ⟨L.B.b, 0, none⟩), .slice L.A n L.c]
def dG (L : HL) (s : aD) (x : aV) : HP := HP.many [HP.aE L.h 134 (Gk L s.aG.length), iW L.T s x.ck, pG L.G s x.dm, jO L.R s x.ln, Dm L.B (iD s) x.wt x.iQ, HP.own 141 6 (.slice L.A s.aG.length L.c) s.aG.length (qE s.aG L.ds).flatten, HP.many (rG s.aG L.ds x.dv)]
def Tr (s : aD) (v : Value) (hs : List HP) (_ : Piece) : Prop := ∃ L : HL, v = .tuple #[.pointer (some ⟨L.h, 0, none⟩), .int .i64 0] ∧ hs = [dG L s (hw0 s)] ∧ L.T.fa.length = s.aB.length ∧ L.ds.length = s.aG.length
theorem Jy (s : aD) : (iD s).length = s.aG.length := by simp [iD]
theorem aFP {ds : List bN} {i : Nat} {d : bN} (hd : ds[i]? = some d) {ls : List (FL × Nat)} (hl : ls.length = i) (l : FL × Nat) : rG (ds.take (i + 1)) (ls ++ [l]) ((ds.take (i + 1)).map fun d => (uZ d, Bq)) = rG (ds.take i) ls ((ds.take i).map fun d => (uZ d, Bq)) ++ [Co d (l, (uZ d, Bq))] := by
 have hlt : i < ds.length := sD hd
 rw [List.take_succ, hd, Option.toList_some, List.map_append]
 unfold rG
 rw [List.zip_append (by simp; omega), List.zipWith_append (by simp; omega)]
 rfl
theorem aFO {ds : List bN} {i : Nat} {d : bN} (hd : ds[i]? = some d) {ls : List (FL × Nat)} (hl : ls.length = i) (l : FL × Nat) : (qE (ds.take (i + 1)) (ls ++ [l])).flatten = (qE (ds.take i) ls).flatten ++ Cp d l := by
 have hlt : i < ds.length := sD hd
 rw [List.take_succ, hd, Option.toList_some]
 unfold qE
 rw [List.zipWith_append (by simp; omega), List.flatten_append]
 simp
theorem XK.more {N : cJ} {w0 : World} {e : Env} {R : List Piece} {H : List HP} {K : Act → World → Prop} {p : HP} {ps : List HP} (h : XK N w0 K e R (HP.many (ps ++ [p]) :: H)) : XK N w0 K e R (HP.many ps :: p :: H) := fun a w hr st =>
 (XK.push (ps := ps) (p := p) h) a w hr (st.weak (fun _ h => h) (fun i => match i with
  | 0 => 1
  | 1 => 0
  | i + 2 => i + 2) (fun i j _ _ he => by
   match i, j with
   | 0, 0 => rfl
   | 0, 1 => simp at he
   | 0, j + 2 => simp at he
   | 1, 0 => simp at he
   | 1, 1 => rfl
   | 1, j + 2 => simp at he
   | i + 2, 0 => simp at he
   | i + 2, 1 => simp at he
   | i + 2, j + 2 => simpa using he) (fun i p hi => by
   match i, hi with
   | 0, hi => simpa using hi
   | 1, hi => simpa using hi
   | i + 2, hi => simpa using hi))
theorem XK.aD9 {N : cJ} {w0 : World} {e : Env} {R : List Piece} {H : List HP} {K : Act → World → Prop} (h : XK N w0 K e R (HP.many [] :: H)) : XK N w0 K e R H := XK.uF (p := HP.many []) (fun w => ⟨fun _ _ => False, fun i p hp => by simp at hp, fun _ _ h => h, fun _ _ _ _ h => h.elim⟩) h
theorem Zn (s : aD) (hH : s.cK) (A1 A2 A3 A4 : Option Addr) (n1 k1 n2 k2 n3 k3 n4 k4 : Nat) (w : World) (hW : eO w s A1 n1 A2 n2 A3 n3 A4 n4) :
  Calls Tryz.prog 15 #[.agg #[.slice A1 n1 k1, .slice A2 n2 k2, .slice A3 n3 k3, .slice A4 n4 k4]] w (fun y w' => (∃ v hs q, y = .returned v ∧ q.w = w' ∧ Tr s v hs q ∧ jN w hs q) ∧ Below w.heap.size w w') := by
 have Fu := hH.t.nv
 obtain ⟨rv, Qg, qC, zD⟩ := hW.dev
 obtain ⟨da, mX, rfl, hda⟩ := Sr Qg
 subst qC
 refine XK.enter (vs := [.agg #[.slice A1 n1 k1, .slice A2 n2 k2, .slice A3 n3 k3, .slice A4 s.aG.length k4]]) Tryz.func15 rfl Tryz.ntmps15 (by simp) ?_
 refine XK.go ?_
 refine bY rfl (by decide) fun g1 => ?_
 dsimp only [Value.cells]
 refine XK.go ?_
 refine bB (fun w1 t => Hp s A1 A2 A3 A4 n1 k1 n2 k2 n3 k3 _ k4 w1 (hW.le (t.started (by simp))) hH.t.Da) ?_
 refine XK.go ?_
 refine dU (f := 60) (fi := []) (ca := []) (by kernel_rfl) rfl rfl (by decide) (aAU s) (fun w1 t => aG4 s hH A1 A2 A3 A4 n1 k1 n2 k2 n3 k3 _ k4 w1 (hW.le (t.started (by simp)))) ?_
 rintro _ _ q1 ⟨LT, rfl, rfl, Lc⟩ _
 dsimp only [List.cons_append, List.nil_append]
 refine XK.go ?_
 refine dU (f := 61) (fi := []) (ca := []) (by kernel_rfl) rfl rfl (by decide) (aBh s) (fun w1 t => aDc s hH A1 A2 A3 A4 n1 k1 n2 k2 n3 k3 _ k4 w1 (hW.le (t.started (by simp)))) ?_
 rintro _ _ q2 ⟨LG, rfl, rfl⟩ _
 dsimp only [List.cons_append, List.nil_append]
 refine XK.go ?_
 refine dU (f := 62) (fi := []) (ca := []) (by kernel_rfl) rfl rfl (by decide) (aBc s) (fun w1 t => aC6 s hH A1 A2 A3 A4 n1 k1 n2 k2 n3 k3 _ k4 w1 (hW.le (t.started (by simp)))) ?_
 rintro _ _ q3 ⟨LR, rfl, rfl⟩ _
 dsimp only [List.cons_append, List.nil_append]
 refine XK.go ?_
 refine dJ (zs := [.pointer none, .pointer none, .pointer none, .pointer none, .slice none 0 0]) (L := [(0, 1), (1, 1), (2, 1), (3, 1), (4, 1)]) (aM (by kernel_rfl)) (by kernel_rfl) rfl (by simp [aS, aT, Value.cells]; rfl) (by decide) ?_
 refine bY rfl (by decide) fun g2 => ?_
 dsimp only [Value.cells]
 refine XK.go ?_
 refine jQ (n := s.aG.length) 8 (el := 3) (z := .int .i64 0) (by kernel_rfl) (by kernel_rfl) rfl rfl rfl (by omega) (by omega) (by decide) fun gm => ?_
 refine XK.go ?_
 refine XK.kA 141 6 ?_
 refine XK.aD9 ?_
 refine XK.weak [0, 1, 2, 3, 4, 5, 6] rfl (by decide) (R' := [all w]) (by simp) ?_
 refine XK.aL [(56, .int .i64 0), (55, .int .i64 s.aG.length), (54, .slice A4 s.aG.length k4), (10, .slice (some ⟨gm, 0, none⟩) s.aG.length s.aG.length), (9, .pointer (some ⟨g2, 0, none⟩))] ?_
 refine XK.loop (fun m e R H => ∃ (i : Nat) (A : Option Addr) (c : Nat) (ls : List (FL × Nat)), i ≤ s.aG.length ∧ ls.length = i ∧ m = s.aG.length - i ∧ e = [(56, .int .i64 i), (55, .int .i64 s.aG.length), (54, .slice A4 s.aG.length k4), (10, .slice (some ⟨gm, 0, none⟩) s.aG.length s.aG.length), (9, .pointer (some ⟨g2, 0, none⟩))] ∧ R = [all w] ∧ H = [HP.many (rG (s.aG.take i) ls ((s.aG.take i).map fun d => (uZ d, Bq))), HP.own 141 6 (.slice A i c) i (qE (s.aG.take i) ls).flatten, HP.aE gm 3 (aR (fW (iD s) ((iD s).map fun _ => 0) i)), HP.aE g2 134 [.pointer (some ⟨LT.t, 0, none⟩), .pointer (some ⟨LG.t, 0, none⟩), .pointer (some ⟨LR.t, 0, none⟩), .pointer none, .slice A i c], jO LR s (hw0 s).ln, pG LG s (hw0 s).dm, iW LT s (hw0 s).ck]) s.aG.length ⟨0, none, 0, [], by omega, rfl, rfl, rfl, rfl, ?_⟩ fun m e R H hI => ?_
 ·have : List.replicate s.aG.length (Value.int .i64 0) = aR (fW (iD s) ((iD s).map fun _ => 0) 0) := by
   rw [Es]
   refine List.ext_getElem? fun j => ?_
   simp only [aR, iD, List.map_map, List.getElem?_replicate, List.getElem?_map]
   by_cases h : j < s.aG.length
   ·rw [if_pos h, List.getElem?_eq_getElem h]; rfl
   ·rw [if_neg h, List.getElem?_eq_none (by omega)]; rfl
  rw [this]
  rfl
 obtain ⟨i, A, c, ls, hi, tL, rfl, rfl, rfl, rfl⟩ := hI
 have hml := Jy s
 have Fv := Eu (vs := iD s) (old := (iD s).map fun _ => 0) (n := s.aG.length) hml (by simp [iD]) hi
 refine XK.go ?_
 refine XK.if_ rfl (fun hlt => ?_) (fun hge => ?_)
 ·have hlt : i < s.aG.length := by omega
  obtain ⟨d, hd⟩ := get_some hlt
  obtain ⟨⟨a1, a2⟩, ha⟩ := get_some (l := da) (i := i) (by omega)
  obtain ⟨Ql, Yq⟩ := hda i d _ hd ha
  have hfit := hH.t.aG i d hd
  obtain ⟨b, off, hB, hro⟩ := aI.row zD (Il (f := sJ) (es := s.aG) (bs := da) (sz := 6) mX (fun _ _ => rfl)).2 (Dp (f := sJ) hd ha) hlt
  subst hB
  refine XK.go ?_
  refine kd (dat i (off + i * 6)) ?_
  refine XK.go ?_
  refine cD (cs := [.int .i64 0, .int .i64 0, .int .i64 0, .int .u32 0, .slice none 0 0, .slice none 0 0]) (aM (by kernel_rfl)) (by decide) fun g3 => ?_
  have hmi : (iD s)[i]? = some (d.aQ.length : Int) := by rw [iD, List.getElem?_map, hd]; rfl
  have fD : (aR (fW (iD s) ((iD s).map fun _ => 0) i)).length = s.aG.length := by simp [aR, Fv]
  have jT : (aR (fW (iD s) ((iD s).map fun _ => 0) i)).set i (.int .i64 d.aQ.length) = aR (fW (iD s) ((iD s).map fun _ => 0) (i + 1)) := by
   rw [← Et (by simp) hmi, aR, aR, List.map_set]
  refine XK.go ?_
  refine dU (f := 63) (fi := []) (ca := []) (by kernel_rfl) rfl rfl (by decide) (aBi d) (fun w1 t => aCG d (by have := hfit.2.2.2.2.2.2.2.2.1; omega) (fun r hr => by have := hfit.2.2.2.2.2.2.2.2.2.1 r hr; omega) a1.1 a1.2 w1 (aI.le Ql (t.le (by simp)))) ?_
  rintro _ _ q1 ⟨LF, rfl, rfl⟩ _
  dsimp only [List.cons_append, List.nil_append]
  refine XK.go ?_
  refine bB (fun w1 t => Vy LF d (uZ d) w1 (t.aAp 0 rfl)) ?_
  refine XK.go ?_
  refine kd (dat i i) ?_
  refine gR rfl rfl ?_
  dsimp only [List.set]
  rw [jT]
  refine XK.go ?_
  refine XK.eJ [2, 3, 4, 5, 6, 7, 8, 9, 10, 11, 12] ?_
  refine XB.mv 0 ?_
  refine XB.mv 1 ?_
  refine XB.mv 13 ?_
  refine XB.q 2 ?_
  refine XB.q 3 ?_
  refine XB.q 4 ?_
  refine XB.q 5 ?_
  refine XB.q 6 ?_
  refine XB.q 7 ?_
  refine XB.q 8 ?_
  refine XB.q 9 ?_
  refine XB.q 10 ?_
  refine XB.q 11 ?_
  refine XB.q 12 ?_
  refine XB.next 14 rfl (by kernel_rfl) ?_
  refine dU (f := 65) (fi := []) (ca := []) (by kernel_rfl) rfl rfl (by decide) (fun v hs _ => ∃ g, v = .pointer (some ⟨g, 0, none⟩) ∧ hs = [HP.aE g 242 [.int .i64 0, .int .i64 0]]) (fun w1 t => aCS w1) ?_
  rintro _ _ q2 ⟨gq, rfl, rfl⟩ _
  dsimp only [List.cons_append, List.nil_append]
  refine XB.bk ?_
  refine XB.next 15 rfl (by kernel_rfl) ?_
  refine dJ (zs := [.int .i64 0, .int .i64 0, .int .i64 0, .int .u32 0, .pointer none, .pointer none]) (L := [(0, 1), (1, 1), (2, 1), (3, 1), (4, 1), (5, 1)]) (aM (by kernel_rfl)) (by kernel_rfl) rfl (by simp [aS, aT, Value.cells]; rfl) (by decide) ?_
  refine XB.bk ?_
  refine XB.next 16 rfl (by kernel_rfl) ?_
  refine eZ (el := 141) (sz := 6) (zs := [.int .i64 0, .int .i64 0, .int .i64 0, .int .u32 0, .pointer none, .pointer none]) (by kernel_rfl) (aM (by kernel_rfl)) (by kernel_rfl) rfl (by decide) (by decide) rfl (by simp [aS, aT, Value.cells, List.range_succ, List.set]; rfl) (by decide) fun g4 => ?_
  refine XB.bk ?_ (hS := fun _ h => h.tail.aP.tail)
  refine XB.next 17 rfl (by kernel_rfl) ?_
  refine fA 5 6 48 1 (n' := i + 1) (el := 141) (by kernel_rfl) (by kernel_rfl) (by decide) rfl rfl rfl (jY 0 rfl rfl) (by simp [Value.oneCell']) rfl (by omega) (by omega) (by decide) fun An cn => ?_
  dsimp only [List.set]
  refine XB.bt ?_
  refine XB.next 18 rfl (by kernel_rfl) ?_
  refine bI ?_
  refine XB.bt ?_
  refine XB.next 19 rfl (by kernel_rfl) ?_
  refine bI ?_
  refine XB.bt ?_
  refine XB.next 20 rfl (by kernel_rfl) ?_
  refine gR rfl rfl ?_
  dsimp only [List.set]
  refine XB.bt ?_
  refine XB.done (by kernel_rfl) ?_
  refine XK.go ?_
  refine XK.weak [2, 1, 4, 5, 6, 7, 8, 9, 10] rfl (by decide) (R' := [all w]) (by simp) ?_
  refine XK.pair ?_
  refine XK.push ?_
  refine XK.aL [(56, .int .i64 (i + 1 : Nat)), (55, .int .i64 s.aG.length), (54, .slice (some ⟨b, off, none⟩) s.aG.length k4), (10, .slice (some ⟨gm, 0, none⟩) s.aG.length s.aG.length), (9, .pointer (some ⟨g2, 0, none⟩))] ?_
  exact XK.round (s.aG.length - (i + 1)) (by omega) ⟨i + 1, An, cn, ls ++ [(LF, gq)], hlt, by simp; omega, rfl, rfl, rfl, by rw [aFP hd tL, aFO hd tL]; rfl⟩
 ·obtain rfl : i = s.aG.length := by omega
  rw [Ew hml (by simp [iD])]
  rw [List.take_length]
  refine XK.go ?_
  refine dU (f := 66) (fi := []) (ca := []) (by kernel_rfl) rfl rfl (by decide) (aBm (iD s)) (fun w1 t => by
   have := aGV (iD s) (by omega) (fun m hm => by
    obtain ⟨d, hd, rfl⟩ := List.mem_map.1 hm
    obtain ⟨j, hj⟩ := List.getElem?_of_mem hd
    have := (hH.t.aG j d hj).2.2.2.2.2.2.2.2.1
    omega) (some ⟨gm, 0, none⟩) s.aG.length w1
   rw [hml] at this
   exact this (t.yR (i := 2) rfl (by simp [aR, hml]))) ?_
  rintro _ _ q1 ⟨LB, rfl, rfl⟩ _
  dsimp only [List.cons_append, List.nil_append]
  refine XK.go ?_
  refine XK.weak [4, 7, 6, 5, 0, 2, 1] rfl (by decide) (R' := [all w]) (by simp) ?_
  refine XK.pair ?_
  refine XK.more ?_
  refine XK.more ?_
  refine XK.more ?_
  refine XK.more ?_
  refine XK.more ?_
  dsimp only [List.cons_append, List.nil_append]
  refine XK.still [] [] [0] (by simp) rfl (by decide) (by decide) fun q _ _ hfr => ?_
  exact XK.fQ rfl rfl rfl fun w1 t => ⟨⟨_, _, ⟨w1, q.Z⟩, rfl, rfl, ⟨⟨g2, LT, LG, LR, LB, A, c, ls⟩, rfl, by simp [dG, Gk, hw0, iD, Function.comp_def], Lc, tL⟩, t.newR (by simp) (by simp) (hfr (by simp) (by simp))⟩, t.below (by simp)⟩
end
section
set_option maxHeartbeats 4000000
set_option maxRecDepth 20000
structure cH (s : aD) (x : aV) : Prop where
 ck : lB s x.ck
 dm : rN s x.dm
 ln : Bf s x.ln
 dv : x.dv.length = s.aG.length
 each : ∀ (i : Nat) (d : bN) (p : cP × dP), s.aG[i]? = some d → x.dv[i]? = some p → yH d p.1 ∧ wT p.2
 wt : x.wt.length = s.aG.length
structure gZ (L : HL) (s : aD) : Prop where
 fa : L.T.fa.length = s.aB.length
 ds : L.ds.length = s.aG.length
structure nD (w : World) (L : HL) (s : aD) (x : aV) : Prop where
 r0 : cX w L.h 0 (Gk L s.aG.length)
 tree : qI w L.T s x.ck
 Sa : aBg w L.G s x.dm
 lines : yG w L.R s x.ln
 Mm : yJ w L.B (iD s) x.wt x.iQ
 rows : aI (all w) 6 L.A s.aG.length (qE s.aG L.ds).flatten
 each : ∀ (i : Nat) (d : bN) (l : FL × Nat) (p : cP × dP), s.aG[i]? = some d → L.ds[i]? = some l → x.dv[i]? = some p → vJ w l.1 d p.1 ∧ cX w l.2 0 (Ih p.2)
theorem nD.below {w w' : World} {L : HL} {s : aD} {x : aV} (h : nD w L s x) (hb : Below w.heap.size w w') : nD w' L s x :=
 ⟨h.r0.below hb, h.tree.below hb, uH.below h.Sa hb, h.lines.below hb, h.Mm.below hb, h.rows.le (fF hb), fun i d l p h1 h2 h3 => ⟨(h.each i d l p h1 h2 h3).1.below hb, (h.each i d l p h1 h2 h3).2.below hb⟩⟩
theorem dG.reads {L : HL} {s : aD} {x : aV} {F : Nat → Prop} {w : World} (h : (dG L s x).sat F w) (hF : ∀ b, F b → b < w.heap.size) (hL : gZ L s) (hok : cH s x) : nD w L s x := by
 obtain ⟨G, g1, g2, _⟩ := h
 have hl : ∀ i b, G i b → b < w.heap.size := fun i b hb => hF b (g2 i b hb)
 obtain ⟨A', c', he, hs⟩ := aI.qS (Y := fun b => b < w.heap.size) (g1 5 _ rfl) (hl 5)
 injection he with he
 subst he
 refine ⟨vG (g1 0 _ rfl).2, iW.reads (g1 1 _ rfl) (hl 1) hL.fa hok.ck, vI.reads (g1 2 _ rfl) (hl 2), jO.reads (g1 3 _ rfl), Dm.reads (g1 4 _ rfl), hs, fun i d l p h1 h2 h3 => ?_⟩
 obtain ⟨G', k1, k2, _⟩ := g1 6 _ rfl
 have hz : (rG s.aG L.ds x.dv)[i]? = some (Co d (l, p)) := by
  have hq : (L.ds.zip x.dv)[i]? = some (l, p) := List.getElem?_zip_eq_some.2 ⟨h2, h3⟩
  rw [rG, List.getElem?_zipWith, h1, hq]
 have hj : ∀ b, G' i b → b < w.heap.size := fun b hb => hl 6 b (k2 i b hb)
 obtain ⟨G2, m1, m2, _⟩ := k1 i _ hz
 exact ⟨dK.reads (m1 0 _ rfl) (fun b hb => hj b (m2 0 b hb)), vG (m1 1 _ rfl).2⟩
section
variable {N : cJ} {w0 w : World} {e : Env} {R : List Piece} {H : List HP} {K : Act → World → Prop} {L : HL} {s : aD} {x : aV}
theorem St.iM (t : St w0 R H w) (i : Nat) (hi : H[i]? = some (dG L s x)) (hL : gZ L s) (hok : cH s x) : nD w L s x := by
 obtain ⟨F, h1, h2, _⟩ := t.chunk hi
 exact dG.reads h1 h2 hL hok
end
section
variable (L : HL) (s : aD) (x : aV) (w : World)
theorem wB (hR : nD w L s x) : Calls Tryz.prog 77 #[.pointer (some ⟨L.h, 0, none⟩)] w (Rt (.bool true) w) := by
 have k0 := hR.r0.at_ (j := 0) rfl
 have k1 := hR.r0.at_ (j := 1) rfl
 have k2 := hR.r0.at_ (j := 2) rfl
 have k3 := hR.r0.at_ (j := 3) rfl
 refine XK.enter (vs := [.pointer (some ⟨L.h, 0, none⟩)]) Tryz.func77 rfl Tryz.ntmps77 (by simp) ?_
 refine XK.go ?_
 exact XK.bP (by simp) rfl
theorem Gj (i : Int) (hR : nD w L s x) : Calls Tryz.prog 90 #[.pointer (some ⟨L.h, 0, none⟩), .int .i64 i] w (Rt (.bool (cL s.aG.length i)) w) := by
 have k0 := hR.r0.at_ (j := 4) rfl
 refine XK.enter (vs := [.pointer (some ⟨L.h, 0, none⟩), .int .i64 i]) Tryz.func90 rfl Tryz.ntmps90 (by simp) ?_
 refine XK.go ?_
 refine bB (fun w1 t => wB L s x w1 (hR.below (t.below (by simp)))) ?_
 refine XK.go ?_
 refine bO (t := 11) rfl (fun h => ?_) (fun h => ?_)
 ·refine XK.go ?_
  refine XK.bP (by simp) ?_
  unfold cL
  congr 1
  simp; omega
 ·refine XK.go ?_
  refine XK.bP (by simp) ?_
  have : cL s.aG.length i = false := decide_eq_false (by omega)
  rw [this]
theorem aEH (i : Nat) (hi : i < s.aG.length) (hR : nD w L s x) : Calls Tryz.prog 150 #[.pointer (some ⟨L.h, 0, none⟩), .int .i64 (i : Int)] w (Rt (.int .i64 (fP x.wt i : Nat)) w) := by
 have k0 := hR.r0.at_ (j := 3) rfl
 have hin : cL s.aG.length (i : Int) = true := decide_eq_true (by omega)
 refine XK.enter (vs := [.pointer (some ⟨L.h, 0, none⟩), .int .i64 (i : Int)]) Tryz.func150 rfl Tryz.ntmps150 (by simp) ?_
 refine XK.go ?_
 refine bB (fun w1 t => Gj L s x w1 i (hR.below (t.below (by simp)))) ?_
 rw [hin]
 refine XK.go ?_
 refine bB (fun w1 t => aAH L.B (iD s) x.wt x.iQ i (by rw [Jy]; exact hi) w1 (hR.Mm.below (t.below (by simp)))) ?_
 refine XK.go ?_
 exact XK.bP (by simp) rfl
theorem Gi (hok : rN s x.dm) (i : Int) (hR : nD w L s x) : Calls Tryz.prog 28 #[.pointer (some ⟨L.h, 0, none⟩), .int .i64 i] w (Rt (.int .u8 (mT x.dm i)) w) := by
 have k0 := hR.r0.at_ (j := 1) rfl
 refine XK.enter (vs := [.pointer (some ⟨L.h, 0, none⟩), .int .i64 i]) Tryz.func28 rfl Tryz.ntmps28 (by simp) ?_
 refine XK.go ?_
 refine bB (fun w1 t => wB L s x w1 (hR.below (t.below (by simp)))) ?_
 refine XK.go ?_
 refine bB (fun w1 t => We L.G s x.dm hok i w1 (uH.below hR.Sa (t.below (by simp)))) ?_
 refine XK.go ?_
 exact XK.bP (by simp) rfl
theorem Rh (i : Int) (hR : nD w L s x) : Calls Tryz.prog 34 #[.pointer (some ⟨L.h, 0, none⟩), .int .i64 i] w (Rt (.bool (sE x.ln i)) w) := by
 have k0 := hR.r0.at_ (j := 2) rfl
 refine XK.enter (vs := [.pointer (some ⟨L.h, 0, none⟩), .int .i64 i]) Tryz.func34 rfl Tryz.ntmps34 (by simp) ?_
 refine XK.go ?_
 refine bB (fun w1 t => wB L s x w1 (hR.below (t.below (by simp)))) ?_
 refine XK.go ?_
 refine bB (fun w1 t => Vs L.R s x.ln i w1 (hR.lines.below (t.below (by simp)))) ?_
 refine XK.go ?_
 exact XK.bP (by simp) rfl
end
end
section
set_option maxHeartbeats 4000000
set_option maxRecDepth 20000
def wS (l : List Int) (v : Value) (hs : List HP) (_ : Piece) : Prop := ∃ A c, v = .slice A l.length c ∧ hs = [HP.own 44 1 (.slice A l.length c) l.length (iI l)]
theorem aC9 (w0 : Int) (A : Option Addr) (n c : Nat) (zs : List Int) (w : World) (hs : aI (all w) 1 A n (iI zs)) (hn : n = zs.length) (hn2 : n ≤ 1000000) : Calls Tryz.prog 70 #[.int .u32 w0, .slice A n c] w (fun y w' => (∃ v hs q, y = .returned v ∧ q.w = w' ∧ wS (w0 :: zs) v hs q ∧ jN w hs q) ∧ Below w.heap.size w w') := by
 refine XK.enter (vs := [.int .u32 w0, .slice A n c]) Tryz.func70 rfl Tryz.ntmps70 (by simp) ?_
 refine XK.go ?_
 refine Uk 1 4 (el := 44) (c := n + 1) (k0 := 1) (nO := .i64) (by kernel_rfl) (by kernel_rfl) rfl (by rw [Int.natCast_add]; rfl) (by omega) (by omega) (by decide) fun g1 => ?_
 refine XK.go ?_
 refine eZ (el := 44) (sz := 1) (zs := [.int .u32 0]) (by kernel_rfl) (aM (by kernel_rfl)) (by kernel_rfl) rfl (by decide) (by decide) rfl (by simp [aS, aT, Value.cells, List.range_succ, List.set]; rfl) (by decide) fun g2 => ?_
 refine fA 1 1 4 1 (n' := 1) (el := 44) (by kernel_rfl) (by kernel_rfl) (by decide) rfl rfl rfl (jY 0 rfl rfl) (by simp [Value.oneCell']) rfl (by omega) (by omega) (by decide) fun A1 c1 => ?_
 dsimp only [List.set]
 refine XK.go ?_
 refine fA 1 1 4 n (n' := n + 1) (el := 44) (by kernel_rfl) (by kernel_rfl) (by decide) rfl rfl rfl (qQ (by simp) hs) (Dz _) (by omega) (by omega) (by omega) (by decide) fun A2 c2 => ?_
 dsimp only [List.set]
 refine XK.go ?_
 subst hn
 refine XK.weak [1] rfl (by decide) (fun _ h => h) ?_
 refine XK.still [] [] [0] (by simp) rfl (by decide) (by decide) fun q _ _ hfr => ?_
 exact XK.aK rfl rfl fun w1 t => ⟨⟨_, _, ⟨w1, q.Z⟩, rfl, rfl, ⟨A2, c2, rfl, rfl⟩, t.newR (by simp) (by simp) (hfr (by simp) (by simp))⟩, t.below (by simp)⟩
theorem Dd (w0 st st' : Int) (hst : IntKind.u32.wrap st = st') (A : Option Addr) (n c : Nat) (zs : List Int) (w : World) (hs : aI (all w) 1 A n (iI zs)) (hn : n = zs.length) (hn2 : n ≤ 1000) :
  Calls Tryz.prog 159 #[.int .u32 w0, .int .i32 st, .slice A n c] w (fun y w' => (∃ v hs q, y = .returned v ∧ q.w = w' ∧ wS (w0 :: st' :: zs) v hs q ∧ jN w hs q) ∧ Below w.heap.size w w') := by
 subst hn
 refine XK.enter (vs := [.int .u32 w0, .int .i32 st, .slice A zs.length c]) Tryz.func159 rfl Tryz.ntmps159 (by simp) ?_
 refine XK.go ?_
 refine qN (ds := .int .i32) (by kernel_rfl) (by kernel_rfl) rfl hst (by decide) ?_
 refine eZ (el := 44) (sz := 1) (zs := [.int .u32 0]) (by kernel_rfl) (aM (by kernel_rfl)) (by kernel_rfl) rfl (by decide) (by decide) rfl (by simp [aS, aT, Value.cells, List.range_succ, List.set]; rfl) (by decide) fun g1 => ?_
 refine dU (f := 70) (fi := []) (ca := []) (by kernel_rfl) rfl rfl (by decide) (wS [w0, st']) (fun w1 t => aC9 w0 _ 1 1 [st'] w1 (t.yR (i := 0) rfl rfl) rfl (by omega)) ?_
 rintro _ _ q1 ⟨A1, c1, rfl, rfl⟩ _
 dsimp only [List.cons_append, List.nil_append]
 refine XK.go ?_
 refine fA 0 1 4 zs.length (n' := zs.length + 2) (el := 44) (by kernel_rfl) (by kernel_rfl) (by decide) rfl rfl rfl (qQ (by simp) hs) (Dz _) (by simp; omega) (by omega) (by omega) (by decide) fun A2 c2 => ?_
 dsimp only [List.set]
 refine XK.go ?_
 refine XK.weak [0] rfl (by decide) (R' := [all w]) (by simp) ?_
 refine XK.still [] [] [0] (by simp) rfl (by decide) (by decide) fun q _ _ hfr => ?_
 exact XK.aK rfl rfl fun w1 t => ⟨⟨_, _, ⟨w1, q.Z⟩, rfl, rfl, ⟨A2, c2, rfl, rfl⟩, t.newR (by simp) (by simp) (hfr (by simp) (by simp))⟩, t.below (by simp)⟩
theorem Cb (i : Int) (w : World) : Calls Tryz.prog 71 #[.int .i64 i] w (Rt (.bool (cL 2 i)) w) := by
 refine XK.enter (vs := [.int .i64 i]) Tryz.func71 rfl Tryz.ntmps71 (by simp) ?_
 refine XK.go ?_
 refine bO (t := 5) rfl (fun h => ?_) (fun h => ?_)
 ·refine XK.go ?_
  refine XK.bP (by simp) ?_
  unfold cL
  congr 1
  simp; omega
 ·refine XK.go ?_
  refine XK.bP (by simp) ?_
  have : cL 2 i = false := decide_eq_false (by omega)
  rw [this]
def yW (p : Int) : Int := if p = 48 then 0 else if p = 49 then 1 else if p = 116 then 2 else 3
theorem aF4 (p : Int) (w : World) : Calls Tryz.prog 225 #[.int .u8 p] w (Rt (.int .u32 (yW p)) w) := by
 refine XK.enter (vs := [.int .u8 p]) Tryz.func225 rfl Tryz.ntmps225 (by simp) ?_
 refine XK.go ?_
 refine XK.if_ rfl (fun h => ?_) (fun h => ?_)
 ·refine XK.go ?_
  exact XK.bP (by simp) (by rw [yW, if_pos h])
 ·refine XK.go ?_
  refine XK.if_ rfl (fun h1 => ?_) (fun h1 => ?_)
  ·refine XK.go ?_
   exact XK.bP (by simp) (by rw [yW, if_neg h, if_pos h1])
  ·refine XK.go ?_
   refine XK.if_ rfl (fun h2 => ?_) (fun h2 => ?_)
   ·refine XK.go ?_
    exact XK.bP (by simp) (by rw [yW, if_neg h, if_neg h1, if_pos h2])
   ·refine XK.go ?_
    exact XK.bP (by simp) (by rw [yW, if_neg h, if_neg h1, if_neg h2])
end
section
def iN (p : Piece) (x y : bR) (v : Value) : Prop := ∃ A1 k1 A2 k2 A3 k3 B1 m1 B2 m2 B3 m3, v = .agg #[.slice A1 x.d.length k1, .slice A2 x.c.length k2, .slice A3 x.l.length k3, .slice B1 y.d.length m1, .slice B2 y.c.length m2, .slice B3 y.l.length m3] ∧
 aI p 1 A1 x.d.length (bU x.d) ∧ aI p 1 A2 x.c.length (bU x.c) ∧ aI p 1 A3 x.l.length (bU x.l) ∧ aI p 1 B1 y.d.length (bU y.d) ∧ aI p 1 B2 y.c.length (bU y.c) ∧ aI p 1 B3 y.l.length (bU y.l)
theorem iN.le {p q : Piece} {x y : bR} {v : Value} (h : iN p x y v) (hl : p.Le q) : iN q x y v := by
 obtain ⟨A1, k1, A2, k2, A3, k3, B1, m1, B2, m2, B3, m3, h0, h1, h2, h3, h4, h5, h6⟩ := h
 exact ⟨A1, k1, A2, k2, A3, k3, B1, m1, B2, m2, B3, m3, h0, h1.le hl, h2.le hl, h3.le hl, h4.le hl, h5.le hl, h6.le hl⟩
def Bc (s : aD) (p : Piece) : Nat → List Value → Prop
 | 0, cs => cs = [.slice none 0 0, .slice none 0 0, .slice none 0 0, .slice none 0 0, .slice none 0 0, .slice none 0 0]
 | 1, cs => ∃ a b c, cs = [a, b, c, .slice none 0 0, .slice none 0 0, .slice none 0 0] ∧ oX p (bG s) (.agg #[a, b, c])
 | _, cs => ∃ a b c a' b' c', cs = [a, b, c, a', b', c'] ∧ oX p (bG s) (.agg #[a, b, c]) ∧ oX p (bG s) (.agg #[a', b', c'])
theorem Bc.len {s : aD} {p : Piece} : ∀ {i : Nat} {cs : List Value}, Bc s p i cs → cs.length = 6
 | 0, _, h => by rw [show _ = _ from h]; rfl
 | 1, _, ⟨_, _, _, h, _⟩ => by rw [h]; rfl
 | _ + 2, _, ⟨_, _, _, _, _, _, h, _⟩ => by rw [h]; rfl
theorem Bc.next {s : aD} {p q : Piece} (hl : p.Le q) {a b c : Value} (hw : oX q (bG s) (.agg #[a, b, c])) {i : Nat} {cs : List Value} (hi : i < 2) (h : Bc s p i cs) : Bc s q (i + 1) (bZ cs (i * 3) [a, b, c]) := by
 obtain rfl | rfl : i = 0 ∨ i = 1 := by omega
 ·have h0 : cs = [.slice none 0 0, .slice none 0 0, .slice none 0 0, .slice none 0 0, .slice none 0 0, .slice none 0 0] := h
  subst h0
  exact ⟨a, b, c, rfl, hw⟩
 ·obtain ⟨a1, b1, c1, h0, h1⟩ := h
  subst h0
  exact ⟨a1, b1, c1, a, b, c, rfl, oX.le h1 hl, hw⟩
theorem aCf (s : aD) (A1 A2 A3 A4 : Option Addr) (k1 k2 k3 k4 : Nat) (w : World) (hm : s.iS) :
  Calls Tryz.prog 68 #[.agg #[.slice A1 s.aB.length k1, .slice A2 s.domains.length k2, .slice A3 s.aU.length k3, .slice A4 s.aG.length k4]] w (Ms (fun v w w' => iN (fresh w w') (bG s) (bG s) v) w) := by
 have hn9 := hm.nc
 have qC := hm.nd
 have qD := hm.nr
 refine XK.enter (vs := [.agg #[.slice A1 s.aB.length k1, .slice A2 s.domains.length k2, .slice A3 s.aU.length k3, .slice A4 s.aG.length k4]]) Tryz.func68 rfl Tryz.ntmps68 (by simp) ?_
 refine XK.seq ?_
 refine XK.region ?_
 refine bY rfl (by decide) fun g1 => ?_
 refine cD (cs := [.slice none 0 0, .slice none 0 0, .slice none 0 0, .slice none 0 0, .slice none 0 0, .slice none 0 0]) (aM (by kernel_rfl)) (by decide) fun g2 => ?_
 refine XK.aA ?_
 refine XK.seq ?_
 refine XK.region ?_
 refine cD (cs := [.slice none 0 0, .slice none 0 0, .slice none 0 0, .slice none 0 0, .slice none 0 0, .slice none 0 0]) (aM (by kernel_rfl)) (by decide) fun g3 => ?_
 refine XK.aA ?_
 refine XK.seq ?_
 refine XK.seq ?_
 refine XK.region ?_
 refine aF rfl (by decide) ?_
 refine XK.aA ?_
 refine XK.aL [(5, .int .i64 0), (3, .pointer (some ⟨g3, 0, none⟩)), (2, .pointer (some ⟨g2, 0, none⟩)), (1, .pointer (some ⟨g1, 0, none⟩))] ?_
 refine XK.piece ⟨w, fun _ => False⟩ (by simp) (fun _ h => h.elim) ?_
 refine XK.block ?_
 refine XK.loop (fun m e R H => ∃ (i : Nat) (cs : List Value) (qs : Piece), i ≤ 2 ∧ m = 2 - i ∧ Bc s qs i cs ∧ kM w qs ∧ e = [(5, .int .i64 i), (3, .pointer (some ⟨g3, 0, none⟩)), (2, .pointer (some ⟨g2, 0, none⟩)), (1, .pointer (some ⟨g1, 0, none⟩))] ∧ R = [qs, all w] ∧ H = [HP.aE g3 71 cs, HP.aE g2 71 [.slice none 0 0, .slice none 0 0, .slice none 0 0, .slice none 0 0, .slice none 0 0, .slice none 0 0], HP.aE g1 29 [.slice A1 s.aB.length k1, .slice A2 s.domains.length k2, .slice A3 s.aU.length k3, .slice A4 s.aG.length k4]]) 2 ⟨0, _, ⟨w, fun _ => False⟩, by omega, rfl, rfl, (fun _ h => h.elim), rfl, rfl, rfl⟩ fun m e R H hI => ?_
 obtain ⟨i, cs, qs, hi2, rfl, hcs, Yw, rfl, rfl, rfl⟩ := hI
 refine XK.seq ?_
 refine XK.region ?_
 refine fB rfl rfl (by decide) ?_
 refine XK.aA ?_
 refine XK.seq ?_
 refine XK.if_ rfl (fun h => ?_) (fun h => ?_)
 ·
  refine XK.skip ?_
  refine XK.norm ?_
  refine XK.seq ?_
  refine XK.block ?_
  refine XK.seq ?_
  refine XK.region ?_
  refine aF rfl (by decide) ?_
  refine aH rfl (by decide) ?_
  refine XK.aA ?_
  refine XK.draw 15 (by kernel_rfl) (by kernel_rfl) ?_
  refine XA.dA 0 rfl rfl rfl (cE rfl) ?_
  refine XA.dA 1 rfl rfl rfl (iV (off := 1) (by kernel_rfl) rfl) ?_
  refine XA.dA 2 rfl rfl rfl (qF rfl) ?_
  refine XA.dA 3 rfl rfl rfl (uE (el := 75) (by kernel_rfl) rfl) ?_
  refine XA.dA 5 rfl rfl rfl (iV (off := 0) (by kernel_rfl) rfl) ?_
  refine XA.dA 6 rfl rfl rfl (qF rfl) ?_
  refine XA.dA 7 rfl rfl rfl (uE (el := 118) (by kernel_rfl) rfl) ?_
  refine XA.dA 9 rfl rfl rfl (iV (off := 2) (by kernel_rfl) rfl) ?_
  refine XA.dA 10 rfl rfl rfl (qF rfl) ?_
  refine XA.dA 11 rfl rfl rfl (uE (el := 120) (by kernel_rfl) rfl) ?_
  refine XA.dA 14 rfl rfl rfl (iV (off := 0) (by kernel_rfl) rfl) ?_
  refine XA.aGZ (fuel := 3) [4, 8, 12] [[4, 8, 12]] (fun i => match i with | 4 => ⟨12, 4, List.replicate s.domains.length (.bool false), fun g => .slice (some ⟨g, 0, none⟩) s.domains.length s.domains.length⟩ | 8 => ⟨16, 4, List.replicate s.aB.length (.bool false), fun g => .slice (some ⟨g, 0, none⟩) s.aB.length s.aB.length⟩ | _ => ⟨20, 4, List.replicate s.aU.length (.bool false), fun g => .slice (some ⟨g, 0, none⟩) s.aU.length s.aU.length⟩) (fun i hi => ?_) (by show [12, 16, 20].Nodup; decide) (by kernel_rfl) (fun _ h => h) (fun sub hsub hex g => ?_)
  ·simp only [List.mem_cons, List.not_mem_nil, or_false] at hi
   rcases hi with rfl | rfl | rfl
   ·exact Dn.of rfl rfl rfl (Ph 1 (el := 4) (z := .bool false) (by kernel_rfl) (by kernel_rfl) rfl rfl rfl (by omega) (by omega)) (Nat.le_of_ble_eq_true rfl) rfl
   ·exact Dn.of rfl rfl rfl (Ph 1 (el := 4) (z := .bool false) (by kernel_rfl) (by kernel_rfl) rfl rfl rfl (by omega) (by omega)) (Nat.le_of_ble_eq_true rfl) rfl
   ·exact Dn.of rfl rfl rfl (Ph 1 (el := 4) (z := .bool false) (by kernel_rfl) (by kernel_rfl) rfl rfl rfl (by omega) (by omega)) (Nat.le_of_ble_eq_true rfl) rfl
  have eV : sub = [4, 8, 12] := by simpa using hex
  have er : ∀ n : Nat, List.replicate n (Value.bool false) = bU (List.replicate n false) := fun n => by simp [bU]
  have hi : i < 2 := by have h' : (i : Int) < 2 := h; omega
  have hlen := hcs.len
  subst eV
  dsimp only [oQ, sB, iK, List.map, List.foldr, List.cons_append, List.nil_append, List.length_cons, List.length_nil, Nat.reduceAdd, Nat.reduceSub]
  refine XA.dZ 13 rfl rfl rfl (by decide) (fS (zs := [.slice none 0 0, .slice none 0 0, .slice none 0 0]) (L := [(0, 1), (1, 1), (2, 1)]) (aM (by kernel_rfl)) (by kernel_rfl) rfl (by simp [aS, aT, Value.cells]; rfl)) (by kernel_rfl) (fun _ _ _ h => h) (fun _ h => h.tail.tail.tail) ?_
  refine XA.next 15 rfl (by kernel_rfl) ?_
  refine Ni i (i * 3) (el := 68) (sz := 3) (by kernel_rfl) (by kernel_rfl) rfl rfl rfl hi (by omega) (by decide) ?_
  refine XA.bt ?_
  refine XA.next 16 rfl (by kernel_rfl) ?_
  refine jP 3 rfl rfl rfl (by kernel_rfl) (by simp [Value.cells, Value.oneCell']) (by simp [Value.cells]; omega) ?_
  dsimp only [List.set]
  rw [show (Value.agg [.slice (some ⟨g 4, 0, none⟩) s.domains.length s.domains.length, .slice (some ⟨g 8, 0, none⟩) s.aB.length s.aB.length, .slice (some ⟨g 12, 0, none⟩) s.aU.length s.aU.length].toArray).cells.toList = [.slice (some ⟨g 4, 0, none⟩) s.domains.length s.domains.length, .slice (some ⟨g 8, 0, none⟩) s.aB.length s.aB.length, .slice (some ⟨g 12, 0, none⟩) s.aU.length s.aU.length] from rfl]
  refine XA.bt ?_
  refine XA.done (by kernel_rfl) ?_
  refine XK.norm ?_
  refine XK.region ?_
  refine dD rfl rfl (aY (by omega)) (by decide) ?_
  refine aF rfl (by decide) ?_
  refine XK.aA ?_
  refine XK.still [qs] [0, 1, 2] [3, 4, 5] (by simp) rfl (by decide) (by decide) fun qn qA hle hfr => ?_
  have hfn := hfr (by simp) (fun p hp => by simp only [List.mem_cons, List.not_mem_nil, or_false] at hp; subst hp; exact Yw)
  have b1 : aI qn 1 (some ⟨g 4, 0, none⟩) (s.domains.length) (List.replicate (s.domains.length) (Value.bool false)) := aI.oG (n := s.domains.length) (sz := 1) (c := 0) (qA 0 _ (by simp) rfl).choose_spec.1 (qA 0 _ (by simp) rfl).choose_spec.2 (by simp)
  have b2 : aI qn 1 (some ⟨g 8, 0, none⟩) (s.aB.length) (List.replicate (s.aB.length) (Value.bool false)) := aI.oG (n := s.aB.length) (sz := 1) (c := 0) (qA 1 _ (by simp) rfl).choose_spec.1 (qA 1 _ (by simp) rfl).choose_spec.2 (by simp)
  have b3 : aI qn 1 (some ⟨g 12, 0, none⟩) (s.aU.length) (List.replicate (s.aU.length) (Value.bool false)) := aI.oG (n := s.aU.length) (sz := 1) (c := 0) (qA 2 _ (by simp) rfl).choose_spec.1 (qA 2 _ (by simp) rfl).choose_spec.2 (by simp)
  rw [er] at b1 b2 b3
  have hww : oX qn (bG s) (.agg #[.slice (some ⟨g 4, 0, none⟩) s.domains.length s.domains.length, .slice (some ⟨g 8, 0, none⟩) s.aB.length s.aB.length, .slice (some ⟨g 12, 0, none⟩) s.aU.length s.aU.length]) := by
   unfold oX bG
   simp only [List.length_replicate]
   exact ⟨_, _, _, _, _, _, rfl, b1, b2, b3⟩
  refine XK.Bj (R' := [qn, all w]) (by simp) ?_
  exact XK.aL [(5, .int .i64 ((i : Int) + 1)), (3, .pointer (some ⟨g3, 0, none⟩)), (2, .pointer (some ⟨g2, 0, none⟩)), (1, .pointer (some ⟨g1, 0, none⟩))] (XK.round (2 - (i + 1)) (by omega) ⟨i + 1, _, qn, by omega, rfl, Bc.next (hle qs (by simp)) hww hi hcs, hfn, rfl, rfl, rfl⟩)
 ·
  refine XK.exit ?_
  refine XK.norm ?_
  refine XK.seq ?_
  have hie : i = 2 := by have h' : ¬ (i : Int) < 2 := h; omega
  subst hie
  obtain ⟨a, b, c, a', b', c', rfl, hw1, hw2⟩ := hcs
  obtain ⟨D1, d1, D2, d2, D3, d3, e1, x1, x2, x3⟩ := hw1
  obtain ⟨F1, f1, F2, f2, F3, f3, e2, y1, y2, y3⟩ := hw2
  cases e1
  cases e2
  refine XK.region ?_
  refine gB 6 rfl ?_
  refine eA rfl rfl ?_; simp only [bZ, Value.cells, List.set, List.take, List.drop, List.nil_append, List.append_nil, List.length_cons, List.length_nil, List.cons_append, Nat.reduceAdd]
  refine XK.aA ?_
  refine XK.ret ?_
  refine XK.norm ?_
  exact XK.Bo rfl (by kernel_rfl) rfl rfl (aC.whole 1 rfl) fun w1 st => ⟨⟨_, rfl, by
   have hl := st.kX (by simp) Yw
   exact ⟨_, _, _, _, _, _, _, _, _, _, _, _, rfl, x1.le hl, x2.le hl, x3.le hl, y1.le hl, y2.le hl, y3.le hl⟩⟩, st.below (by simp)⟩
end
section
section
variable {P : Program} {N : cJ} {w0 : World} {e : Env} {R : List Piece} {H : List HP} {Q : Exit → Act → World → Prop} {ops : Array Oper} {rest : List Oper}
variable {d : Nat} {ty : TypeId} {pos : String} {aJ : Array Edge}
theorem aB3 {x : Operand} {a : Addr} (hx : e.ev x = some (.pointer (some a))) (hd : d < N.n) (k : XK N w0 (wpList P ops Q rest) ((d, .pointer (some a)) :: e) R H) : XK N w0 (wpList P ops Q (⟨some d, .nilCheck x, ty, pos, aJ, none⟩ :: rest)) e R H :=
 fH hd (fun b w hr => by simp [execOp, hr.ev hx]) k
end
def Ij (p : Piece) (A : Option Addr) (cU : List Ev) : Prop := aI p 14 A cU.length (cU.flatMap Ev.cells)
theorem Ij.le {p q : Piece} {A : Option Addr} {cU : List Ev} (h : Ij p A cU) (hl : p.Le q) : Ij q A cU := aI.le h hl
theorem Ij.ev {p : Piece} {b off : Nat} {cU : List Ev} (h : Ij p (some ⟨b, off, none⟩) cU) {k : Nat} {x : Ev} (hk : cU[k]? = some x) : p.Z b ∧ ∀ f u, x.cells[f]? = some u → p.w.cell? ⟨b, off + k * 14 + f, none⟩ = some u := by
 have hlt := (List.getElem?_eq_some_iff.1 hk).1
 obtain ⟨b', off', hA, hb, hc⟩ := aI.at_ h hlt
 cases hA
 refine ⟨hb, fun f u hu => hc f u ?_⟩
 have hf : f < 14 := by
  rw [← Ev.Hr x]
  rcases Nat.lt_or_ge f x.cells.length with h | h
  ·exact h
  ·rw [List.getElem?_eq_none h] at hu; cases hu
 rw [Aj Ev.cells 14 cU (fun _ _ => Ev.Hr _) k f x hk hf, hu]
end
section
set_option maxHeartbeats 4000000
set_option maxRecDepth 20000
def fJ (k : Int) : Prop := k = 117 ∨ k = 99 ∨ k = 114
instance (k : Int) : Decidable (fJ k) := by unfold fJ; infer_instance
def oH (s : aD) (p : Int) : Nat := if p = 17 then s.domains.length else if p = 20 then s.aB.length else if p = 22 then s.aU.length else 0
def dH (k : Int) (v0 v1 v2 : Value) : Value := if k = 117 ∨ k = 100 ∨ k = 107 then v0 else if k = 99 ∨ k = 111 then v1 else if k = 114 ∨ k = 97 then v2 else .slice none 0 0
def vU (k : Int) (x : bR) : List Bool := if k = 117 ∨ k = 100 ∨ k = 107 then x.d else if k = 99 ∨ k = 111 then x.c else if k = 114 ∨ k = 97 then x.l else []
def kF (x : bR) (k id : Int) : Bool := decide (0 ≤ id) && hasB (vU k x) id.toNat
theorem eK.thn {w w' : World} {g o : Nat} {v : Value} (h : eK w g o v) (hb : Below w.heap.size w w') : eK w' g o v := ⟨Nat.lt_of_lt_of_le h.1 hb.size, (hb.cell (p := ⟨g, o, none⟩) h.1).trans h.2⟩
def Hy (w : World) (g o : Nat) (x : bR) : Prop := ∃ A1 k1 A2 k2 A3 k3, eK w g o (.slice A1 x.d.length k1) ∧ eK w g (o + 1) (.slice A2 x.c.length k2) ∧ eK w g (o + 2) (.slice A3 x.l.length k3) ∧
 aI (all w) 1 A1 x.d.length (bU x.d) ∧ aI (all w) 1 A2 x.c.length (bU x.c) ∧ aI (all w) 1 A3 x.l.length (bU x.l)
theorem aEc {w : World} {x : bR} {A1 A2 A3 : Option Addr} {k1 k2 k3 : Nat} (h1 : aI (all w) 1 A1 x.d.length (bU x.d)) (h2 : aI (all w) 1 A2 x.c.length (bU x.c)) (h3 : aI (all w) 1 A3 x.l.length (bU x.l)) (k : Int) :
  ∃ A c, dH k (.slice A1 x.d.length k1) (.slice A2 x.c.length k2) (.slice A3 x.l.length k3) = .slice A (vU k x).length c ∧ aI (all w) 1 A (vU k x).length (bU (vU k x)) := by
 unfold dH vU
 split
 ·exact ⟨_, _, rfl, h1⟩
 ·split
  ·exact ⟨_, _, rfl, h2⟩
  ·split
   ·exact ⟨_, _, rfl, h3⟩
   ·exact ⟨_, _, rfl, aI.nil _ _⟩
theorem xH (k : Int) (w : World) :
  Calls Tryz.prog 96 #[.int .u8 k] w (Rt (.bool (decide (fJ k))) w) := by
 refine XK.enter (vs := [.int .u8 k]) Tryz.func96 rfl Tryz.ntmps96 (by simp) ?_
 refine XK.go ?_
 (first | refine bO (t := 5) rfl (fun hg => ?_) (fun hg => ?_) | refine iX (t := 5) rfl (fun hg => ?_) (fun hg => ?_))
 ·
  refine XK.go ?_
  exact XK.aK rfl rfl fun w1 st => ⟨by simp_all [fJ], st.below (by simp)⟩
 ·
  refine XK.go ?_
  (first | refine bO (t := 9) rfl (fun hg => ?_) (fun hg => ?_) | refine iX (t := 9) rfl (fun hg => ?_) (fun hg => ?_))
  ·
   refine XK.go ?_
   exact XK.aK rfl rfl fun w1 st => ⟨by simp_all [fJ], st.below (by simp)⟩
  ·
   refine XK.go ?_
   exact XK.aK rfl rfl fun w1 st => ⟨by simp_all [fJ], st.below (by simp)⟩
theorem aD5 (s : aD) (A1 A2 A3 A4 : Option Addr) (k1 k2 k3 k4 : Nat) (p : Int) (w : World) :
  Calls Tryz.prog 177 #[.agg #[.slice A1 s.aB.length k1, .slice A2 s.domains.length k2, .slice A3 s.aU.length k3, .slice A4 s.aG.length k4], .int .i64 p] w (Rt (.int .i64 (oH s p)) w) := by
 refine XK.enter (vs := [.agg #[.slice A1 s.aB.length k1, .slice A2 s.domains.length k2, .slice A3 s.aU.length k3, .slice A4 s.aG.length k4], .int .i64 p]) Tryz.func177 rfl Tryz.ntmps177 (by simp) ?_
 refine XK.go ?_
 refine bY rfl (by decide) fun g1 => ?_
 refine XK.go ?_
 refine XK.if_ rfl (fun h => ?_) (fun h => ?_)
 ·
  refine XK.go ?_
  exact XK.aK rfl rfl fun w1 st => ⟨by simp_all [oH], st.below (by simp)⟩
 ·
  refine XK.go ?_
  refine XK.if_ rfl (fun h => ?_) (fun h => ?_)
  ·
   refine XK.go ?_
   exact XK.aK rfl rfl fun w1 st => ⟨by simp_all [oH], st.below (by simp)⟩
  ·
   refine XK.go ?_
   refine XK.if_ rfl (fun h => ?_) (fun h => ?_)
   ·
    refine XK.go ?_
    exact XK.aK rfl rfl fun w1 st => ⟨by simp_all [oH], st.below (by simp)⟩
   ·
    refine XK.go ?_
    exact XK.aK rfl rfl fun w1 st => ⟨by simp_all [oH], st.below (by simp)⟩
theorem Pk (g o : Nat) (k : Int) (v0 v1 v2 : Value) (w : World) (h0 : eK w g o v0) (h1 : eK w g (o + 1) v1) (h2 : eK w g (o + 2) v2) :
  Calls Tryz.prog 179 #[.pointer (some ⟨g, o, none⟩), .int .u8 k] w (Rt (dH k v0 v1 v2) w) := by
 refine XK.enter (vs := [.pointer (some ⟨g, o, none⟩), .int .u8 k]) Tryz.func179 rfl Tryz.ntmps179 (by simp) ?_
 refine XK.go ?_
 refine XK.if_ rfl (fun h => ?_) (fun h => ?_)
 ·
  refine XK.go ?_
  refine XK.if_ rfl (fun h => ?_) (fun h => ?_)
  ·
   refine XK.go ?_
   exact XK.aK rfl rfl fun w1 st => ⟨by simp_all [dH], st.below (by simp)⟩
  ·
   refine XK.go ?_
   refine XK.if_ rfl (fun h => ?_) (fun h => ?_)
   ·
    refine XK.go ?_
    refine XK.if_ rfl (fun h => ?_) (fun h => ?_)
    ·
     refine XK.go ?_
     exact XK.aK rfl rfl fun w1 st => ⟨by simp_all [dH], st.below (by simp)⟩
    ·
     refine XK.go ?_
     refine XK.if_ rfl (fun h => ?_) (fun h => ?_)
     ·
      refine XK.go ?_
      refine XK.if_ rfl (fun h => ?_) (fun h => ?_)
      ·
       refine XK.go ?_
       exact XK.aK rfl rfl fun w1 st => ⟨by simp_all [dH], st.below (by simp)⟩
      ·
       refine XK.go ?_
       exact XK.aK rfl rfl fun w1 st => ⟨by simp_all [dH], st.below (by simp)⟩
     ·
      refine XK.go ?_
      refine XK.if_ rfl (fun h => ?_) (fun h => ?_)
      ·
       refine XK.go ?_
       exact XK.aK rfl rfl fun w1 st => ⟨by simp_all [dH], st.below (by simp)⟩
      ·
       refine XK.go ?_
       exact XK.aK rfl rfl fun w1 st => ⟨by simp_all [dH], st.below (by simp)⟩
   ·
    refine XK.go ?_
    refine XK.if_ rfl (fun h => ?_) (fun h => ?_)
    ·
     refine XK.go ?_
     exact XK.aK rfl rfl fun w1 st => ⟨by simp_all [dH], st.below (by simp)⟩
    ·
     refine XK.go ?_
     refine XK.if_ rfl (fun h => ?_) (fun h => ?_)
     ·
      refine XK.go ?_
      refine XK.if_ rfl (fun h => ?_) (fun h => ?_)
      ·
       refine XK.go ?_
       exact XK.aK rfl rfl fun w1 st => ⟨by simp_all [dH], st.below (by simp)⟩
      ·
       refine XK.go ?_
       exact XK.aK rfl rfl fun w1 st => ⟨by simp_all [dH], st.below (by simp)⟩
     ·
      refine XK.go ?_
      refine XK.if_ rfl (fun h => ?_) (fun h => ?_)
      ·
       refine XK.go ?_
       exact XK.aK rfl rfl fun w1 st => ⟨by simp_all [dH], st.below (by simp)⟩
      ·
       refine XK.go ?_
       exact XK.aK rfl rfl fun w1 st => ⟨by simp_all [dH], st.below (by simp)⟩
 ·
  refine XK.go ?_
  refine XK.if_ rfl (fun h => ?_) (fun h => ?_)
  ·
   refine XK.go ?_
   refine XK.if_ rfl (fun h => ?_) (fun h => ?_)
   ·
    refine XK.go ?_
    exact XK.aK rfl rfl fun w1 st => ⟨by simp_all [dH], st.below (by simp)⟩
   ·
    refine XK.go ?_
    refine XK.if_ rfl (fun h => ?_) (fun h => ?_)
    ·
     refine XK.go ?_
     refine XK.if_ rfl (fun h => ?_) (fun h => ?_)
     ·
      refine XK.go ?_
      exact XK.aK rfl rfl fun w1 st => ⟨by simp_all [dH], st.below (by simp)⟩
     ·
      refine XK.go ?_
      refine XK.if_ rfl (fun h => ?_) (fun h => ?_)
      ·
       refine XK.go ?_
       refine XK.if_ rfl (fun h => ?_) (fun h => ?_)
       ·
        refine XK.go ?_
        exact XK.aK rfl rfl fun w1 st => ⟨by simp_all [dH], st.below (by simp)⟩
       ·
        refine XK.go ?_
        exact XK.aK rfl rfl fun w1 st => ⟨by simp_all [dH], st.below (by simp)⟩
      ·
       refine XK.go ?_
       refine XK.if_ rfl (fun h => ?_) (fun h => ?_)
       ·
        refine XK.go ?_
        exact XK.aK rfl rfl fun w1 st => ⟨by simp_all [dH], st.below (by simp)⟩
       ·
        refine XK.go ?_
        exact XK.aK rfl rfl fun w1 st => ⟨by simp_all [dH], st.below (by simp)⟩
    ·
     refine XK.go ?_
     refine XK.if_ rfl (fun h => ?_) (fun h => ?_)
     ·
      refine XK.go ?_
      exact XK.aK rfl rfl fun w1 st => ⟨by simp_all [dH], st.below (by simp)⟩
     ·
      refine XK.go ?_
      refine XK.if_ rfl (fun h => ?_) (fun h => ?_)
      ·
       refine XK.go ?_
       refine XK.if_ rfl (fun h => ?_) (fun h => ?_)
       ·
        refine XK.go ?_
        exact XK.aK rfl rfl fun w1 st => ⟨by simp_all [dH], st.below (by simp)⟩
       ·
        refine XK.go ?_
        exact XK.aK rfl rfl fun w1 st => ⟨by simp_all [dH], st.below (by simp)⟩
      ·
       refine XK.go ?_
       refine XK.if_ rfl (fun h => ?_) (fun h => ?_)
       ·
        refine XK.go ?_
        exact XK.aK rfl rfl fun w1 st => ⟨by simp_all [dH], st.below (by simp)⟩
       ·
        refine XK.go ?_
        exact XK.aK rfl rfl fun w1 st => ⟨by simp_all [dH], st.below (by simp)⟩
  ·
   refine XK.go ?_
   refine XK.if_ rfl (fun h => ?_) (fun h => ?_)
   ·
    refine XK.go ?_
    exact XK.aK rfl rfl fun w1 st => ⟨by simp_all [dH], st.below (by simp)⟩
   ·
    refine XK.go ?_
    refine XK.if_ rfl (fun h => ?_) (fun h => ?_)
    ·
     refine XK.go ?_
     refine XK.if_ rfl (fun h => ?_) (fun h => ?_)
     ·
      refine XK.go ?_
      exact XK.aK rfl rfl fun w1 st => ⟨by simp_all [dH], st.below (by simp)⟩
     ·
      refine XK.go ?_
      refine XK.if_ rfl (fun h => ?_) (fun h => ?_)
      ·
       refine XK.go ?_
       refine XK.if_ rfl (fun h => ?_) (fun h => ?_)
       ·
        refine XK.go ?_
        exact XK.aK rfl rfl fun w1 st => ⟨by simp_all [dH], st.below (by simp)⟩
       ·
        refine XK.go ?_
        exact XK.aK rfl rfl fun w1 st => ⟨by simp_all [dH], st.below (by simp)⟩
      ·
       refine XK.go ?_
       refine XK.if_ rfl (fun h => ?_) (fun h => ?_)
       ·
        refine XK.go ?_
        exact XK.aK rfl rfl fun w1 st => ⟨by simp_all [dH], st.below (by simp)⟩
       ·
        refine XK.go ?_
        exact XK.aK rfl rfl fun w1 st => ⟨by simp_all [dH], st.below (by simp)⟩
    ·
     refine XK.go ?_
     refine XK.if_ rfl (fun h => ?_) (fun h => ?_)
     ·
      refine XK.go ?_
      exact XK.aK rfl rfl fun w1 st => ⟨by simp_all [dH], st.below (by simp)⟩
     ·
      refine XK.go ?_
      refine XK.if_ rfl (fun h => ?_) (fun h => ?_)
      ·
       refine XK.go ?_
       refine XK.if_ rfl (fun h => ?_) (fun h => ?_)
       ·
        refine XK.go ?_
        exact XK.aK rfl rfl fun w1 st => ⟨by simp_all [dH], st.below (by simp)⟩
       ·
        refine XK.go ?_
        exact XK.aK rfl rfl fun w1 st => ⟨by simp_all [dH], st.below (by simp)⟩
      ·
       refine XK.go ?_
       refine XK.if_ rfl (fun h => ?_) (fun h => ?_)
       ·
        refine XK.go ?_
        exact XK.aK rfl rfl fun w1 st => ⟨by simp_all [dH], st.below (by simp)⟩
       ·
        refine XK.go ?_
        exact XK.aK rfl rfl fun w1 st => ⟨by simp_all [dH], st.below (by simp)⟩
theorem Np (g ag : Nat) (x : bR) (k id : Int) (w : World) (hag : ag < 2) (hM : Hy w g (ag * 3) x) :
  Calls Tryz.prog 95 #[.pointer (some ⟨g, 0, none⟩), .int .i64 (ag : Int), .int .u8 k, .int .i64 id] w (Rt (.bool (kF x k id)) w) := by
 obtain ⟨A1, k1, A2, k2, A3, k3, h1, h2, h3, s1, s2, s3⟩ := hM
 obtain ⟨A, c, hL, hS⟩ := aEc (k1 := k1) (k2 := k2) (k3 := k3) s1 s2 s3 k
 refine XK.enter (vs := [.pointer (some ⟨g, 0, none⟩), .int .i64 (ag : Int), .int .u8 k, .int .i64 id]) Tryz.func95 rfl Tryz.ntmps95 (by simp) ?_
 refine XK.seq ?_
 refine XK.region ?_
 refine aH rfl (by decide) ?_
 refine XK.aA ?_
 refine XK.seq ?_
 refine XK.region ?_
 refine aF rfl (by decide) ?_
 refine aF rfl (by decide) ?_
 refine aB3 rfl (by decide) ?_
 refine aW (off := 0) (by kernel_rfl) rfl (by decide) ?_
 refine Ni (ag) (ag * 3) (n := 2) (el := 68) (sz := 3) (by kernel_rfl) (by kernel_rfl) rfl rfl (by omega) (by omega) (by omega) (by decide) ?_
 refine aF rfl (by decide) ?_
 refine bA (f := 179) (fi := []) (ca := []) (by kernel_rfl) rfl rfl (by decide) (fun w1 st => Pk g (ag * 3) k _ _ _ w1 (h1.thn (st.below (by simp))) (h2.thn (st.below (by simp))) (h3.thn (st.below (by simp)))) ?_
 rw [hL]
 refine aH rfl (by decide) ?_
 refine XK.aA ?_
 refine XK.seq ?_
 refine XK.region ?_
 refine aF rfl (by decide) ?_
 refine uK rfl rfl (by decide) ?_
 refine aF rfl (by decide) ?_
 (first | refine bO (t := 19) rfl (fun hg => ?_) (fun hg => ?_) | refine iX (t := 19) rfl (fun hg => ?_) (fun hg => ?_))
 ·
  refine aO rfl rfl ?_; refine aF rfl (by decide) ?_
  refine aO rfl rfl ?_; refine aF rfl (by decide) ?_
  refine aO rfl rfl ?_; refine cY (el := 4) (by kernel_rfl) rfl (by decide) ?_
  refine aO rfl rfl ?_; refine fB rfl rfl (by decide) ?_
  (first | refine bJ rfl rfl (by decide) ?_ | refine bK rfl rfl (by decide) ?_)
  refine aF rfl (by decide) ?_
  (first | refine bO (t := 25) rfl (fun hg => ?_) (fun hg => ?_) | refine iX (t := 25) rfl (fun hg => ?_) (fun hg => ?_))
  ·
   obtain ⟨i, rfl⟩ : ∃ i : Nat, id = (i : Int) := ⟨id.toNat, by omega⟩
   have hil : i < (vU k x).length := by omega
   obtain ⟨b, off, rfl, hz, hc⟩ := hS.2 (by omega)
   obtain ⟨v, hv⟩ : ∃ v, (vU k x)[i]? = some v := ⟨_, List.getElem?_eq_getElem hil⟩
   refine aO rfl rfl ?_; refine aF rfl (by decide) ?_
   refine aO rfl rfl ?_; refine aF rfl (by decide) ?_
   refine aO rfl rfl ?_; refine dB (i) (off + i) (el := 4) (sz := 1) (by kernel_rfl) (by kernel_rfl) rfl rfl (by omega) (by omega) (by omega) (by decide) ?_
   refine aO rfl rfl ?_; refine fI (by kernel_rfl) rfl (Rd.ro (p := all w) (by simp) hz (hc i _ (aGX hv))) (by decide) ?_
   (first | refine bJ rfl rfl (by decide) ?_ | refine bK rfl rfl (by decide) ?_)
   refine aH rfl (by decide) ?_
   refine XK.aA ?_
   refine XK.ret ?_
   refine XK.norm ?_
   exact XK.aK rfl rfl fun w1 st => ⟨by simp [kF, hasB, hv], st.below (by simp)⟩
  ·
   refine aN rfl rfl rfl (by decide) ?_
   refine aN rfl rfl rfl (by decide) ?_
   refine aN rfl rfl rfl (by decide) ?_
   refine aN rfl rfl rfl (by decide) ?_
   (first | refine bJ rfl rfl (by decide) ?_ | refine bK rfl rfl (by decide) ?_)
   refine aH rfl (by decide) ?_
   refine XK.aA ?_
   refine XK.ret ?_
   refine XK.norm ?_
   have hn : hasB (vU k x) id.toNat = false := by rw [hasB, List.getElem?_eq_none (by omega)]; rfl
   exact XK.aK rfl rfl fun w1 st => ⟨by simp [kF, hn], st.below (by simp)⟩
 ·
  refine aN rfl rfl rfl (by decide) ?_
  refine aN rfl rfl rfl (by decide) ?_
  refine aN rfl rfl rfl (by decide) ?_
  refine aN rfl rfl rfl (by decide) ?_
  (first | refine bJ rfl rfl (by decide) ?_ | refine bK rfl rfl (by decide) ?_)
  refine aF rfl (by decide) ?_
  refine aN rfl rfl rfl (by decide) ?_
  refine aN rfl rfl rfl (by decide) ?_
  refine aN rfl rfl rfl (by decide) ?_
  refine aN rfl rfl rfl (by decide) ?_
  (first | refine bJ rfl rfl (by decide) ?_ | refine bK rfl rfl (by decide) ?_)
  refine aH rfl (by decide) ?_
  refine XK.aA ?_
  refine XK.ret ?_
  refine XK.norm ?_
  have hn : decide (0 ≤ id) = false := by simp; omega
  exact XK.aK rfl rfl fun w1 st => ⟨by simp [kF, hn], st.below (by simp)⟩
end
section
set_option maxHeartbeats 4000000
set_option maxRecDepth 20000
def Ib (w : World) (g : Nat) (x y : bR) : Prop := ∀ i, i < 2 → Hy w g (i * 3) (if i = 0 then x else y)
def lW (x y : bR) (k id : Int) : Bool := kF x k id || kF y k id
theorem Hy.thn {w w' : World} {g o : Nat} {x : bR} (h : Hy w g o x) (hb : Below w.heap.size w w') : Hy w' g o x := by
 obtain ⟨A1, k1, A2, k2, A3, k3, h1, h2, h3, s1, s2, s3⟩ := h
 have hl : (all w).Le (all w') := fun b hb' => ⟨Nat.lt_of_lt_of_le hb' hb.size, hb.block b hb'⟩
 exact ⟨A1, k1, A2, k2, A3, k3, h1.thn hb, h2.thn hb, h3.thn hb, s1.le hl, s2.le hl, s3.le hl⟩
theorem Ib.thn {w w' : World} {g : Nat} {x y : bR} (h : Ib w g x y) (hb : Below w.heap.size w w') : Ib w' g x y := fun i hi => (h i hi).thn hb
theorem Nq (g : Nat) (x y : bR) (k id : Int) (w : World) (hM : Ib w g x y) :
  Calls Tryz.prog 97 #[.pointer (some ⟨g, 0, none⟩), .int .u8 k, .int .i64 id] w (Rt (.bool (lW x y k id)) w) := by
 refine XK.enter (vs := [.pointer (some ⟨g, 0, none⟩), .int .u8 k, .int .i64 id]) Tryz.func97 rfl Tryz.ntmps97 (by simp) ?_
 refine XK.go ?_
 refine XK.aL [(8, .int .i64 0), (2, .int .i64 id), (1, .int .u8 k), (0, .pointer (some ⟨g, 0, none⟩))] ?_
 refine XK.go ?_
 refine XK.loop (fun m e R H => ∃ (i : Nat), i ≤ 2 ∧ m = 2 - i ∧ (∀ j, j < i → kF (if j = 0 then x else y) k id = false) ∧ e = [(8, .int .i64 i), (2, .int .i64 id), (1, .int .u8 k), (0, .pointer (some ⟨g, 0, none⟩))] ∧ R = [all w] ∧ H = []) 2 ⟨0, by omega, rfl, (fun j hj => absurd hj (Nat.not_lt_zero j)), rfl, rfl, rfl⟩ fun m e R H hI => ?_
 obtain ⟨i, hi, rfl, hno, rfl, rfl, rfl⟩ := hI
 refine XK.go ?_
 refine XK.if_ rfl (fun h => ?_) (fun h => ?_)
 ·
  refine XK.go ?_
  have hi2 : i < 2 := by have h' : (i : Int) < 2 := h; omega
  refine bA (f := 95) (fi := []) (ca := []) (by kernel_rfl) rfl rfl (by decide) (fun w1 st => Np g i (if i = 0 then x else y) k id w1 hi2 ((hM i hi2).thn (st.below (by simp)))) ?_
  refine XK.go ?_
  refine XK.cond rfl (fun hw => ?_) (fun hw => ?_)
  ·
   refine XK.go ?_
   have hr : lW x y k id = true := by
    unfold lW
    rcases (by omega : i = 0 ∨ i = 1) with rfl | rfl
    ·simp at hw; simp [hw]
    ·simp at hw; simp [hw]
   exact XK.aK rfl rfl fun w1 st => ⟨by rw [hr], st.below (by simp)⟩
  ·
   refine XK.go ?_
   exact XK.aL [(8, .int .i64 ((i : Int) + 1)), (2, .int .i64 id), (1, .int .u8 k), (0, .pointer (some ⟨g, 0, none⟩))] (XK.round (2 - (i + 1)) (by omega) ⟨i + 1, by omega, rfl, (fun j hj => by
    rcases Nat.lt_or_ge j i with h1 | h1
    ·exact hno j h1
    ·obtain rfl : j = i := by omega
     exact hw), rfl, rfl, rfl⟩)
 ·
  refine XK.go ?_
  have hi2 : i = 2 := by have h' : ¬ (i : Int) < 2 := h; omega
  subst hi2
  have e0 := hno 0 (by omega)
  have e1 := hno 1 (by omega)
  have hr : lW x y k id = false := by
   unfold lW
   simp at e0 e1
   simp [e0, e1]
  exact XK.aK rfl rfl fun w1 st => ⟨by rw [hr], st.below (by simp)⟩
theorem Vb (k : Int) (A : Option Addr) (n c : Nat) (r m d l : Int) (w : World) :
  Calls Tryz.prog 178 #[.agg #[.int .u8 k, .slice A n c, .int .u64 r, .int .i64 m, .int .i64 d, .int .i64 l]] w (Rt (.bool (decide (k = 112 ∨ k = 103))) w) := by
 refine XK.enter (vs := [.agg #[.int .u8 k, .slice A n c, .int .u64 r, .int .i64 m, .int .i64 d, .int .i64 l]]) Tryz.func178 rfl Tryz.ntmps178 (by simp) ?_
 refine XK.go ?_
 refine bY rfl (by decide) fun g1 => ?_
 refine XK.go ?_
 (first | refine bO (t := 6) rfl (fun hg => ?_) (fun hg => ?_) | refine iX (t := 6) rfl (fun hg => ?_) (fun hg => ?_))
 ·
  refine XK.go ?_
  exact XK.aK rfl rfl fun w1 st => ⟨by simp_all, st.below (by simp)⟩
 ·
  refine XK.go ?_
  exact XK.aK rfl rfl fun w1 st => ⟨by simp_all, st.below (by simp)⟩
end
section
def kP (p : Int × Int) : Value := .agg #[.int .i64 p.1, .int .i64 p.2]
def yF (w : World) (r : Nat) (l : List ((Int × Int) × Value)) : Prop := ∃ es clock, w.heap[r]? = some (.map es clock) ∧ es.toList.map (fun x => (x.key, x.val)) = l.map fun p => (kP p.1, p.2)
def gK (l : List ((Int × Int) × Value)) (k : Int × Int) : Option Value := (l.find? fun p => decide (p.1 = k)).map (·.2)
theorem yX (a : Int × Int) (b : Value) (l : List ((Int × Int) × Value)) (k : Int × Int) : gK ((a, b) :: l) k = if a = k then some b else gK l k := by
 unfold gK
 rw [List.find?_cons]
 by_cases h : a = k <;> simp [h]
section
variable {P : Program} {w : World} {kt : TypeId}
theorem aFH (hfl : ∀ a b c d : Int, Cl P kt [.int .i64 a, .int .i64 b] [.int .i64 c, .int .i64 d] = true) (p q : Int × Int) : (Op.equal kt (kP p) (kP q)).run P w = .ok (decide (q = p)) w := by
 obtain ⟨h, _⟩ := aCz (P := P) (w := w) (hfl p.1 p.2 q.1 q.2)
 rw [show kP p = .agg [Value.int .i64 p.1, .int .i64 p.2].toArray from rfl, show kP q = .agg [Value.int .i64 q.1, .int .i64 q.2].toArray from rfl, h]
 congr 1
 obtain ⟨a, b⟩ := p
 obtain ⟨c, d⟩ := q
 simp only [Cm, Lo, Prod.mk.injEq]
 by_cases h1 : a = c
 ·subst h1
  by_cases h2 : b = d
  ·subst h2; simp
  ·have h3 : ¬ d = b := fun e => h2 e.symm
   simp [h2, h3]
 ·have h3 : ¬ c = a := fun e => h1 e.symm
  simp [h1, h3]
theorem aAP (hfl : ∀ a b c d : Int, Cl P kt [.int .i64 a, .int .i64 b] [.int .i64 c, .int .i64 d] = true) (k : Int × Int) : ∀ (es : List MapEntry) (l : List ((Int × Int) × Value)) (i : Nat), es.map (fun x => (x.key, x.val)) = l.map (fun p => (kP p.1, p.2)) →
  ∃ q, (Instr.findAsking kt (kP k) es i).run P w = .ok q w ∧ q.map (·.2) = gK l k
 | [], l, i, h => by
  cases l with
  | nil => exact ⟨none, by simp [Instr.findAsking], rfl⟩
  | cons _ _ => cases h
 | e :: es, l, i, h => by
  cases l with
  | nil => cases h
  | cons p l =>
   simp only [List.map_cons, List.cons.injEq, Prod.mk.injEq] at h
   obtain ⟨⟨h1, h2⟩, h3⟩ := h
   obtain ⟨q, zI, mB⟩ := aAP hfl k es l (i + 1) h3
   obtain ⟨a, b⟩ := p
   have he := aFH (w := w) hfl k a
   rw [← h1] at he
   by_cases hk : a = k
   ·refine ⟨some (i, e.val), ?_, ?_⟩
    ·unfold Instr.findAsking
     simp [Sem.run_bind, he, hk]
    ·rw [yX, if_pos hk]; simp [h2]
   ·refine ⟨q, ?_, ?_⟩
    ·unfold Instr.findAsking
     simp [Sem.run_bind, he, hk, zI]
    ·rw [yX, if_neg hk]; exact mB
theorem aAD {f0 f1 : Field} {k0 k1 : IntKind} (hk : P.underlying kt = some (.struct #[f0, f1])) (h0 : P.underlying f0.type = some (.int k0)) (h1 : P.underlying f1.type = some (.int k1)) (o0 : f0.offset = 0) (o1 : f1.offset = 1) (p : Int × Int) (b : Bool) : (Instr.checkKey b 10000 kt (kP p)).run P w = .ok () w := by
 have e0 := Ji (P := P) (w := w) (cs := #[.int .i64 p.1, .int .i64 p.2]) (i := 0) (v := .int .i64 p.1) h0 (.inl ⟨_, rfl⟩) rfl
 have e1 := Ji (P := P) (w := w) (cs := #[.int .i64 p.1, .int .i64 p.2]) (i := 1) (v := .int .i64 p.2) h1 (.inl ⟨_, rfl⟩) rfl
 have c0 : (Instr.checkKey b 9999 f0.type (.int .i64 p.1)).run P w = .ok () w := by
  unfold Instr.checkKey
  simp [Sem.run_bind, run_underlying h0]
 have c1 : (Instr.checkKey b 9999 f1.type (.int .i64 p.2)).run P w = .ok () w := by
  unfold Instr.checkKey
  simp [Sem.run_bind, run_underlying h1]
 unfold Instr.checkKey kP
 by_cases n0 : f0.name = "_" <;> by_cases n1 : f1.name = "_" <;> simp [Sem.run_bind, run_underlying hk, n0, n1, o0, o1, e0, e1, c0, c1]
end
structure uI (P : Program) (kt : TypeId) : Prop where
 st : ∃ f0 f1 k0 k1, P.underlying kt = some (.struct #[f0, f1]) ∧ P.underlying f0.type = some (.int k0) ∧ P.underlying f1.type = some (.int k1) ∧ f0.offset = 0 ∧ f1.offset = 1
 fl : ∀ a b c d : Int, Cl P kt [.int .i64 a, .int .i64 b] [.int .i64 c, .int .i64 d] = true
theorem uI.of {P : Program} {kt : TypeId} {f0 f1 : Field} {k0 k1 : IntKind} (h : P.underlying kt = some (.struct #[f0, f1])) (h0 : P.underlying f0.type = some (.int k0)) (h1 : P.underlying f1.type = some (.int k1)) (o0 : f0.offset = 0) (o1 : f1.offset = 1) (fl : ∀ a b c d : Int, Cl P kt [.int .i64 a, .int .i64 b] [.int .i64 c, .int .i64 d] = true) : uI P kt := ⟨⟨f0, f1, k0, k1, h, h0, h1, o0, o1⟩, fl⟩
section
variable {P : Program} {w : World} {t kt et : TypeId} {r : Nat} {l : List ((Int × Int) × Value)}
theorem aAn (hk : uI P kt) (k : Int × Int) (es : List MapEntry) (h : es.map (fun x => (x.key, x.val)) = l.map (fun p => (kP p.1, p.2))) : ∃ q, (Instr.findKey kt (kP k) es).run P w = .ok q w ∧ q.map (·.2) = gK l k := by
 obtain ⟨f0, f1, k0, k1, hu, _⟩ := hk.st
 obtain ⟨q, h1, h2⟩ := aAP (w := w) hk.fl k es l 0 h
 cases es with
 | nil =>
  cases l with
  | cons _ _ => cases h
  | nil => exact ⟨none, by simp [Instr.findKey, Sem.run_bind, run_underlying hu, Instr.findNow], rfl⟩
 | cons e es =>
  refine ⟨q, ?_, h2⟩
  unfold Instr.findKey
  have : Instr.findNow (.struct #[f0, f1]) (kP k) (e :: es) 0 = none := by
   unfold Instr.findNow Instr.sameNow
   rfl
  simp [Sem.run_bind, run_underlying hu, this, h1]
theorem aCu {z : Value} (ht : P.underlying t = some (.map kt et)) (hk : uI P kt) (hz : ∀ w, (zeroValue et).run P w = .ok z w) (h : yF w r l) (k : Int × Int) (ok : Bool) :
  (Instr.lookup t (.map (some r)) (kP k) ok).run P w = .ok (if ok then .tuple #[(gK l k).getD z, .bool (gK l k).isSome] else (gK l k).getD z) w := by
 obtain ⟨es, c, h1, h2⟩ := h
 obtain ⟨q, hf, mB⟩ := aAn (w := w) hk k es.toList h2
 obtain ⟨f0, f1, k0, k1, hu, u0, u1, o0, o1⟩ := hk.st
 have hc := fun b => aAD (w := w) hu u0 u1 o0 o1 k b
 unfold Instr.lookup
 rw [← mB]
 cases q with
 | none => cases ok <;> simp [Sem.run_bind, run_underlying ht, run_getObj_map h1, hc, hf, hz]
 | some x => obtain ⟨j, v⟩ := x; cases ok <;> simp [Sem.run_bind, run_underlying ht, run_getObj_map h1, hc, hf]
theorem aCw (ht : P.underlying t = some (.map kt et)) (hk : uI P kt) (h : yF w r l) (k : Int × Int) (v : Value) (hno : gK l k = none) :
  ∃ es c, (Instr.mapUpdate t (.map (some r)) (kP k) v).run P w = .ok () { w with heap := w.heap.setIfInBounds r (.map es c) } ∧ es.toList.map (fun x => (x.key, x.val)) = (l ++ [(k, v)]).map fun p => (kP p.1, p.2) := by
 obtain ⟨es, c, h1, h2⟩ := h
 obtain ⟨q, hf, mB⟩ := aAn (w := w) hk k es.toList h2
 obtain ⟨f0, f1, k0, k1, hu, u0, u1, o0, o1⟩ := hk.st
 have hc := fun b => aAD (w := w) hu u0 u1 o0 o1 k b
 have jT : ∀ o, (setObj r o).run P w = .ok () { w with heap := w.heap.setIfInBounds r o } := fun o => by simp [setObj, Sem.run, h1]
 rw [hno] at mB
 obtain rfl : q = none := by cases q with | none => rfl | some x => cases mB
 refine ⟨es.push { key := kP k, val := v, born := c }, c + 1, ?_, ?_⟩
 ·unfold Instr.mapUpdate
  simp [Sem.run_bind, run_underlying ht, run_getObj_map h1, hc, hf, jT]
 ·rw [Array.toList_push, List.map_append, h2]
  simp
end
def HP.oI (r : Nat) (l : List ((Int × Int) × Value)) : HP := ⟨fun F w => F r ∧ yF w r l, fun F w w' h hk => ⟨h.1, by
 obtain ⟨es, c, h1, h2⟩ := h.2
 exact ⟨es, c, (hk r h.1).trans h1, h2⟩⟩⟩
theorem yF.lt {w : World} {r : Nat} {l : List ((Int × Int) × Value)} (h : yF w r l) : r < w.heap.size := by
 obtain ⟨es, c, h1, _⟩ := h
 rcases Nat.lt_or_ge r w.heap.size with h | h
 ·exact h
 ·rw [Array.getElem?_eq_none h] at h1; cases h1
section
variable {P : Program} {N : cJ} {w0 w : World} {e : Env} {R : List Piece} {H : List HP} {Q : Exit → Act → World → Prop} {ops : Array Oper} {rest : List Oper}
variable {d : Nat} {ty : TypeId} {pos : String} {aJ : Array Edge}
theorem St.oI (st : St w0 R H w) {i r : Nat} {l : List ((Int × Int) × Value)} (hi : H[i]? = some (HP.oI r l)) : yF w r l := (st.sat hi).choose_spec.2
theorem aB5 {t : TypeId} (hd : d < N.n) (k : ∀ g, XK N w0 (wpList P ops Q rest) ((d, .map (some g)) :: e) R (HP.oI g [] :: H)) : XK N w0 (wpList P ops Q (⟨some d, .makeMap t none, ty, pos, aJ, none⟩ :: rest)) e R H :=
 pM rfl fun a w hr st => ⟨.map (some w.heap.size), w.alloc (.map #[] 0), by simp [execOp, Instr.makeMap], k w.heap.size _ _ (hr.put hd _) (st.new (De w _) ⟨⟨Nat.le_refl _, by simp⟩, #[], 0, heap_alloc_new w _, rfl⟩)⟩
theorem aB9 {x y : Operand} {t kt et : TypeId} {z : Value} {r : Nat} {l : List ((Int × Int) × Value)} {k : Int × Int} (ok : Bool) (ht : P.underlying t = some (.map kt et)) (hk : uI P kt) (hz : (P.info? et).bind (·.zero) = some z)
  (hx : e.ev x = some (.map (some r))) (hy : e.ev y = some (kP k)) (hm : ∀ w, St w0 R H w → yF w r l) (hd : d < N.n)
  (kk : XK N w0 (wpList P ops Q rest) ((d, if ok then .tuple #[(gK l k).getD z, .bool (gK l k).isSome] else (gK l k).getD z) :: e) R H) : XK N w0 (wpList P ops Q (⟨some d, .lookup t x y ok, ty, pos, aJ, none⟩ :: rest)) e R H :=
 pM rfl fun a w hr st => ⟨_, w, by simp only [execOp, hr.ev hx, hr.ev hy, Sem.run_bind, aCu ht hk (zeroV hz) (hm w st), Result.andThen_ok, Sem.run_pure], kk _ _ (hr.put hd _) st⟩
theorem Na {x y : Operand} {t kt et : TypeId} {z v : Value} {r : Nat} {l : List ((Int × Int) × Value)} {k : Int × Int} {b : Bool} (ht : P.underlying t = some (.map kt et)) (hk : uI P kt) (hz : (P.info? et).bind (·.zero) = some z)
  (hx : e.ev x = some (.map (some r))) (hy : e.ev y = some (kP k)) (hm : ∀ w, St w0 R H w → yF w r l) (hv : (gK l k).getD z = v) (hb : (gK l k).isSome = b) (hd : d < N.n)
  (kk : XK N w0 (wpList P ops Q rest) ((d, .tuple #[v, .bool b]) :: e) R H) : XK N w0 (wpList P ops Q (⟨some d, .lookup t x y true, ty, pos, aJ, none⟩ :: rest)) e R H :=
 aB9 true ht hk hz hx hy hm hd (by subst hv; subst hb; exact kk)
theorem aBB (i : Nat) {x y u : Operand} {t kt et : TypeId} {r : Nat} {l : List ((Int × Int) × Value)} {k : Int × Int} {v : Value} (ht : P.underlying t = some (.map kt et)) (hk : uI P kt) (hi : H[i]? = some (HP.oI r l)) (hno : gK l k = none)
  (hx : e.ev x = some (.map (some r))) (hy : e.ev y = some (kP k)) (hu : e.ev u = some v) (kk : XK N w0 (wpList P ops Q rest) e R (H.set i (HP.oI r (l ++ [(k, v)])))) : XK N w0 (wpList P ops Q (⟨none, .insert t x y u, ty, pos, aJ, none⟩ :: rest)) e R H :=
 My rfl rfl fun a w hr st => by
  have hm := st.oI hi
  have hlt := hm.lt
  obtain ⟨es, c, hrun, hl⟩ := aCw (P := P) ht hk hm k v hno
  refine ⟨{ w with heap := w.heap.setIfInBounds r (.map es c) }, by simp only [execOp, hr.ev hx, hr.ev hy, hr.ev hu, Sem.run_bind, hrun, Result.andThen_ok, Sem.run_pure], kk _ _ hr ?_⟩
  refine st.rQ hi (by simp) rfl rfl rfl fun F hF hb => ⟨F, ⟨hF.1, es, c, by simp [Array.getElem?_setIfInBounds, hlt], hl⟩, fun b h => ⟨.inl h, by simpa using hb b h⟩, fun b hb hnb => ?_⟩
  rw [Array.getElem?_setIfInBounds]
  split
  ·rename_i he; exact absurd (he ▸ hF.1) hnb
  ·rfl
end
end
section
theorem Xg : ∀ (sub : List Nat) (l : Array Bool), (iK sub l).size = l.size
 | [], l => rfl
 | i :: sub, l => by
  show ((iK sub l).setIfInBounds i true).size = _
  rw [Array.size_setIfInBounds, Xg sub l]
theorem Pd : ∀ (sub : List Nat) (l : Array Bool) (i : Nat) (b : Bool), i ∈ sub → i < l.size → (iK sub l).getD i b = true
 | j :: sub, l, i, b, h, hi => by
  show ((iK sub l).setIfInBounds j true).getD i b = true
  by_cases e : j = i
  ·subst e
   have : j < (iK sub l).size := by rw [Xg]; exact hi
   simp [this]
  ·rw [getD_set_ne b e]
   rcases List.mem_cons.1 h with h | h
   ·exact absurd h.symm e
   ·exact Pd sub l i b h hi
theorem Ey : ∀ (sub : List Nat) (l : Array Bool) (i : Nat) (b : Bool), i ∉ sub → (iK sub l).getD i b = l.getD i b
 | [], l, i, b, _ => rfl
 | j :: sub, l, i, b, h => by
  show ((iK sub l).setIfInBounds j true).getD i b = _
  have e : j ≠ i := fun e => h (by simp [e])
  rw [getD_set_ne b e]
  exact Ey sub l i b fun h2 => h (by simp [h2])
theorem aDS {sub : List Nat} {l : Array Bool} {i : Nat} (h : l.getD i false = true) : (iK sub l).getD i false = true := by
 by_cases hi : i ∈ sub
 ·refine Pd sub l i false hi ?_
  rcases Nat.lt_or_ge i l.size with h1 | h1
  ·exact h1
  ·simp [Array.getElem?_eq_none h1] at h
 ·rw [Ey sub l i false hi]; exact h
def Pt (ops : Array Oper) (I : List Nat) (listed : Array Bool) : Bool :=
 I.all (fun i => decide (i < listed.size) && !(listed.getD i true) && match ops[i]? with
  | some o => o.after.toList.all fun x => !(Region.binds .any x) || listed.getD x.on false
  | none => false) &&
 (List.range ops.size).all fun j => I.contains j || listed.getD j true || match ops[j]? with
  | some o => I.all fun i => o.after.toList.any fun x => Region.binds .any x && x.on == i
  | none => true
theorem aCJ {ops : Array Oper} {I sub : List Nat} {listed : Array Bool} (hB : Pt ops I listed = true) (hsub : ∀ i ∈ sub, i ∈ I) {i0 : Nat} (mV : i0 ∈ I) (hn0 : i0 ∉ sub) :
  Region.ready .any ops (iK sub listed) ≠ [] ∧ ∀ j ∈ Region.ready .any ops (iK sub listed), j ∈ I ∧ j ∉ sub := by
 unfold Pt at hB
 rw [Bool.and_eq_true, List.all_eq_true, List.all_eq_true] at hB
 obtain ⟨hA, hC⟩ := hB
 have h0 := hA i0 mV
 simp only [Bool.and_eq_true, decide_eq_true_eq, Bool.not_eq_true'] at h0
 obtain ⟨⟨h1, h2⟩, h3⟩ := h0
 constructor
 ·cases ho : ops[i0]? with
  | none => rw [ho] at h3; cases h3
  | some o =>
   rw [ho] at h3
   simp only [List.all_eq_true] at h3
   have : i0 ∈ Region.ready .any ops (iK sub listed) := mem_ready.2 ⟨by rw [Ey _ _ _ _ hn0]; exact h2, o, ho, fun x hx hb => by
    have := h3 x (by simpa using hx)
    rw [hb] at this
    exact aDS (by simpa using this)⟩
   intro he
   rw [he] at this
   cases this
 ·intro j hj
  obtain ⟨g1, o, ho, g2⟩ := mem_ready.1 hj
  have hjn : j ∉ sub := fun h => by
   have nA := hA j (hsub j h)
   simp only [Bool.and_eq_true, decide_eq_true_eq] at nA
   rw [Pd sub listed j true h nA.1.1] at g1
   cases g1
  refine ⟨?_, hjn⟩
  rw [Ey _ _ _ _ hjn] at g1
  have hlt : j < ops.size := (Array.getElem?_eq_some_iff.1 ho).1
  have hc := hC j (List.mem_range.2 hlt)
  rw [g1, ho] at hc
  simp only [Bool.or_false, Bool.or_eq_true] at hc
  rcases hc with hc | hc
  ·simpa using hc
  ·exfalso
   rw [List.all_eq_true] at hc
   have := hc i0 mV
   rw [List.any_eq_true] at this
   obtain ⟨x, hx, hb⟩ := this
   simp only [Bool.and_eq_true, beq_iff_eq] at hb
   have := g2 x (by simpa using hx) hb.1
   rw [hb.2, Ey _ _ _ _ hn0] at this
   have h4 : listed.getD i0 true = listed.getD i0 false := by simp [h1]
   rw [h4, this] at h2
   cases h2
theorem Wj {I sub : List Nat} (hI : I.Nodup) (hn : sub.Nodup) (hin : ∀ i ∈ sub, i ∈ I) : (I.filter fun i => sub.contains i).Perm sub := by
 rw [List.perm_iff_count]
 intro a
 rw [(hI.sublist List.filter_sublist).count, hn.count]
 by_cases ha : a ∈ sub
 ·rw [if_pos ha, if_pos (by simp [ha, hin a ha])]
 ·rw [if_neg ha, if_neg (by simp [ha])]
theorem aDP {l1 l2 : List ((Int × Int) × Value)} (h : l1.Perm l2) (hn : (l1.map (·.1)).Nodup) (k : Int × Int) : gK l1 k = gK l2 k := by
 induction h with
 | nil => rfl
 | cons x _ ih =>
  obtain ⟨a, b⟩ := x
  rw [yX, yX, ih (List.nodup_cons.1 hn).2]
 | swap x y s =>
  obtain ⟨a, b⟩ := x
  obtain ⟨c, d⟩ := y
  have hne : c ≠ a := fun e => (List.nodup_cons.1 hn).1 (by rw [e]; simp)
  simp only [yX]
  by_cases h1 : a = k
  ·have : c ≠ k := fun e => hne (e.trans h1.symm)
   simp [h1, this]
  ·simp [h1]
 | trans h1 h2 i1 i2 => exact (i1 hn).trans (i2 ((h1.map _).nodup_iff.1 hn))
theorem aDQ {l : List ((Int × Int) × Value)} {k : Int × Int} (h : k ∉ l.map (·.1)) : gK l k = none := by
 induction l with
 | nil => rfl
 | cons x l ih =>
  obtain ⟨a, b⟩ := x
  rw [List.map_cons, List.mem_cons, not_or] at h
  rw [yX, if_neg (fun e => h.1 e.symm)]
  exact ih h.2
section
variable {P : Program} {N : cJ} {w0 w : World} {e : Env} {R R0 : List Piece} {H H0 : List HP} {Q : Exit → Act → World → Prop} {ops : Array Oper} {m fuel : Nat} {listed : Array Bool}
def Lays (P : Program) (ops : Array Oper) (e : Env) (r : Nat) (i : Nat) (p : (Int × Int) × Value) : Prop := ∃ x y u ty pos aJ t kt et, ops[i]? = some ⟨none, .insert t x y u, ty, pos, aJ, none⟩ ∧ P.underlying t = some (.map kt et) ∧ uI P kt ∧ e.ev x = some (.map (some r)) ∧ e.ev y = some (kP p.1) ∧ e.ev u = some p.2
theorem XA.aEn (I : List Nat) (At : Nat → (Int × Int) × Value) (r : Nat) (hI : I.Nodup) (hop : ∀ i ∈ I, Lays P ops e r i (At i)) (hkeys : (I.map fun i => (At i).1).Nodup) (hB : Pt ops I listed = true)
  (hS : ∀ l w, St w0 R (HP.oI r l :: H) w → St w0 R0 H0 w)
  (k : ∀ sub : List Nat, sub.Perm I → XA P N w0 ops Q R0 H0 m fuel (iK sub listed) e R (HP.oI r (sub.reverse.map At) :: H)) : XA P N w0 ops Q R0 H0 m (fuel + I.length) listed e R (HP.oI r [] :: H) := by
 have key : ∀ (n : Nat) (sub : List Nat), sub.Nodup → (∀ i ∈ sub, i ∈ I) → sub.length + n = I.length → XA P N w0 ops Q R0 H0 m (fuel + n) (iK sub listed) e R (HP.oI r (sub.reverse.map At) :: H) := by
  intro n
  induction n with
  | zero =>
   intro sub hn hin hl
   have hp := Wj hI hn hin
   have hf : (I.filter fun i => sub.contains i) = I := List.filter_sublist.eq_of_length (by have := hp.length_eq; omega)
   rw [hf] at hp
   exact k sub hp.symm
  | succ n ih =>
   intro sub hn hin hl
   obtain ⟨i0, mV, hn0⟩ : ∃ i, i ∈ I ∧ i ∉ sub := Classical.byContradiction fun hno => by
    have hp := Wj hI hn hin
    have hf : (I.filter fun i => sub.contains i) = I := List.filter_eq_self.2 fun i hi => by
     rcases Classical.em (i ∈ sub) with h | h
     ·simpa using h
     ·exact absurd ⟨i, hi, h⟩ hno
    rw [hf] at hp
    have := hp.length_eq
    omega
   obtain ⟨r1, r2⟩ := aCJ hB hin mV hn0
   intro up a w bM st
   refine ⟨fun h => absurd h r1, fun i hi => ?_⟩
   obtain ⟨Qz, Ga⟩ := r2 i hi
   obtain ⟨x, y, u, ty, pos, aJ, t, kt, et, ho, ht, hk, hx, hy, hu⟩ := hop i Qz
   have hno : gK (sub.reverse.map At) (At i).1 = none := aDQ fun hm => by
    simp only [List.map_map, List.mem_map, List.mem_reverse, Function.comp] at hm
    obtain ⟨j, hj, he⟩ := hm
    have hji : j ≠ i := fun e => Ga (e ▸ hj)
    exact hji (Classical.byContradiction fun hne => by
     have h1 := List.pairwise_map.1 hkeys
     exact absurd he (by
      obtain ⟨a, ha⟩ := List.getElem?_of_mem (hin j hj)
      obtain ⟨b, hb⟩ := List.getElem?_of_mem Qz
      have hal := (List.getElem?_eq_some_iff.1 ha).1
      have Zl := (List.getElem?_eq_some_iff.1 hb).1
      have Rj := (List.getElem?_eq_some_iff.1 ha).2
      have Gl := (List.getElem?_eq_some_iff.1 hb).2
      have h2 := List.pairwise_iff_getElem.1 h1
      rcases Nat.lt_trichotomy a b with h | h | h
      ·have := h2 a b hal Zl h; rw [Rj, Gl] at this; exact this
      ·subst h; exact absurd (Rj.symm.trans Gl) hji
      ·have := h2 b a Zl hal h; rw [Rj, Gl] at this; exact fun e => this e.symm))
   refine uL ho (fun a w h => ⟨h.1, h.2 (up.gI hi)⟩) (K := qG P w0 ops Q R0 H0 m (fuel + n) (iK sub listed) i) ?_
   have := aBB (P := P) (N := N) (w0 := w0) (R := R) (H := HP.oI r (sub.reverse.map At) :: H) (Q := Exit.then (qG P w0 ops Q R0 H0 m (fuel + n) (iK sub listed) i) Q) (ops := ops) (rest := []) (ty := ty) (pos := pos) (aJ := aJ) 0 ht hk rfl hno hx hy hu
    (XK.nil (XK.iJ (XA.back (hS _) (by
     have := ih (i :: sub) (List.nodup_cons.2 ⟨Ga, hn⟩) (fun j hj => by
      rcases List.mem_cons.1 hj with rfl | hj
      ·exact Qz
      ·exact hin j hj) (by simp only [List.length_cons]; omega)
     rw [List.reverse_cons, List.map_append] at this
     exact this))))
   exact this a w bM st
 exact key I.length [] List.nodup_nil (fun _ h => by cases h) (by simp)
end
end
section
theorem aAo (L : List (Nat × Nat)) (place : Nat → Option (Nat × Nat)) (hp : ∀ i x, L[i]? = some x → place i = some x) : ∀ (ps : List (Nat × Value)) (cs cs' : List Value), aS L cs ps = some cs' → Instr.fill place cs.toArray ps = some cs'.toArray
 | [], cs, cs', h => by cases h; rfl
 | (i, v) :: rest, cs, cs', h => by
  unfold aS at h
  unfold Instr.fill
  split at h
  ·rename_i off sz hL
   rw [hp _ _ hL]
   split at h
   ·rename_i hc
    have e1 : (decide (v.cells.size ≠ sz) || decide (off + v.cells.size > cs.toArray.size)) = false := by simp; omega
    simp only [e1, Bool.false_eq_true, if_false]
    have := Oa v.cells.toList cs off 0
    rw [show v.cells.zipIdx.foldl (fun cs (c, j) => cs.setIfInBounds (off + j) c) cs.toArray = (aT cs off v.cells.toList).toArray by
     rw [← Array.foldl_toList, Array.toList_zipIdx]; exact this]
    exact aAo L place hp rest _ cs' h
   ·cases h
  ·cases h
section
variable {P : Program} {N : cJ} {w0 : World} {e : Env} {R : List Piece} {H : List HP} {d : Nat} {ty : TypeId} {pos : String} {aJ : Array Edge}
theorem Sq {t el : TypeId} {n sz : Nat} {ps : List (Nat × Operand)} {vs : List (Nat × Value)} {zs cs : List Value} (hz : wU P t zs) (ht : P.underlying t = some (.array n el)) (hsz : (P.info? el).map (·.size) = some sz) (hp : e.parts ps = some vs) (hf : aS ((List.range n).map fun i => (i * sz, sz)) zs vs = some cs) : bL P N w0 e R H ⟨some d, .build t ps.toArray, ty, pos, aJ, none⟩ (.agg cs.toArray) :=
 fN (fun a w hr => by
  have := hr.parts hp
  obtain ⟨i, z, hi, rY, rfl⟩ := hz
  obtain ⟨j, hj, rfl⟩ := Option.map_eq_some_iff.1 hsz
  have hfl := aAo _ (fun i => some (i * j.size, j.size)) (fun i x hx => by
   rw [List.getElem?_map] at hx
   obtain ⟨q, hq, rfl⟩ := Option.map_eq_some_iff.1 hx
   have hlt : i < n := by
    rcases Nat.lt_or_ge i n with h | h
    ·exact h
    ·rw [List.getElem?_eq_none (by simpa using h)] at hq; cases hq
   rw [List.getElem?_range hlt] at hq
   cases hq
   rfl) vs z.cells.toList cs hf
  simp at hfl
  simp only [execOp, List.map_toArray, this]
  simp [Instr.build, zeroValue, typeInfo, sizeOf, hi, hj, rY, run_underlying ht, hfl])
end
def mG (n m a b c : Int) : Value := .agg #[.int .i64 n, .int .i64 m, .int .u8 a, .int .u8 b, .int .u8 c]
theorem Jw : uI Tryz.prog 280 := uI.of Tryz.underlying280 Tryz.underlying3 Tryz.underlying3 rfl rfl (fun _ _ _ _ => by kernel_rfl)
def sF : Nat → (Int × Int) × Value
 | 3 => ((16, 0), mG 0 0 0 0 0) | 6 => ((17, 0), mG 0 0 0 0 0) | 9 => ((20, 0), mG 0 0 0 0 0) | 12 => ((22, 0), mG 0 0 0 0 0) | 15 => ((16, 1), mG 0 0 0 0 0)
 | 19 => ((17, 4), mG 2 3 100 117 107) | 22 => ((17, 5), mG 1 0 0 0 0) | 25 => ((20, 6), mG 1 0 0 0 0) | 29 => ((20, 7), mG 2 2 111 99 0) | _ => ((22, 4), mG 2 2 114 97 0)
def Ad : List Nat := [3, 6, 9, 12, 15, 19, 22, 25, 29, 33]
def Sb : List ((Int × Int) × Value) := Ad.map sF
def Ts (v : Value) (hs : List HP) (_ : Piece) : Prop := ∃ (g : Nat) (sub : List Nat), v = .map (some g) ∧ sub.Perm Ad ∧ hs = [HP.oI g (sub.reverse.map sF)]
theorem aAc (w : World) : Calls Tryz.prog 176 #[] w (fun y w' => (∃ v hs q, y = .returned v ∧ q.w = w' ∧ Ts v hs q ∧ jN w hs q) ∧ Below w.heap.size w w') := by
 refine XK.enter (vs := []) Tryz.func176 rfl Tryz.ntmps176 (by simp) ?_
 refine XK.seq ?_
 refine XK.region ?_
 refine aH rfl (by decide) ?_
 refine XK.aA ?_
 refine XK.seq ?_
 refine XK.draw 34 (by kernel_rfl) (by kernel_rfl) ?_
 refine XA.dZ 1 rfl rfl rfl (by decide) (fS (zs := [.int .i64 0, .int .i64 0]) (L := [(0, 1), (1, 1)]) (aM (by kernel_rfl)) (by kernel_rfl) rfl (by simp [aS, aT, Value.cells]; rfl)) (by kernel_rfl) (fun _ _ _ h => h) (fun _ h => h) ?_
 refine XA.dZ 2 rfl rfl rfl (by decide) (fS (zs := [.int .i64 0, .int .i64 0, .int .u8 0, .int .u8 0, .int .u8 0]) (L := [(0, 1), (1, 1), (2, 3)]) (aM (by kernel_rfl)) (by kernel_rfl) rfl (by simp [aS, aT, Value.cells]; rfl)) (by kernel_rfl) (fun _ _ _ h => h) (fun _ h => h) ?_
 refine XA.dZ 4 rfl rfl rfl (by decide) (fS (zs := [.int .i64 0, .int .i64 0]) (L := [(0, 1), (1, 1)]) (aM (by kernel_rfl)) (by kernel_rfl) rfl (by simp [aS, aT, Value.cells]; rfl)) (by kernel_rfl) (fun _ _ _ h => h) (fun _ h => h) ?_
 refine XA.dZ 5 rfl rfl rfl (by decide) (fS (zs := [.int .i64 0, .int .i64 0, .int .u8 0, .int .u8 0, .int .u8 0]) (L := [(0, 1), (1, 1), (2, 3)]) (aM (by kernel_rfl)) (by kernel_rfl) rfl (by simp [aS, aT, Value.cells]; rfl)) (by kernel_rfl) (fun _ _ _ h => h) (fun _ h => h) ?_
 refine XA.dZ 7 rfl rfl rfl (by decide) (fS (zs := [.int .i64 0, .int .i64 0]) (L := [(0, 1), (1, 1)]) (aM (by kernel_rfl)) (by kernel_rfl) rfl (by simp [aS, aT, Value.cells]; rfl)) (by kernel_rfl) (fun _ _ _ h => h) (fun _ h => h) ?_
 refine XA.dZ 8 rfl rfl rfl (by decide) (fS (zs := [.int .i64 0, .int .i64 0, .int .u8 0, .int .u8 0, .int .u8 0]) (L := [(0, 1), (1, 1), (2, 3)]) (aM (by kernel_rfl)) (by kernel_rfl) rfl (by simp [aS, aT, Value.cells]; rfl)) (by kernel_rfl) (fun _ _ _ h => h) (fun _ h => h) ?_
 refine XA.dZ 10 rfl rfl rfl (by decide) (fS (zs := [.int .i64 0, .int .i64 0]) (L := [(0, 1), (1, 1)]) (aM (by kernel_rfl)) (by kernel_rfl) rfl (by simp [aS, aT, Value.cells]; rfl)) (by kernel_rfl) (fun _ _ _ h => h) (fun _ h => h) ?_
 refine XA.dZ 11 rfl rfl rfl (by decide) (fS (zs := [.int .i64 0, .int .i64 0, .int .u8 0, .int .u8 0, .int .u8 0]) (L := [(0, 1), (1, 1), (2, 3)]) (aM (by kernel_rfl)) (by kernel_rfl) rfl (by simp [aS, aT, Value.cells]; rfl)) (by kernel_rfl) (fun _ _ _ h => h) (fun _ h => h) ?_
 refine XA.dZ 13 rfl rfl rfl (by decide) (fS (zs := [.int .i64 0, .int .i64 0]) (L := [(0, 1), (1, 1)]) (aM (by kernel_rfl)) (by kernel_rfl) rfl (by simp [aS, aT, Value.cells]; rfl)) (by kernel_rfl) (fun _ _ _ h => h) (fun _ h => h) ?_
 refine XA.dZ 14 rfl rfl rfl (by decide) (fS (zs := [.int .i64 0, .int .i64 0, .int .u8 0, .int .u8 0, .int .u8 0]) (L := [(0, 1), (1, 1), (2, 3)]) (aM (by kernel_rfl)) (by kernel_rfl) rfl (by simp [aS, aT, Value.cells]; rfl)) (by kernel_rfl) (fun _ _ _ h => h) (fun _ h => h) ?_
 refine XA.dZ 16 rfl rfl rfl (by decide) (fS (zs := [.int .i64 0, .int .i64 0]) (L := [(0, 1), (1, 1)]) (aM (by kernel_rfl)) (by kernel_rfl) rfl (by simp [aS, aT, Value.cells]; rfl)) (by kernel_rfl) (fun _ _ _ h => h) (fun _ h => h) ?_
 refine XA.dZ 17 rfl rfl rfl (by decide) (Sq (n := 3) (sz := 1) (el := 5) (zs := [.int .u8 0, .int .u8 0, .int .u8 0]) (aM (by kernel_rfl)) (by kernel_rfl) (by kernel_rfl) rfl (by simp [aS, aT, Value.cells, List.range_succ, List.set]; rfl)) (by kernel_rfl) (fun _ _ _ h => h) (fun _ h => h) ?_
 refine XA.dZ 18 rfl rfl rfl (by decide) (fS (zs := [.int .i64 0, .int .i64 0, .int .u8 0, .int .u8 0, .int .u8 0]) (L := [(0, 1), (1, 1), (2, 3)]) (aM (by kernel_rfl)) (by kernel_rfl) rfl (by simp [aS, aT, Value.cells]; rfl)) (by kernel_rfl) (fun _ _ _ h => h) (fun _ h => h) ?_
 refine XA.dZ 20 rfl rfl rfl (by decide) (fS (zs := [.int .i64 0, .int .i64 0]) (L := [(0, 1), (1, 1)]) (aM (by kernel_rfl)) (by kernel_rfl) rfl (by simp [aS, aT, Value.cells]; rfl)) (by kernel_rfl) (fun _ _ _ h => h) (fun _ h => h) ?_
 refine XA.dZ 21 rfl rfl rfl (by decide) (fS (zs := [.int .i64 0, .int .i64 0, .int .u8 0, .int .u8 0, .int .u8 0]) (L := [(0, 1), (1, 1), (2, 3)]) (aM (by kernel_rfl)) (by kernel_rfl) rfl (by simp [aS, aT, Value.cells]; rfl)) (by kernel_rfl) (fun _ _ _ h => h) (fun _ h => h) ?_
 refine XA.dZ 23 rfl rfl rfl (by decide) (fS (zs := [.int .i64 0, .int .i64 0]) (L := [(0, 1), (1, 1)]) (aM (by kernel_rfl)) (by kernel_rfl) rfl (by simp [aS, aT, Value.cells]; rfl)) (by kernel_rfl) (fun _ _ _ h => h) (fun _ h => h) ?_
 refine XA.dZ 24 rfl rfl rfl (by decide) (fS (zs := [.int .i64 0, .int .i64 0, .int .u8 0, .int .u8 0, .int .u8 0]) (L := [(0, 1), (1, 1), (2, 3)]) (aM (by kernel_rfl)) (by kernel_rfl) rfl (by simp [aS, aT, Value.cells]; rfl)) (by kernel_rfl) (fun _ _ _ h => h) (fun _ h => h) ?_
 refine XA.dZ 26 rfl rfl rfl (by decide) (fS (zs := [.int .i64 0, .int .i64 0]) (L := [(0, 1), (1, 1)]) (aM (by kernel_rfl)) (by kernel_rfl) rfl (by simp [aS, aT, Value.cells]; rfl)) (by kernel_rfl) (fun _ _ _ h => h) (fun _ h => h) ?_
 refine XA.dZ 27 rfl rfl rfl (by decide) (Sq (n := 3) (sz := 1) (el := 5) (zs := [.int .u8 0, .int .u8 0, .int .u8 0]) (aM (by kernel_rfl)) (by kernel_rfl) (by kernel_rfl) rfl (by simp [aS, aT, Value.cells, List.range_succ, List.set]; rfl)) (by kernel_rfl) (fun _ _ _ h => h) (fun _ h => h) ?_
 refine XA.dZ 28 rfl rfl rfl (by decide) (fS (zs := [.int .i64 0, .int .i64 0, .int .u8 0, .int .u8 0, .int .u8 0]) (L := [(0, 1), (1, 1), (2, 3)]) (aM (by kernel_rfl)) (by kernel_rfl) rfl (by simp [aS, aT, Value.cells]; rfl)) (by kernel_rfl) (fun _ _ _ h => h) (fun _ h => h) ?_
 refine XA.dZ 30 rfl rfl rfl (by decide) (fS (zs := [.int .i64 0, .int .i64 0]) (L := [(0, 1), (1, 1)]) (aM (by kernel_rfl)) (by kernel_rfl) rfl (by simp [aS, aT, Value.cells]; rfl)) (by kernel_rfl) (fun _ _ _ h => h) (fun _ h => h) ?_
 refine XA.dZ 31 rfl rfl rfl (by decide) (Sq (n := 3) (sz := 1) (el := 5) (zs := [.int .u8 0, .int .u8 0, .int .u8 0]) (aM (by kernel_rfl)) (by kernel_rfl) (by kernel_rfl) rfl (by simp [aS, aT, Value.cells, List.range_succ, List.set]; rfl)) (by kernel_rfl) (fun _ _ _ h => h) (fun _ h => h) ?_
 refine XA.dZ 32 rfl rfl rfl (by decide) (fS (zs := [.int .i64 0, .int .i64 0, .int .u8 0, .int .u8 0, .int .u8 0]) (L := [(0, 1), (1, 1), (2, 3)]) (aM (by kernel_rfl)) (by kernel_rfl) rfl (by simp [aS, aT, Value.cells]; rfl)) (by kernel_rfl) (fun _ _ _ h => h) (fun _ h => h) ?_
 refine XA.next 0 rfl (by kernel_rfl) ?_
 refine aB5 (by decide) fun g1 => ?_
 refine XA.bk ?_
 refine XA.aEn (fuel := 2) Ad sF g1 (by decide) (fun i hi => ?_) (by decide) (by kernel_rfl) (fun l w1 h => h.tail) (fun sub hsub => ?_)
 ·simp only [Ad, List.mem_cons, List.not_mem_nil, or_false] at hi
  rcases hi with rfl | rfl | rfl | rfl | rfl | rfl | rfl | rfl | rfl | rfl
  all_goals exact ⟨_, _, _, _, _, _, _, _, _, rfl, Tryz.underlying277, Jw, rfl, rfl, rfl⟩
 rw [Kb hsub]
 refine XA.next 34 rfl (by kernel_rfl) ?_
 refine aF rfl (by decide) ?_
 refine XA.bt ?_
 refine XA.next 35 rfl (by kernel_rfl) ?_
 refine aH rfl (by decide) ?_
 refine XA.bt ?_
 refine XA.done (by kernel_rfl) ?_
 refine XK.norm ?_
 refine XK.ret ?_
 refine XK.norm ?_
 refine XK.still [] [] [0] (by simp) rfl (by decide) (by decide) fun q _ _ hfr => ?_
 exact XK.aK rfl rfl fun w1 st => ⟨⟨_, _, ⟨w1, q.Z⟩, rfl, rfl, ⟨g1, sub, rfl, hsub, rfl⟩, st.newR (by simp) (by simp) (hfr (by simp) (by simp))⟩, st.below (by simp)⟩
end
section
def cI (w : Int) : Int := if bT w 28 4 ≠ 0 then 0 else bT w 0 8
def Ci (w : Int) : Int := if bT w 28 4 ≠ 0 then 0 else bT w 8 2
def cB (w : Int) : Int := if bT w 28 4 ≠ 0 then 0 else bT w 10 8
def Lj (w : Int) : Int := if bT w 28 4 ≠ 0 then 0 else bT w 18 10
theorem aBR (w : Int) : yN w = zS (cI w) (Ci w) (cB w) (Lj w) := by
 unfold yN cI Ci cB Lj
 split <;> rfl
structure jE where
 n : Int
 m : Int
 a : Int
 b : Int
 c : Int
def jE.v (f : jE) : Value := mG f.n f.m f.a f.b f.c
def jE.act (f : jE) (v : Int) : Int := if v = 0 then f.a else if v = 1 then f.b else f.c
def lO (p m : Int) : Option jE :=
 if m = 0 then (if p = 16 ∨ p = 17 ∨ p = 20 ∨ p = 22 then some ⟨0, 0, 0, 0, 0⟩ else none)
 else if m = 1 then (if p = 16 then some ⟨0, 0, 0, 0, 0⟩ else none)
 else if m = 4 then (if p = 17 then some ⟨2, 3, 100, 117, 107⟩ else if p = 22 then some ⟨2, 2, 114, 97, 0⟩ else none)
 else if m = 5 then (if p = 17 then some ⟨1, 0, 0, 0, 0⟩ else none)
 else if m = 6 then (if p = 20 then some ⟨1, 0, 0, 0, 0⟩ else none)
 else if m = 7 then (if p = 20 then some ⟨2, 2, 111, 99, 0⟩ else none)
 else none
theorem aFq (p m : Int) : gK Sb (p, m) = (lO p m).map jE.v := by
 unfold Sb Ad lO
 simp only [List.map_cons, List.map_nil, sF, yX, Prod.mk.injEq]
 by_cases h0 : m = 0
 ·subst h0
  by_cases rE : p = 16
  ·subst rE; simp [jE.v]
  ·by_cases tZ : p = 17
   ·subst tZ; simp [jE.v]
   ·by_cases tY : p = 20
    ·subst tY; simp [jE.v]
    ·by_cases tX : p = 22
     ·subst tX; simp [jE.v]
     ·simp [rE, tZ, tY, tX, gK, Ne.symm rE, Ne.symm tZ, Ne.symm tY, Ne.symm tX]
 ·by_cases h1 : m = 1
  ·subst h1
   by_cases rE : p = 16
   ·subst rE; simp [jE.v]
   ·simp [rE, Ne.symm rE, gK]
  ·by_cases h4 : m = 4
   ·subst h4
    by_cases tZ : p = 17
    ·subst tZ; simp [jE.v]
    ·by_cases tX : p = 22
     ·subst tX; simp [jE.v]
     ·simp [tZ, tX, Ne.symm tZ, Ne.symm tX, gK]
   ·by_cases h5 : m = 5
    ·subst h5
     by_cases tZ : p = 17
     ·subst tZ; simp [jE.v]
     ·simp [tZ, Ne.symm tZ, gK]
    ·by_cases h6 : m = 6
     ·subst h6
      by_cases tY : p = 20
      ·subst tY; simp [jE.v]
      ·simp [tY, Ne.symm tY, gK]
     ·by_cases h7 : m = 7
      ·subst h7
       by_cases tY : p = 20
       ·subst tY; simp [jE.v]
       ·simp [tY, Ne.symm tY, gK]
      ·simp [h0, h1, h4, h5, h6, h7, Ne.symm h0, Ne.symm h1, Ne.symm h4, Ne.symm h5, Ne.symm h6, Ne.symm h7, gK]
def cQ (p m : Int) : jE := (lO p m).getD ⟨0, 0, 0, 0, 0⟩
theorem aFp {sub : List Nat} (h : sub.Perm Ad) (p m : Int) : gK (sub.reverse.map sF) (p, m) = (lO p m).map jE.v := by
 rw [← aFq]
 have hp : (sub.reverse.map sF).Perm Sb := ((List.reverse_perm sub).trans h).map sF
 refine aDP hp ?_ _
 exact ((hp.map (·.1)).nodup_iff).2 (by decide)
theorem Ck {sub : List Nat} (h : sub.Perm Ad) (p m : Int) : (gK (sub.reverse.map sF) (p, m)).getD (mG 0 0 0 0 0) = (cQ p m).v ∧ (gK (sub.reverse.map sF) (p, m)).isSome = (lO p m).isSome := by
 rw [aFp h]
 unfold cQ
 cases lO p m <;> exact ⟨rfl, rfl⟩
theorem aAa (p m : Int) : ((cQ p m).n = 0 ∨ (cQ p m).n = 1 ∨ (cQ p m).n = 2) ∧ 0 ≤ (cQ p m).m ∧ (cQ p m).m ≤ 3 ∧ (∀ v, 0 ≤ v → v < (cQ p m).m → (cQ p m).act v = 107 → p = 17) ∧
  ((cQ p m).m ≠ 0 → p = 17 ∨ p = 20 ∨ p = 22) := by
 unfold cQ lO
 by_cases h0 : m = 0
 ·by_cases h : p = 16 ∨ p = 17 ∨ p = 20 ∨ p = 22 <;> simp [h0, h] <;> omega
 ·by_cases h1 : m = 1
  ·by_cases h : p = 16 <;> simp [h1, h] <;> omega
  ·by_cases h4 : m = 4
   ·by_cases h : p = 17
    ·simp [h4, h]
    ·by_cases h' : p = 22
     ·subst h4 h'
      simp only [jE.act]
      refine ⟨by simp, by simp, by simp, fun v h1 h2 h3 => ?_, by simp⟩
      simp at h2 h3
      split at h3
      ·omega
      ·split at h3 <;> omega
     ·simp [h4, h, h']; omega
   ·by_cases h5 : m = 5
    ·by_cases h : p = 17 <;> simp [h5, h] <;> omega
    ·by_cases h6 : m = 6
     ·by_cases h : p = 20 <;> simp [h6, h] <;> omega
     ·by_cases h7 : m = 7
      ·by_cases h : p = 20
       ·subst h7 h
        simp only [jE.act]
        refine ⟨by simp, by simp, by simp, fun v h1 h2 h3 => ?_, by simp⟩
        simp at h2 h3
        split at h3
        ·omega
        ·split at h3 <;> omega
       ·simp [h7, h]; omega
      ·simp [h0, h1, h4, h5, h6, h7]; omega
def El (s : aD) (k : Nat) : Bool := (s.domains[k]?).any (·.ret)
def kindOf (s : aD) (k : Nat) : Int := ((s.aB[k]?).map (·.kind)).getD 0
def gO (s : aD) (k : Nat) : Prop := kindOf s k = 112 ∨ kindOf s k = 103
instance (s : aD) (k : Nat) : Decidable (gO s k) := inferInstanceAs (Decidable (_ ∨ _))
def jJ (s : aD) (p k : Int) (id : Nat) : Prop := (k = 107 ∧ El s id = false) ∨ (p = 20 ∧ ¬ gO s id)
instance (s : aD) (p k : Int) (id : Nat) : Decidable (jJ s p k id) := inferInstanceAs (Decidable (_ ∨ _))
def wQ (s : aD) (p : Int) (f : jE) (id v : Int) : Int × Int × Int :=
 if (oH s p : Int) ≤ id then (-4, 0, 0) else if f.m = 0 then (0, 0, 0) else if f.m ≤ v then (-2, 0, 0) else if jJ s p (f.act v) id.toNat then (-2, 0, 0) else (0, f.act v, id)
def dV (s : aD) (l : List Int) : Int × Int × Int :=
 match l with
 | [] => (-10, 0, 0)
 | w :: r =>
  if qP w ≠ 0 ∨ Ci w ≠ 0 then (-10, 0, 0)
  else if (lO (cB w) (cI w)).isSome = false then (-1, 0, 0)
  else if (r.length : Int) ≠ (cQ (cB w) (cI w)).n then (-10, 0, 0)
  else if (cQ (cB w) (cI w)).n = 0 then (0, 0, 0)
  else wQ s (cB w) (cQ (cB w) (cI w)) (r.getD 0 0) (r.getD ((cQ (cB w) (cI w)).n.toNat - 1) 0)
def Df (a : Int × Int × Int) : Value := .tuple #[.int .i32 a.1, .agg #[.int .u8 a.2.1, .int .i64 a.2.2]]
def fO (l : List Int) : Prop := ∀ x ∈ l, 0 ≤ x ∧ x < 4294967296
theorem aI.u32 {w : World} {A : Option Addr} {n : Nat} {l : List Int} (h : aI (all w) 1 A n (iI l)) (hn : 0 < n) : ∃ b off, A = some ⟨b, off, none⟩ ∧ ∀ (i : Nat) (x : Int), l[i]? = some x → eK w b (off + i) (.int .u32 x) := by
 obtain ⟨b, off, hA, hb, hc⟩ := h.2 hn
 refine ⟨b, off, hA, fun i x hx => ⟨hb, hc i _ ?_⟩⟩
 simp only [iI, List.getElem?_map, hx, Option.map_some]
section
variable {P : Program} {N : jE} {w0 : World} {e : Env} {R : List Piece} {H : List HP}
theorem XK.mS {nn : Nat} {fn : Func} {Post : Ending → World → Prop} {t u n b : Nat} {s : TypeId} {vs : List Value} {v' : Value} (hr : fn.results = #[.tmp u, .cell t s]) (hs : uN P s n = true) (hn : vs.length = n) (ht : e.get t = some (.pointer (some ⟨b, 0, none⟩))) (hrd : aC w0 R H b 0 vs) (hu : e.get u = some v') (h : ∀ w, St w0 R H w → Post (.returned (.tuple #[v', .agg vs.toArray])) w) : XK ⟨nn, []⟩ w0 (bodyPost P fn Post .ret) e R H := fun a w bM st => by
 have hl := Ek (P := P) hs hn (hrd w st)
 refine bodyPost_ret (v := .tuple #[v', .agg vs.toArray]) ?_ bM.defers (h w st)
 have ha := bM.get t _ ht
 have hb := bM.get u _ hu
 simp only [Instr.loadAt, Instr.sureAddr, Sem.run_bind, Sem.run_pure, Result.andThen_ok] at hl
 simp only [results, hr]
 simp [ha, hb, asAddr, hl]
end
end
section
theorem aD6 (s : aD) (A1 A2 A3 A4 : Option Addr) (n1 k1 n2 k2 n3 k3 n4 k4 : Nat) (p : Int) {w0 : World} (w : World) (hS : eO w0 s A1 n1 A2 n2 A3 n3 A4 n4) : Calls Tryz.prog 177 #[.agg #[.slice A1 n1 k1, .slice A2 n2 k2, .slice A3 n3 k3, .slice A4 n4 k4], .int .i64 p] w (Rt (.int .i64 (oH s p)) w) := by
 obtain ⟨h1, h2, h3, h4⟩ := And.intro hS.pY (And.intro hS.qT (And.intro hS.tH hS.rX))
 subst h1 h2 h3 h4
 exact aD5 s A1 A2 A3 A4 k1 k2 k3 k4 p w
theorem aCN (s : aD) (A1 A2 A3 A4 : Option Addr) (n1 k1 n2 k2 n3 k3 n4 k4 : Nat) (A : Option Addr) (n c : Nat) (l : List Int) (w : World) (hS : eO w s A1 n1 A2 n2 A3 n3 A4 n4) (hl : aI (all w) 1 A n (iI l)) (hn : n = l.length) (hn2 : n ≤ 1000000) (hu : fO l) :
  Calls Tryz.prog 94 #[.agg #[.slice A1 n1 k1, .slice A2 n2 k2, .slice A3 n3 k3, .slice A4 n4 k4], .slice A n c] w (Rt (Df (dV s l)) w) := by
 refine XK.enter (vs := [.agg #[.slice A1 n1 k1, .slice A2 n2 k2, .slice A3 n3 k3, .slice A4 n4 k4], .slice A n c]) Tryz.func94 rfl Tryz.ntmps94 (by simp) ?_
 refine XK.seq ?_
 refine XK.region ?_
 refine bY rfl (by decide) fun g1 => ?_
 refine aH rfl (by decide) ?_
 refine cD (cs := [.int .u8 0, .int .i64 0]) (aM (by kernel_rfl)) (by decide) fun g2 => ?_
 refine XK.aA ?_
 refine XK.seq ?_
 refine XK.seq ?_
 refine XK.region ?_
 refine aF rfl (by decide) ?_
 refine cY (el := 44) (by kernel_rfl) rfl (by decide) ?_
 refine eH rfl rfl (by decide) ?_
 refine XK.aA ?_
 refine XK.if_ rfl (fun h => ?_) (fun h => ?_)
 ·
  refine XK.seq ?_
  refine XK.region ?_
  refine dJ (zs := [.int .u8 0, .int .i64 0]) (L := [(0, 1), (1, 1)]) (aM (by kernel_rfl)) (by kernel_rfl) rfl (by simp [aS, aT, Value.cells]; rfl) (by decide) ?_
  refine aH rfl (by decide) ?_
  refine eA rfl rfl ?_; simp only [bZ, Value.cells, List.set, List.take, List.drop, List.nil_append, List.append_nil, List.length_cons, List.length_nil, List.cons_append, Nat.reduceAdd]
  refine XK.aA ?_
  refine XK.ret ?_
  refine XK.norm ?_
  have hn0 : l = [] := List.eq_nil_of_length_eq_zero (by have h' : (n : Int) = 0 := h; omega)
  subst hn0
  exact XK.mS (n := 2) (vs := [.int .u8 0, .int .i64 0]) rfl (by kernel_rfl) rfl rfl (by first | assumption | exact aC.whole 0 rfl | exact aC.whole 1 rfl | exact aC.whole 2 rfl | exact aC.whole 3 rfl | exact aC.whole 4 rfl | exact aC.whole 5 rfl | exact aC.whole 6 rfl | exact aC.whole 7 rfl | exact aC.whole 8 rfl | exact aC.eM (by simp) (by assumption)) rfl fun w9 st => ⟨rfl, st.below (by simp)⟩
 ·
  obtain ⟨b, off, rfl, hcell⟩ := hl.u32 (show 0 < n by have h' : ¬ (n : Int) = 0 := h; omega)
  obtain ⟨w1, r, rfl⟩ : ∃ x r, l = x :: r := by
   cases l with
   | nil => exact absurd (by simpa using hn) (show ¬ n = 0 by have h' : ¬ (n : Int) = 0 := h; omega)
   | cons x r => exact ⟨x, r, rfl⟩
  have hw1 := hcell 0 w1 rfl
  have hlen : n = r.length + 1 := by simpa using hn
  refine XK.skip ?_
  refine XK.norm ?_
  refine XK.seq ?_
  refine XK.region ?_
  refine aF rfl (by decide) ?_
  refine dB 0 off (el := 44) (sz := 1) (by kernel_rfl) (by kernel_rfl) rfl rfl (by rfl) (by omega) (by omega) (by decide) ?_
  refine aZ rfl ?_
  refine bA (f := 175) (fi := []) (ca := []) (by kernel_rfl) rfl rfl (by decide) (v0 := .tuple #[.agg #[.int .i64 (cI w1), .int .i64 (Ci w1), .int .i64 (cB w1), .int .i64 (Lj w1)], .int .i64 (qP w1)]) (fun w2 st => (Uv w1 w2).mono fun x w3 hx => Rt.conv hx (by rw [aBR]; rfl)) ?_
  refine aF rfl (by decide) ?_
  refine nG rfl rfl (by decide) ?_
  refine nG rfl rfl (by decide) ?_
  refine cD (cs := [.int .i64 0, .int .i64 0, .int .i64 0, .int .i64 0]) (aM (by kernel_rfl)) (by decide) fun g3 => ?_
  refine eA rfl rfl ?_; simp only [bZ, Value.cells, List.set, List.take, List.drop, List.nil_append, List.append_nil, List.length_cons, List.length_nil, List.cons_append, Nat.reduceAdd]
  refine aH rfl (by decide) ?_
  refine XK.aA ?_
  refine XK.seq ?_
  refine XK.sK 30 (qP w1 ≠ 0 ∨ Ci w1 ≠ 0) ?_ ?_
  ·skip
   refine XK.region ?_
   refine aF rfl (by decide) ?_
   refine mQ rfl rfl (by decide) ?_
   refine aF rfl (by decide) ?_
   (first | refine bO (t := 26) rfl (fun hg => ?_) (fun hg => ?_) | refine iX (t := 26) rfl (fun hg => ?_) (fun hg => ?_))
   ·
    refine aN rfl rfl rfl (by decide) ?_
    refine aN rfl rfl rfl (by decide) ?_
    refine aN rfl rfl rfl (by decide) ?_
    (first | refine bJ rfl rfl (by decide) ?_ | refine bK rfl rfl (by decide) ?_)
    refine XK.aA ?_
    exact XK.rW (by repeat (first | exact trivial | refine ⟨rfl, ?_⟩)) (by first | exact uA rfl (by simp_all [jJ, gO]) | exact uY rfl (by simp_all [jJ, gO]) | exact xS rfl (by simp_all [jJ, gO]))
   ·
    refine aO rfl rfl ?_; refine aW (off := 1) (by kernel_rfl) rfl (by decide) ?_
    refine aO rfl rfl ?_; refine aZ rfl ?_
    refine aO rfl rfl ?_; refine mQ rfl rfl (by decide) ?_
    (first | refine bJ rfl rfl (by decide) ?_ | refine bK rfl rfl (by decide) ?_)
    refine XK.aA ?_
    exact XK.rW (by repeat (first | exact trivial | refine ⟨rfl, ?_⟩)) (by first | exact uA rfl (by simp_all [jJ, gO]) | exact uY rfl (by simp_all [jJ, gO]) | exact xS rfl (by simp_all [jJ, gO]))
  refine XK.if_ rfl (fun h4 => ?_) (fun h4 => ?_)
  ·
   refine XK.seq ?_
   refine XK.region ?_
   refine dJ (zs := [.int .u8 0, .int .i64 0]) (L := [(0, 1), (1, 1)]) (aM (by kernel_rfl)) (by kernel_rfl) rfl (by simp [aS, aT, Value.cells]; rfl) (by decide) ?_
   refine aH rfl (by decide) ?_
   refine eA rfl rfl ?_; simp only [bZ, Value.cells, List.set, List.take, List.drop, List.nil_append, List.append_nil, List.length_cons, List.length_nil, List.cons_append, Nat.reduceAdd]
   refine XK.aA ?_
   refine XK.ret ?_
   refine XK.norm ?_
   exact XK.mS (n := 2) (vs := [.int .u8 0, .int .i64 0]) rfl (by kernel_rfl) rfl rfl (by first | assumption | exact aC.whole 0 rfl | exact aC.whole 1 rfl | exact aC.whole 2 rfl | exact aC.whole 3 rfl | exact aC.whole 4 rfl | exact aC.whole 5 rfl | exact aC.whole 6 rfl | exact aC.whole 7 rfl | exact aC.whole 8 rfl | exact aC.eM (by simp) (by assumption)) rfl fun w9 st => ⟨by
    rw [dV, if_pos h4]; rfl, st.below (by simp)⟩
  ·
   refine XK.skip ?_
   refine XK.norm ?_
   refine XK.cut (fun e R H => ∃ g4, e = [(9, .bool (lO (cB w1) (cI w1)).isSome), (8, .pointer (some ⟨g4, 0, none⟩)), (7, .int .i64 (qP w1)), (6, .pointer (some ⟨g3, 0, none⟩)), (5, .pointer (some ⟨g2, 0, none⟩)), (2, .pointer (some ⟨g1, 0, none⟩)), (1, .slice (some ⟨b, off, none⟩) n c)] ∧ R = [all w] ∧ H = [HP.aE g4 275 [.int .i64 (cQ (cB w1) (cI w1)).n, .int .i64 (cQ (cB w1) (cI w1)).m, .int .u8 (cQ (cB w1) (cI w1)).a, .int .u8 (cQ (cB w1) (cI w1)).b, .int .u8 (cQ (cB w1) (cI w1)).c], HP.aE g3 43 [.int .i64 (cI w1), .int .i64 (Ci w1), .int .i64 (cB w1), .int .i64 (Lj w1)], HP.aE g2 63 [.int .u8 0, .int .i64 0], HP.aE g1 29 [.slice A1 n1 k1, .slice A2 n2 k2, .slice A3 n3 k3, .slice A4 n4 k4]]) ?_ ?_
   ·
    refine XK.draw 12 (by kernel_rfl) (by kernel_rfl) ?_
    refine XA.dA 1 rfl rfl rfl (iV (off := 2) (by kernel_rfl) rfl) ?_
    refine XA.dA 2 rfl rfl rfl (qF rfl) ?_
    refine XA.dA 3 rfl rfl rfl (iV (off := 0) (by kernel_rfl) rfl) ?_
    refine XA.dA 4 rfl rfl rfl (qF rfl) ?_
    refine XA.dA 5 rfl rfl rfl (fS (zs := [.int .i64 0, .int .i64 0]) (L := [(0, 1), (1, 1)]) (aM (by kernel_rfl)) (by kernel_rfl) rfl (by simp [aS, aT, Value.cells]; rfl)) ?_
    refine XA.either 0 10 rfl rfl (by kernel_rfl) ?_ ?_
    ·refine dU (f := 176) (fi := []) (ca := []) (by kernel_rfl) rfl rfl (by decide) Ts (fun w2 _ => aAc w2) ?_
     rintro _ _ q1 ⟨gm, sub, rfl, hsub, rfl⟩ _
     simp only [List.cons_append, List.nil_append]
     refine XK.nil ?_; refine XK.iJ ?_; refine XA.back (fun _ h => h.aP.tail) ?_
     refine XA.either 6 10 rfl rfl (by kernel_rfl) ?_ ?_
     ·refine Na (v := .agg #[.int .i64 (cQ (cB w1) (cI w1)).n, .int .i64 (cQ (cB w1) (cI w1)).m, .int .u8 (cQ (cB w1) (cI w1)).a, .int .u8 (cQ (cB w1) (cI w1)).b, .int .u8 (cQ (cB w1) (cI w1)).c]) (et := 275) (l := sub.reverse.map sF) Tryz.underlying277 Jw (z := mG 0 0 0 0 0) (by kernel_rfl) rfl (k := (cB w1, cI w1)) rfl (fun w2 st => st.oI (i := 0) rfl) (Ck hsub _ _).1 (Ck hsub _ _).2 (by decide) ?_
      refine XK.nil ?_; refine XK.iJ ?_; refine XA.back (fun _ h => h.aP.tail) ?_
      refine XA.dZ 7 rfl rfl rfl (by decide) (cE rfl) (by kernel_rfl) (fun _ _ _ h => h) (fun _ h => h.aP.tail) ?_
      refine XA.dZ 8 rfl rfl rfl (by decide) (vB rfl rfl) (by kernel_rfl) (fun _ _ _ h => h) (fun _ h => h.aP.tail) ?_
      refine XA.dZ 9 rfl rfl rfl (by decide) (vB rfl rfl) (by kernel_rfl) (fun _ _ _ h => h) (fun _ h => h.aP.tail) ?_
      refine XA.next 10 rfl (by kernel_rfl) ?_
      refine cD (cs := [.int .i64 0, .int .i64 0, .int .u8 0, .int .u8 0, .int .u8 0]) (aM (by kernel_rfl)) (by decide) fun g4 => ?_
      refine XK.nil ?_; refine XK.iJ ?_; refine XA.back (fun _ h => h.aP.tail.tail) ?_
      refine XA.next 11 rfl (by kernel_rfl) ?_
      refine eA rfl rfl ?_; simp only [bZ, Value.cells, List.set, List.take, List.drop, List.nil_append, List.append_nil, List.length_cons, List.length_nil, List.cons_append, Nat.reduceAdd]
      refine XK.nil ?_; refine XK.iJ ?_; refine XA.back (fun _ h => h.aP.tail.tail) ?_
      refine XA.next 12 rfl (by kernel_rfl) ?_
      refine aH rfl (by decide) ?_
      refine XA.bt ?_
      refine XA.done (by kernel_rfl) ?_
      refine XK.norm ?_
      exact XK.weak [0, 2, 3, 4] rfl (by decide) (by simp) (XK.aL [(9, .bool (lO (cB w1) (cI w1)).isSome), (8, .pointer (some ⟨g4, 0, none⟩)), (7, .int .i64 (qP w1)), (6, .pointer (some ⟨g3, 0, none⟩)), (5, .pointer (some ⟨g2, 0, none⟩)), (2, .pointer (some ⟨g1, 0, none⟩)), (1, .slice (some ⟨b, off, none⟩) n c)] (XK.meet ⟨g4, rfl, rfl, rfl⟩))
     ·refine cD (cs := [.int .i64 0, .int .i64 0, .int .u8 0, .int .u8 0, .int .u8 0]) (aM (by kernel_rfl)) (by decide) fun g4 => ?_
      refine XK.nil ?_; refine XK.iJ ?_; refine XA.back (fun _ h => h.aP.tail.tail) ?_
      refine XA.next 6 rfl (by kernel_rfl) ?_
      refine Na (v := .agg #[.int .i64 (cQ (cB w1) (cI w1)).n, .int .i64 (cQ (cB w1) (cI w1)).m, .int .u8 (cQ (cB w1) (cI w1)).a, .int .u8 (cQ (cB w1) (cI w1)).b, .int .u8 (cQ (cB w1) (cI w1)).c]) (et := 275) (l := sub.reverse.map sF) Tryz.underlying277 Jw (z := mG 0 0 0 0 0) (by kernel_rfl) rfl (k := (cB w1, cI w1)) rfl (fun w2 st => st.oI (i := 1) rfl) (Ck hsub _ _).1 (Ck hsub _ _).2 (by decide) ?_
      refine XK.nil ?_; refine XK.iJ ?_; refine XA.back (fun _ h => h.aP.tail.tail) ?_
      refine XA.dZ 7 rfl rfl rfl (by decide) (cE rfl) (by kernel_rfl) (fun _ _ _ h => h) (fun _ h => h.aP.tail.tail) ?_
      refine XA.dZ 8 rfl rfl rfl (by decide) (vB rfl rfl) (by kernel_rfl) (fun _ _ _ h => h) (fun _ h => h.aP.tail.tail) ?_
      refine XA.dZ 9 rfl rfl rfl (by decide) (vB rfl rfl) (by kernel_rfl) (fun _ _ _ h => h) (fun _ h => h.aP.tail.tail) ?_
      refine XA.next 11 rfl (by kernel_rfl) ?_
      refine eA rfl rfl ?_; simp only [bZ, Value.cells, List.set, List.take, List.drop, List.nil_append, List.append_nil, List.length_cons, List.length_nil, List.cons_append, Nat.reduceAdd]
      refine XK.nil ?_; refine XK.iJ ?_; refine XA.back (fun _ h => h.aP.tail.tail) ?_
      refine XA.next 12 rfl (by kernel_rfl) ?_
      refine aH rfl (by decide) ?_
      refine XA.bt ?_
      refine XA.done (by kernel_rfl) ?_
      refine XK.norm ?_
      exact XK.weak [0, 2, 3, 4] rfl (by decide) (by simp) (XK.aL [(9, .bool (lO (cB w1) (cI w1)).isSome), (8, .pointer (some ⟨g4, 0, none⟩)), (7, .int .i64 (qP w1)), (6, .pointer (some ⟨g3, 0, none⟩)), (5, .pointer (some ⟨g2, 0, none⟩)), (2, .pointer (some ⟨g1, 0, none⟩)), (1, .slice (some ⟨b, off, none⟩) n c)] (XK.meet ⟨g4, rfl, rfl, rfl⟩))
    ·refine cD (cs := [.int .i64 0, .int .i64 0, .int .u8 0, .int .u8 0, .int .u8 0]) (aM (by kernel_rfl)) (by decide) fun g4 => ?_
     refine XK.nil ?_; refine XK.iJ ?_; refine XA.back (fun _ h => h.tail) ?_
     refine XA.next 0 rfl (by kernel_rfl) ?_
     refine dU (f := 176) (fi := []) (ca := []) (by kernel_rfl) rfl rfl (by decide) Ts (fun w2 _ => aAc w2) ?_
     rintro _ _ q1 ⟨gm, sub, rfl, hsub, rfl⟩ _
     simp only [List.cons_append, List.nil_append]
     refine XK.nil ?_; refine XK.iJ ?_; refine XA.back (fun _ h => h.aP.tail.tail) ?_
     refine XA.next 6 rfl (by kernel_rfl) ?_
     refine Na (v := .agg #[.int .i64 (cQ (cB w1) (cI w1)).n, .int .i64 (cQ (cB w1) (cI w1)).m, .int .u8 (cQ (cB w1) (cI w1)).a, .int .u8 (cQ (cB w1) (cI w1)).b, .int .u8 (cQ (cB w1) (cI w1)).c]) (et := 275) (l := sub.reverse.map sF) Tryz.underlying277 Jw (z := mG 0 0 0 0 0) (by kernel_rfl) rfl (k := (cB w1, cI w1)) rfl (fun w2 st => st.oI (i := 0) rfl) (Ck hsub _ _).1 (Ck hsub _ _).2 (by decide) ?_
     refine XK.nil ?_; refine XK.iJ ?_; refine XA.back (fun _ h => h.aP.tail.tail) ?_
     refine XA.dZ 7 rfl rfl rfl (by decide) (cE rfl) (by kernel_rfl) (fun _ _ _ h => h) (fun _ h => h.aP.tail.tail) ?_
     refine XA.dZ 8 rfl rfl rfl (by decide) (vB rfl rfl) (by kernel_rfl) (fun _ _ _ h => h) (fun _ h => h.aP.tail.tail) ?_
     refine XA.dZ 9 rfl rfl rfl (by decide) (vB rfl rfl) (by kernel_rfl) (fun _ _ _ h => h) (fun _ h => h.aP.tail.tail) ?_
     refine XA.next 11 rfl (by kernel_rfl) ?_
     refine eA rfl rfl ?_; simp only [bZ, Value.cells, List.set, List.take, List.drop, List.nil_append, List.append_nil, List.length_cons, List.length_nil, List.cons_append, Nat.reduceAdd]
     refine XK.nil ?_; refine XK.iJ ?_; refine XA.back (fun _ h => h.aP.tail.tail) ?_
     refine XA.next 12 rfl (by kernel_rfl) ?_
     refine aH rfl (by decide) ?_
     refine XA.bt ?_
     refine XA.done (by kernel_rfl) ?_
     refine XK.norm ?_
     exact XK.weak [1, 2, 3, 4] rfl (by decide) (by simp) (XK.aL [(9, .bool (lO (cB w1) (cI w1)).isSome), (8, .pointer (some ⟨g4, 0, none⟩)), (7, .int .i64 (qP w1)), (6, .pointer (some ⟨g3, 0, none⟩)), (5, .pointer (some ⟨g2, 0, none⟩)), (2, .pointer (some ⟨g1, 0, none⟩)), (1, .slice (some ⟨b, off, none⟩) n c)] (XK.meet ⟨g4, rfl, rfl, rfl⟩))
   rintro _ _ _ ⟨g4, rfl, rfl, rfl⟩
   obtain ⟨xR, xQ, Zu, hF4, hF5⟩ := aAa (cB w1) (cI w1)
   refine XK.seq ?_
   refine XK.seq ?_
   refine XK.region ?_
   refine aF rfl (by decide) ?_
   (first | refine mO rfl (by decide) ?_ | refine mP rfl (by decide) ?_)
   refine XK.aA ?_
   refine XK.cond rfl (fun h7 => ?_) (fun h7 => ?_)
   ·
    refine XK.seq ?_
    refine XK.region ?_
    refine dJ (zs := [.int .u8 0, .int .i64 0]) (L := [(0, 1), (1, 1)]) (aM (by kernel_rfl)) (by kernel_rfl) rfl (by simp [aS, aT, Value.cells]; rfl) (by decide) ?_
    refine aH rfl (by decide) ?_
    refine eA rfl rfl ?_; simp only [bZ, Value.cells, List.set, List.take, List.drop, List.nil_append, List.append_nil, List.length_cons, List.length_nil, List.cons_append, Nat.reduceAdd]
    refine XK.aA ?_
    refine XK.ret ?_
    refine XK.norm ?_
    exact XK.mS (n := 2) (vs := [.int .u8 0, .int .i64 0]) rfl (by kernel_rfl) rfl rfl (by first | assumption | exact aC.whole 0 rfl | exact aC.whole 1 rfl | exact aC.whole 2 rfl | exact aC.whole 3 rfl | exact aC.whole 4 rfl | exact aC.whole 5 rfl | exact aC.whole 6 rfl | exact aC.whole 7 rfl | exact aC.whole 8 rfl | exact aC.eM (by simp) (by assumption)) rfl fun w9 st => ⟨by
     rw [dV, if_neg h4, if_pos (by revert h7; cases (lO (cB w1) (cI w1)).isSome <;> simp)]; rfl, st.below (by simp)⟩
   ·
    have Ry : ¬ (lO (cB w1) (cI w1)).isSome = false := by revert h7; cases (lO (cB w1) (cI w1)).isSome <;> simp
    refine XK.skip ?_
    refine XK.norm ?_
    refine XK.seq ?_
    refine XK.seq ?_
    refine XK.region ?_
    refine aF rfl (by decide) ?_
    refine cY (el := 44) (by kernel_rfl) rfl (by decide) ?_
    refine vL rfl rfl (aY (by omega)) (by decide) ?_
    refine aW (off := 0) (by kernel_rfl) rfl (by decide) ?_
    refine aZ rfl ?_
    refine mQ rfl rfl (by decide) ?_
    refine XK.aA ?_
    refine XK.if_ rfl (fun h9 => ?_) (fun h9 => ?_)
    ·
     refine XK.seq ?_
     refine XK.region ?_
     refine dJ (zs := [.int .u8 0, .int .i64 0]) (L := [(0, 1), (1, 1)]) (aM (by kernel_rfl)) (by kernel_rfl) rfl (by simp [aS, aT, Value.cells]; rfl) (by decide) ?_
     refine aH rfl (by decide) ?_
     refine eA rfl rfl ?_; simp only [bZ, Value.cells, List.set, List.take, List.drop, List.nil_append, List.append_nil, List.length_cons, List.length_nil, List.cons_append, Nat.reduceAdd]
     refine XK.aA ?_
     refine XK.ret ?_
     refine XK.norm ?_
     exact XK.mS (n := 2) (vs := [.int .u8 0, .int .i64 0]) rfl (by kernel_rfl) rfl rfl (by first | assumption | exact aC.whole 0 rfl | exact aC.whole 1 rfl | exact aC.whole 2 rfl | exact aC.whole 3 rfl | exact aC.whole 4 rfl | exact aC.whole 5 rfl | exact aC.whole 6 rfl | exact aC.whole 7 rfl | exact aC.whole 8 rfl | exact aC.eM (by simp) (by assumption)) rfl fun w9 st => ⟨by
      rw [dV, if_neg h4, if_neg Ry, if_pos (by omega)]; rfl, st.below (by simp)⟩
    ·
     have Zv : ¬ (r.length : Int) ≠ (cQ (cB w1) (cI w1)).n := by omega
     refine XK.skip ?_
     refine XK.norm ?_
     refine XK.seq ?_
     refine XK.seq ?_
     refine XK.region ?_
     refine aW (off := 0) (by kernel_rfl) rfl (by decide) ?_
     refine aZ rfl ?_
     refine eH rfl rfl (by decide) ?_
     refine XK.aA ?_
     refine XK.if_ rfl (fun h11 => ?_) (fun h11 => ?_)
     ·
      refine XK.seq ?_
      refine XK.region ?_
      refine dJ (zs := [.int .u8 0, .int .i64 0]) (L := [(0, 1), (1, 1)]) (aM (by kernel_rfl)) (by kernel_rfl) rfl (by simp [aS, aT, Value.cells]; rfl) (by decide) ?_
      refine aH rfl (by decide) ?_
      refine eA rfl rfl ?_; simp only [bZ, Value.cells, List.set, List.take, List.drop, List.nil_append, List.append_nil, List.length_cons, List.length_nil, List.cons_append, Nat.reduceAdd]
      refine XK.aA ?_
      refine XK.ret ?_
      refine XK.norm ?_
      exact XK.mS (n := 2) (vs := [.int .u8 0, .int .i64 0]) rfl (by kernel_rfl) rfl rfl (by first | assumption | exact aC.whole 0 rfl | exact aC.whole 1 rfl | exact aC.whole 2 rfl | exact aC.whole 3 rfl | exact aC.whole 4 rfl | exact aC.whole 5 rfl | exact aC.whole 6 rfl | exact aC.whole 7 rfl | exact aC.whole 8 rfl | exact aC.eM (by simp) (by assumption)) rfl fun w9 st => ⟨by
       rw [dV, if_neg h4, if_neg Ry, if_neg Zv, if_pos h11]; rfl, st.below (by simp)⟩
     ·
      obtain ⟨id, hid⟩ : ∃ x, r[0]? = some x := ⟨r[0]'(by omega), List.getElem?_eq_getElem _⟩
      obtain ⟨v, hv⟩ : ∃ x, r[(cQ (cB w1) (cI w1)).n.toNat - 1]? = some x := ⟨r[(cQ (cB w1) (cI w1)).n.toNat - 1]'(by omega), List.getElem?_eq_getElem _⟩
      have aE9 : r.getD 0 0 = id := by rw [List.getD_eq_getElem?_getD, hid]; rfl
      have hv' : r.getD ((cQ (cB w1) (cI w1)).n.toNat - 1) 0 = v := by rw [List.getD_eq_getElem?_getD, hv]; rfl
      have aHt := hu id (List.mem_cons_of_mem _ (List.mem_of_getElem? hid))
      have Gl := hu v (List.mem_cons_of_mem _ (List.mem_of_getElem? hv))
      have aHs := hcell 1 id (by simpa using hid)
      have hcv := hcell (cQ (cB w1) (cI w1)).n.toNat v (by
       obtain ⟨t, ht⟩ : ∃ t, (cQ (cB w1) (cI w1)).n.toNat = t + 1 := ⟨(cQ (cB w1) (cI w1)).n.toNat - 1, by omega⟩
       rw [ht] at hv ⊢; simpa using hv)
      have hread : dV s (w1 :: r) = wQ s (cB w1) (cQ (cB w1) (cI w1)) id v := by rw [dV, if_neg h4, if_neg Ry, if_neg Zv, if_neg h11, aE9, hv']
      refine XK.skip ?_
      refine XK.norm ?_
      refine XK.seq ?_
      refine XK.region ?_
      refine aF rfl (by decide) ?_
      refine dB 1 (off + 1) (el := 44) (sz := 1) (by kernel_rfl) (by kernel_rfl) rfl rfl (by rfl) (by omega) (by omega) (by decide) ?_
      refine aZ rfl ?_
      refine qN (ds := .int .u32) (by kernel_rfl) (by kernel_rfl) rfl (aY (by omega)) (by decide) ?_
      refine aH rfl (by decide) ?_
      refine XK.aA ?_
      refine XK.seq ?_
      refine XK.seq ?_
      refine XK.region ?_
      refine aF rfl (by decide) ?_
      refine gB 4 rfl ?_
      refine aW (off := 2) (by kernel_rfl) rfl (by decide) ?_
      refine aZ rfl ?_
      refine bA (f := 177) (fi := []) (ca := []) (by kernel_rfl) rfl rfl (by decide) (fun w2 st => aD6 s A1 A2 A3 A4 n1 k1 n2 k2 n3 k3 n4 k4 (cB w1) w2 hS) ?_
      refine uK rfl rfl (by decide) ?_
      refine XK.aA ?_
      refine XK.if_ rfl (fun mF => ?_) (fun mF => ?_)
      ·
       refine XK.seq ?_
       refine XK.region ?_
       refine dJ (zs := [.int .u8 0, .int .i64 0]) (L := [(0, 1), (1, 1)]) (aM (by kernel_rfl)) (by kernel_rfl) rfl (by simp [aS, aT, Value.cells]; rfl) (by decide) ?_
       refine aH rfl (by decide) ?_
       refine eA rfl rfl ?_; simp only [bZ, Value.cells, List.set, List.take, List.drop, List.nil_append, List.append_nil, List.length_cons, List.length_nil, List.cons_append, Nat.reduceAdd]
       refine XK.aA ?_
       refine XK.ret ?_
       refine XK.norm ?_
       exact XK.mS (n := 2) (vs := [.int .u8 0, .int .i64 0]) rfl (by kernel_rfl) rfl rfl (by first | assumption | exact aC.whole 0 rfl | exact aC.whole 1 rfl | exact aC.whole 2 rfl | exact aC.whole 3 rfl | exact aC.whole 4 rfl | exact aC.whole 5 rfl | exact aC.whole 6 rfl | exact aC.whole 7 rfl | exact aC.whole 8 rfl | exact aC.eM (by simp) (by assumption)) rfl fun w9 st => ⟨by
        rw [hread, wQ, if_pos mF]; rfl, st.below (by simp)⟩
      ·
       refine XK.skip ?_
       refine XK.norm ?_
       refine XK.seq ?_
       refine XK.seq ?_
       refine XK.region ?_
       refine aW (off := 1) (by kernel_rfl) rfl (by decide) ?_
       refine aZ rfl ?_
       refine eH rfl rfl (by decide) ?_
       refine XK.aA ?_
       refine XK.if_ rfl (fun rE => ?_) (fun rE => ?_)
       ·
        refine XK.seq ?_
        refine XK.region ?_
        refine dJ (zs := [.int .u8 0, .int .i64 0]) (L := [(0, 1), (1, 1)]) (aM (by kernel_rfl)) (by kernel_rfl) rfl (by simp [aS, aT, Value.cells]; rfl) (by decide) ?_
        refine aH rfl (by decide) ?_
        refine eA rfl rfl ?_; simp only [bZ, Value.cells, List.set, List.take, List.drop, List.nil_append, List.append_nil, List.length_cons, List.length_nil, List.cons_append, Nat.reduceAdd]
        refine XK.aA ?_
        refine XK.ret ?_
        refine XK.norm ?_
        exact XK.mS (n := 2) (vs := [.int .u8 0, .int .i64 0]) rfl (by kernel_rfl) rfl rfl (by first | assumption | exact aC.whole 0 rfl | exact aC.whole 1 rfl | exact aC.whole 2 rfl | exact aC.whole 3 rfl | exact aC.whole 4 rfl | exact aC.whole 5 rfl | exact aC.whole 6 rfl | exact aC.whole 7 rfl | exact aC.whole 8 rfl | exact aC.eM (by simp) (by assumption)) rfl fun w9 st => ⟨by
         rw [hread, wQ, if_neg mF, if_pos rE]; rfl, st.below (by simp)⟩
       ·
        refine XK.skip ?_
        refine XK.norm ?_
        refine XK.seq ?_
        refine XK.region ?_
        refine aF rfl (by decide) ?_
        refine aW (off := 0) (by kernel_rfl) rfl (by decide) ?_
        refine aZ rfl ?_
        refine dB (cQ (cB w1) (cI w1)).n.toNat (off + (cQ (cB w1) (cI w1)).n.toNat) (el := 44) (sz := 1) (by kernel_rfl) (by kernel_rfl) rfl rfl (by omega) (by omega) (by omega) (by decide) ?_
        refine aZ rfl ?_
        refine qN (ds := .int .u32) (by kernel_rfl) (by kernel_rfl) rfl (aY (by omega)) (by decide) ?_
        refine aH rfl (by decide) ?_
        refine XK.aA ?_
        refine XK.seq ?_
        refine XK.seq ?_
        refine XK.region ?_
        refine aF rfl (by decide) ?_
        refine aW (off := 1) (by kernel_rfl) rfl (by decide) ?_
        refine aZ rfl ?_
        refine uK rfl rfl (by decide) ?_
        refine XK.aA ?_
        refine XK.if_ rfl (fun Ll => ?_) (fun Ll => ?_)
        ·
         refine XK.seq ?_
         refine XK.region ?_
         refine dJ (zs := [.int .u8 0, .int .i64 0]) (L := [(0, 1), (1, 1)]) (aM (by kernel_rfl)) (by kernel_rfl) rfl (by simp [aS, aT, Value.cells]; rfl) (by decide) ?_
         refine aH rfl (by decide) ?_
         refine eA rfl rfl ?_; simp only [bZ, Value.cells, List.set, List.take, List.drop, List.nil_append, List.append_nil, List.length_cons, List.length_nil, List.cons_append, Nat.reduceAdd]
         refine XK.aA ?_
         refine XK.ret ?_
         refine XK.norm ?_
         exact XK.mS (n := 2) (vs := [.int .u8 0, .int .i64 0]) rfl (by kernel_rfl) rfl rfl (by first | assumption | exact aC.whole 0 rfl | exact aC.whole 1 rfl | exact aC.whole 2 rfl | exact aC.whole 3 rfl | exact aC.whole 4 rfl | exact aC.whole 5 rfl | exact aC.whole 6 rfl | exact aC.whole 7 rfl | exact aC.whole 8 rfl | exact aC.eM (by simp) (by assumption)) rfl fun w9 st => ⟨by
          rw [hread, wQ, if_neg mF, if_neg rE, if_pos Ll]; rfl, st.below (by simp)⟩
        ·
         have hact : ([.int .i64 (cQ (cB w1) (cI w1)).n, .int .i64 (cQ (cB w1) (cI w1)).m, .int .u8 (cQ (cB w1) (cI w1)).a, .int .u8 (cQ (cB w1) (cI w1)).b, .int .u8 (cQ (cB w1) (cI w1)).c] : List Value)[2 + v.toNat]? = some (.int .u8 ((cQ (cB w1) (cI w1)).act v)) := by
          unfold jE.act
          rcases (by omega : v = 0 ∨ v = 1 ∨ v = 2) with rfl | rfl | rfl <;> rfl
         have aE2 := hF4 v Gl.1 (by omega)
         generalize hk : (cQ (cB w1) (cI w1)).act v = k at *
         refine XK.skip ?_
         refine XK.norm ?_
         refine XK.seq ?_
         refine XK.region ?_
         refine aF rfl (by decide) ?_
         refine aW (off := 2) (by kernel_rfl) rfl (by decide) ?_
         refine Ni v.toNat (2 + v.toNat) (n := 3) (el := 5) (sz := 1) (by kernel_rfl) (by kernel_rfl) rfl rfl (by omega) (by omega) (by omega) (by decide) ?_
         refine fI (by kernel_rfl) rfl (Rd.aE 0 rfl hact) (by decide) ?_
         refine aF rfl (by decide) ?_
         refine dJ (zs := [.int .u8 0, .int .i64 0]) (L := [(0, 1), (1, 1)]) (aM (by kernel_rfl)) (by kernel_rfl) rfl (by simp [aS, aT, Value.cells]; rfl) (by decide) ?_
         refine cD (cs := [.int .u8 0, .int .i64 0]) (aM (by kernel_rfl)) (by decide) fun g5 => ?_
         refine eA rfl rfl ?_; simp only [bZ, Value.cells, List.set, List.take, List.drop, List.nil_append, List.append_nil, List.length_cons, List.length_nil, List.cons_append, Nat.reduceAdd]
         refine XK.aA ?_
         refine XK.seq ?_
         refine XK.sK 113 (jJ s (cB w1) ((cQ (cB w1) (cI w1)).act v) id.toNat) ?_ ?_
         ·skip
          refine XK.region ?_
          refine aW (off := 0) (by kernel_rfl) rfl (by decide) ?_
          refine aZ rfl ?_
          refine eH rfl rfl (by decide) ?_
          refine aF rfl (by decide) ?_
          (first | refine bO (t := 91) rfl (fun hg => ?_) (fun hg => ?_) | refine iX (t := 91) rfl (fun hg => ?_) (fun hg => ?_))
          ·
           have hp := aE2 (by simpa using hg)
           obtain ⟨dm, rB⟩ : ∃ d, s.domains[id.toNat]? = some d := ⟨s.domains[id.toNat]'(by rw [hp] at mF; simp only [oH, if_true] at mF; omega), List.getElem?_eq_getElem _⟩
           obtain ⟨bD, oD, rD, rfl, _, rfl, hRD⟩ := hS.dom.row rB
           have Ym : El s id.toNat = dm.ret := by rw [El, rB]; rfl
           have hlD := hS.qT
           have aHn := (List.getElem?_eq_some_iff.1 rB).1
           have Lh := hRD.at_ (j := 2) rfl
           refine aO rfl rfl ?_; refine aW (off := 1) (by kernel_rfl) rfl (by decide) ?_
           refine aO rfl rfl ?_; refine aZ rfl ?_
           refine aO rfl rfl ?_; refine aF rfl (by decide) ?_
           refine aO rfl rfl ?_; refine dB id.toNat (oD + id.toNat * 3) (el := 75) (sz := 3) (by kernel_rfl) (by kernel_rfl) rfl rfl (by omega) (by omega) (by omega) (by decide) ?_
           refine aO rfl rfl ?_; refine aW (off := 2) (by kernel_rfl) rfl (by decide) ?_
           refine aO rfl rfl ?_; refine aZ rfl ?_
           refine aO rfl rfl ?_; (first | refine mO rfl (by decide) ?_ | refine mP rfl (by decide) ?_)
           (first | refine bJ rfl rfl (by decide) ?_ | refine bK rfl rfl (by decide) ?_)
           refine aF rfl (by decide) ?_
           (first | refine bO (t := 100) rfl (fun hg => ?_) (fun hg => ?_) | refine iX (t := 100) rfl (fun hg => ?_) (fun hg => ?_))
           ·
            refine aN rfl rfl rfl (by decide) ?_
            refine aN rfl rfl rfl (by decide) ?_
            refine aN rfl rfl rfl (by decide) ?_
            refine aN rfl rfl rfl (by decide) ?_
            refine qL rfl rfl (by decide) ?_
            refine qL rfl rfl (by decide) ?_
            refine qL rfl rfl (by decide) ?_
            refine qL rfl rfl (by decide) ?_
            refine qL rfl rfl (by decide) ?_
            refine qL rfl rfl (by decide) ?_
            refine qL rfl rfl (by decide) ?_
            refine aN rfl rfl rfl (by decide) ?_
            (first | refine bJ rfl rfl (by decide) ?_ | refine bK rfl rfl (by decide) ?_)
            refine XK.aA ?_
            exact XK.rW (by repeat (first | exact trivial | refine ⟨rfl, ?_⟩)) (by first | exact uA rfl (by simp_all [jJ, gO]) | exact uY rfl (by simp_all [jJ, gO]) | exact xS rfl (by simp_all [jJ, gO]))
           ·
            refine aO rfl rfl ?_; refine aW (off := 2) (by kernel_rfl) rfl (by decide) ?_
            refine aO rfl rfl ?_; refine aZ rfl ?_
            refine aO rfl rfl ?_; refine eH rfl rfl (by decide) ?_
            refine aO rfl rfl ?_; refine aF rfl (by decide) ?_
            (first | refine bO (t := 104) rfl (fun hg => ?_) (fun hg => ?_) | refine iX (t := 104) rfl (fun hg => ?_) (fun hg => ?_))
            ·
             have hp : cB w1 = 20 := by simpa using hg
             obtain ⟨ck, wC⟩ : ∃ d, s.aB[id.toNat]? = some d := ⟨s.aB[id.toNat]'(by rw [hp] at mF; simp only [oH, if_true] at mF; simp at mF; omega), List.getElem?_eq_getElem _⟩
             obtain ⟨bC, oC, rC, rfl, _, Rs, hC⟩ := hS.gX.row wC
             obtain ⟨cA, cn, aGQ, hrow, _⟩ := Rs
             have Qu : kindOf s id.toNat = ck.kind := by rw [kindOf, wC]; rfl
             have hlC := hS.pY
             have aE7 := (List.getElem?_eq_some_iff.1 wC).1
             subst hrow
             refine aO rfl rfl ?_; refine aW (off := 0) (by kernel_rfl) rfl (by decide) ?_
             refine aO rfl rfl ?_; refine aZ rfl ?_
             refine aO rfl rfl ?_; refine aF rfl (by decide) ?_
             refine aO rfl rfl ?_; refine dB id.toNat (oC + id.toNat * 6) (el := 118) (sz := 6) (by kernel_rfl) (by kernel_rfl) rfl rfl (by omega) (by omega) (by omega) (by decide) ?_
             refine aO rfl rfl ?_; refine gB 6 rfl ?_
             refine aO rfl rfl ?_; refine bA (f := 178) (fi := []) (ca := []) (by kernel_rfl) rfl rfl (by decide) (fun w2 st => Vb ck.kind _ _ _ _ _ _ _ w2) ?_
             refine aO rfl rfl ?_; (first | refine mO rfl (by decide) ?_ | refine mP rfl (by decide) ?_)
             refine aO rfl rfl ?_; (first | refine bJ rfl rfl (by decide) ?_ | refine bK rfl rfl (by decide) ?_)
             (first | refine bJ rfl rfl (by decide) ?_ | refine bK rfl rfl (by decide) ?_)
             refine XK.aA ?_
             exact XK.rW (by repeat (first | exact trivial | refine ⟨rfl, ?_⟩)) (by first | exact uA rfl (by simp_all [jJ, gO]) | exact uY rfl (by simp_all [jJ, gO]) | exact xS rfl (by simp_all [jJ, gO]))
            ·
             refine aN rfl rfl rfl (by decide) ?_
             refine aN rfl rfl rfl (by decide) ?_
             refine aN rfl rfl rfl (by decide) ?_
             refine aN rfl rfl rfl (by decide) ?_
             refine aN rfl rfl rfl (by decide) ?_
             refine aN rfl rfl rfl (by decide) ?_
             refine aN rfl rfl rfl (by decide) ?_
             refine aO rfl rfl ?_; (first | refine bJ rfl rfl (by decide) ?_ | refine bK rfl rfl (by decide) ?_)
             (first | refine bJ rfl rfl (by decide) ?_ | refine bK rfl rfl (by decide) ?_)
             refine XK.aA ?_
             exact XK.rW (by repeat (first | exact trivial | refine ⟨rfl, ?_⟩)) (by first | exact uA rfl (by simp_all [jJ, gO]) | exact uY rfl (by simp_all [jJ, gO]) | exact xS rfl (by simp_all [jJ, gO]))
          ·
           refine aN rfl rfl rfl (by decide) ?_
           refine aN rfl rfl rfl (by decide) ?_
           refine aN rfl rfl rfl (by decide) ?_
           refine aN rfl rfl rfl (by decide) ?_
           refine aN rfl rfl rfl (by decide) ?_
           refine aN rfl rfl rfl (by decide) ?_
           refine aN rfl rfl rfl (by decide) ?_
           (first | refine bJ rfl rfl (by decide) ?_ | refine bK rfl rfl (by decide) ?_)
           refine aF rfl (by decide) ?_
           refine aO rfl rfl ?_; refine aW (off := 2) (by kernel_rfl) rfl (by decide) ?_
           refine aO rfl rfl ?_; refine aZ rfl ?_
           refine aO rfl rfl ?_; refine eH rfl rfl (by decide) ?_
           refine aO rfl rfl ?_; refine aF rfl (by decide) ?_
           (first | refine bO (t := 104) rfl (fun hg => ?_) (fun hg => ?_) | refine iX (t := 104) rfl (fun hg => ?_) (fun hg => ?_))
           ·
            have hp : cB w1 = 20 := by simpa using hg
            obtain ⟨ck, wC⟩ : ∃ d, s.aB[id.toNat]? = some d := ⟨s.aB[id.toNat]'(by rw [hp] at mF; simp only [oH, if_true] at mF; simp at mF; omega), List.getElem?_eq_getElem _⟩
            obtain ⟨bC, oC, rC, rfl, _, Rs, hC⟩ := hS.gX.row wC
            obtain ⟨cA, cn, aGQ, hrow, _⟩ := Rs
            have Qu : kindOf s id.toNat = ck.kind := by rw [kindOf, wC]; rfl
            have hlC := hS.pY
            have aE7 := (List.getElem?_eq_some_iff.1 wC).1
            subst hrow
            refine aO rfl rfl ?_; refine aW (off := 0) (by kernel_rfl) rfl (by decide) ?_
            refine aO rfl rfl ?_; refine aZ rfl ?_
            refine aO rfl rfl ?_; refine aF rfl (by decide) ?_
            refine aO rfl rfl ?_; refine dB id.toNat (oC + id.toNat * 6) (el := 118) (sz := 6) (by kernel_rfl) (by kernel_rfl) rfl rfl (by omega) (by omega) (by omega) (by decide) ?_
            refine aO rfl rfl ?_; refine gB 6 rfl ?_
            refine aO rfl rfl ?_; refine bA (f := 178) (fi := []) (ca := []) (by kernel_rfl) rfl rfl (by decide) (fun w2 st => Vb ck.kind _ _ _ _ _ _ _ w2) ?_
            refine aO rfl rfl ?_; (first | refine mO rfl (by decide) ?_ | refine mP rfl (by decide) ?_)
            refine aO rfl rfl ?_; (first | refine bJ rfl rfl (by decide) ?_ | refine bK rfl rfl (by decide) ?_)
            (first | refine bJ rfl rfl (by decide) ?_ | refine bK rfl rfl (by decide) ?_)
            refine XK.aA ?_
            exact XK.rW (by repeat (first | exact trivial | refine ⟨rfl, ?_⟩)) (by first | exact uA rfl (by simp_all [jJ, gO]) | exact uY rfl (by simp_all [jJ, gO]) | exact xS rfl (by simp_all [jJ, gO]))
           ·
            refine aN rfl rfl rfl (by decide) ?_
            refine aN rfl rfl rfl (by decide) ?_
            refine aN rfl rfl rfl (by decide) ?_
            refine aN rfl rfl rfl (by decide) ?_
            refine aN rfl rfl rfl (by decide) ?_
            refine aN rfl rfl rfl (by decide) ?_
            refine aN rfl rfl rfl (by decide) ?_
            refine aO rfl rfl ?_; (first | refine bJ rfl rfl (by decide) ?_ | refine bK rfl rfl (by decide) ?_)
            (first | refine bJ rfl rfl (by decide) ?_ | refine bK rfl rfl (by decide) ?_)
            refine XK.aA ?_
            exact XK.rW (by repeat (first | exact trivial | refine ⟨rfl, ?_⟩)) (by first | exact uA rfl (by simp_all [jJ, gO]) | exact uY rfl (by simp_all [jJ, gO]) | exact xS rfl (by simp_all [jJ, gO]))
         refine XK.if_ rfl (fun tX => ?_) (fun tX => ?_)
         ·
          refine XK.seq ?_
          refine XK.region ?_
          refine dJ (zs := [.int .u8 0, .int .i64 0]) (L := [(0, 1), (1, 1)]) (aM (by kernel_rfl)) (by kernel_rfl) rfl (by simp [aS, aT, Value.cells]; rfl) (by decide) ?_
          refine aH rfl (by decide) ?_
          refine eA rfl rfl ?_; simp only [bZ, Value.cells, List.set, List.take, List.drop, List.nil_append, List.append_nil, List.length_cons, List.length_nil, List.cons_append, Nat.reduceAdd]
          refine XK.aA ?_
          refine XK.ret ?_
          refine XK.norm ?_
          exact XK.mS (n := 2) (vs := [.int .u8 0, .int .i64 0]) rfl (by kernel_rfl) rfl rfl (by first | assumption | exact aC.whole 0 rfl | exact aC.whole 1 rfl | exact aC.whole 2 rfl | exact aC.whole 3 rfl | exact aC.whole 4 rfl | exact aC.whole 5 rfl | exact aC.whole 6 rfl | exact aC.whole 7 rfl | exact aC.whole 8 rfl | exact aC.eM (by simp) (by assumption)) rfl fun w9 st => ⟨by
           rw [hread, wQ, if_neg mF, if_neg rE, if_neg Ll, if_pos tX]; rfl, st.below (by simp)⟩
         ·
          refine XK.skip ?_
          refine XK.norm ?_
          refine XK.seq ?_
          refine XK.draw 2 (by kernel_rfl) (by kernel_rfl) ?_
          refine XA.dA 0 rfl rfl rfl (Ct 2 rfl) ?_
          refine XA.dA 1 rfl rfl rfl (xY rfl) ?_
          refine XA.next 2 rfl (by kernel_rfl) ?_
          refine eA rfl rfl ?_; simp only [bZ, Value.cells, List.set, List.take, List.drop, List.nil_append, List.append_nil, List.length_cons, List.length_nil, List.cons_append, Nat.reduceAdd]
          refine XA.bt ?_
          refine XA.done (by kernel_rfl) ?_
          refine XK.norm ?_
          refine XK.ret ?_
          refine XK.norm ?_
          exact XK.mS (n := 2) (vs := [.int .u8 k, .int .i64 id]) rfl (by kernel_rfl) rfl rfl (by first | assumption | exact aC.whole 0 rfl | exact aC.whole 1 rfl | exact aC.whole 2 rfl | exact aC.whole 3 rfl | exact aC.whole 4 rfl | exact aC.whole 5 rfl | exact aC.whole 6 rfl | exact aC.whole 7 rfl | exact aC.whole 8 rfl | exact aC.eM (by simp) (by assumption)) rfl fun w9 st => ⟨by
           rw [hread, wQ, if_neg mF, if_neg rE, if_neg Ll, if_neg tX, hk]; rfl, st.below (by simp)⟩
end
end Go.Proofs.YticjkhagldkejaaGreatDoor
