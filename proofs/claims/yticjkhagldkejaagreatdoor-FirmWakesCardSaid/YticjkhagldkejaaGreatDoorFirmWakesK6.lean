/- package firm: take. -/
import Derived.KernelRfl
import Derived.Tactics2
import Derived.Test.YticjkhagldkejaaGreatDoorProg
import Derived.Test.YticjkhagldkejaaGreatDoorFirmWakesK5
namespace Go.Proofs.YticjkhagldkejaaGreatDoor
set_option linter.all false
open Go.RowKit
section
set_option maxHeartbeats 4000000
set_option maxRecDepth 20000
section
variable {P : Program} {N : Frm} {w0 w : World} {e : Env} {R : List Piece} {H : List HP} {K : Act → World → Prop} {f h : Nat} {L : FmL} {s : Soc} {z : FmS} {Q : Exit → Act → World → Prop}
theorem Rd.firm (i : Nat) {o : Nat} {v : Value} (hi : H[i]? = some (FirmH f h L s z)) (hv : (fmC h L s z)[o]? = some v) : Rd w0 R H f o v := fun w t => by
 have := ((t.firmR i hi).r0.at_ hv).2
 rwa [Nat.zero_add] at this
theorem RdN.firm (i : Nat) {o : Nat} {vs : List Value} (hi : H[i]? = some (FirmH f h L s z)) (hv : ((fmC h L s z).drop o).take vs.length = vs) : RdN w0 R H f o vs := .of fun _ _ hj => Rd.firm i hi (cell_mid hv hj)
end
def bxA (L : FmL) (b : Nat) : AC := if b = 0 then L.b0 else L.b1
section
variable {h : Nat} {L : FmL} {s : Soc} {z : FmS}
theorem fmC_has {b : Nat} (hb : b < 2) : (fmC h L s z)[11 + b * 2]? = some (.int .i64 (hasB' z b)) := by
 obtain rfl | rfl : b = 0 ∨ b = 1 := by omega
 ·rfl
 ·rfl
theorem fmC_box {b : Nat} (hb : b < 2) : (fmC h L s z)[12 + b * 2]? = some (.slice (bxA L b).1 (boxW z b).length (bxA L b).2) := by
 obtain rfl | rfl : b = 0 ∨ b = 1 := by omega
 ·rfl
 ·rfl
theorem FirmR.box {w : World} {f : Nat} (k : FirmR w f h L s z) {b : Nat} (hb : b < 2) : SlS (all w) 1 (bxA L b).1 (boxW z b).length (u32Cells (boxW z b)) := by
 obtain rfl | rfl : b = 0 ∨ b = 1 := by omega
 ·exact k.b0
 ·exact k.b1
theorem FirmR.stR {w : World} {f : Nat} (k : FirmR w f h L s z) : StR (all w) z.x z.y (.agg #[.slice L.x1.1 z.x.d.length L.x1.2, .slice L.x2.1 z.x.c.length L.x2.2, .slice L.x3.1 z.x.l.length L.x3.2, .slice L.y1.1 z.y.d.length L.y1.2, .slice L.y2.1 z.y.c.length L.y2.2, .slice L.y3.1 z.y.l.length L.y3.2]) :=
 ⟨_, _, _, _, _, _, _, _, _, _, _, _, rfl, k.st.1, k.st.2.1, k.st.2.2.1, k.st.2.2.2.1, k.st.2.2.2.2.1, k.st.2.2.2.2.2⟩
end
structure FmOk (s : Soc) (z : FmS) : Prop where
 la : z.last = 0 ∨ z.last = 1
 u0 : U32s z.w0
 u1 : U32s z.w1
 n0 : z.w0.length ≤ 1000000
 n1 : z.w1.length ≤ 1000000
 sx : z.x.sm
 sy : z.y.sm
theorem FmOk.box {s : Soc} {z : FmS} (h : FmOk s z) (b : Nat) : U32s (boxW z b) ∧ (boxW z b).length ≤ 1000000 := by
 unfold boxW
 split
 ·exact ⟨h.u0, h.n0⟩
 ·exact ⟨h.u1, h.n1⟩
def decZ (s : Soc) (x : HwS) (z : FmS) (a : Nat) : Int × Int × Int := decF s z.x z.y (waitL s x) a (boxW z a)
def takeA (s : Soc) (x : HwS) (z : FmS) (a : Nat) : FmS × Bool :=
 let d := decZ s x z a
 if d.2.1 = 0 then (replyF s x { z with last := a } a d.1, false)
 else ({ z with last := a, x := doneX z.x a d.2.1 d.2.2, y := doneY z.y a d.2.1 d.2.2, at_ := a, kind := d.2.1, id := d.2.2 }, true)
def takeF (s : Soc) (x : HwS) (z : FmS) : FmS × Bool := match nextF z with
 | none => (z, false)
 | some a => takeA s x z a
theorem fmTake_some (f : Nat) (hL : HL) (s : Soc) (z : FmS) (x : HwS) (hH : s.okH) (hLo : HLOk hL s) (hok : HwOk s x) (hz : FmOk s z) (l a : Nat) (hl : z.last = (l : Int)) (hl1 : l ≤ 1) (ha : a < 2) (hab : (hasB' z (1 - l) = 1 ∧ a = 1 - l) ∨ (hasB' z (1 - l) ≠ 1 ∧ a = l)) (h1 : hasB' z a = 1)
  (hst : (decZ s x z a).2.1 = 0 → (decZ s x z a).1 = 0 → ReplyOk (boxW z a)) (w : World) (F : Nat → Prop) (hp : (MachH f hL s z x).sat F w) (hF : ∀ b, F b → b < w.heap.size) :
  Calls Tryz.prog 74 #[.pointer (some ⟨f, 0, none⟩)] w (fun y w' => y = .returned (.bool (takeA s x z a).2) ∧ ∃ F', (MachH f hL s (takeA s x z a).1 x).sat F' w' ∧ Turns w w' F F') := by
 have hnv := hH.t.nv
 unfold takeA
 generalize hdz : decZ s x z a = dz at hst ⊢
 obtain ⟨st, k, id⟩ := dz
 dsimp only at hst ⊢
 obtain ⟨hbu, hbn⟩ := hz.box a
 refine XK.enterM (p := MachH f hL s z x) (F := F) (vs := [.pointer (some ⟨f, 0, none⟩)]) Tryz.func74 rfl Tryz.ntmps74 (by simp) hp hF ?_
 refine XK.take 0 0 rfl rfl ?_
 dsimp only [List.set]
 refine XK.openEx 0 rfl fun L => ?_
 dsimp only [List.set]
 have hc15 : (fmC hL.h L s z)[15]? = some (.int .i64 (l : Int)) := by rw [← hl]; rfl
 refine XK.seq ?_
 refine XK.region ?_
 refine kdo ?_
 refine XK.nilN ?_
 refine XK.seq ?_
 refine XK.region ?_
 refine kdo ?_
 refine kdo ?_
 refine kdo ?_
 refine kd (does_ld1 rfl (Rd.firm 0 rfl hc15)) ?_
 refine kd (does_sub rfl rfl (c := ((1 - l : Nat) : Int)) (by rw [show (1 : Int) - (l : Int) = ((1 - l : Nat) : Int) by omega]; exact wrap_in (by omega))) ?_
 refine kdo ?_
 refine XK.nilN ?_
 refine XK.cut (fun e R H => e = [(3, .int .i64 (a : Int)), (0, .pointer (some ⟨f, 0, none⟩))] ∧ R = [⟨w, fun b => b < w.heap.size ∧ ¬ F b⟩] ∧ H = [FirmH f hL.h L s z, HP.many [HP.emp, HardH hL s x]]) ?_ ?_
 ·refine XK.seq ?_
  refine XK.region ?_
  refine kdo ?_
  refine kdo ?_
  refine kdo ?_
  refine kdo ?_
  refine kd (datA (1 - l) (11 + (1 - l) * 2)) ?_
  refine kdo ?_
  refine kd (does_ld1 rfl (Rd.firm 0 rfl (fmC_has (by omega)))) ?_
  refine kdo ?_
  refine XK.nilN ?_
  rcases hab with ⟨h2, rfl⟩ | ⟨h2, rfl⟩
  ·refine XK.if_ rfl (fun h => absurd h2 h) (fun _ => ?_)
   refine XK.skip ?_
   refine XK.norm ?_
   exact XK.envS [(3, .int .i64 ((1 - l : Nat) : Int)), (0, .pointer (some ⟨f, 0, none⟩))] (XK.meet ⟨rfl, rfl, rfl⟩)
  ·refine XK.if_ rfl (fun _ => ?_) (fun h => absurd h2 h)
   refine XK.region ?_
   refine kdo ?_
   refine kdo ?_
   refine kdo ?_
   refine kd (does_ld1 rfl (Rd.firm 0 rfl hc15)) ?_
   refine kdo ?_
   refine XK.nilN ?_
   exact XK.envS [(3, .int .i64 (a : Int)), (0, .pointer (some ⟨f, 0, none⟩))] (XK.meet ⟨rfl, rfl, rfl⟩)
 rintro _ _ _ ⟨rfl, rfl, rfl⟩
 refine XK.go ?_
 refine kd (datA a (11 + a * 2)) ?_
 refine XK.go ?_
 refine kd (does_ld1 rfl (Rd.firm 0 rfl (fmC_has ha))) ?_
 refine XK.go ?_
 refine XK.if_ rfl (fun h => absurd h1 h) (fun _ => ?_)
 refine XK.go ?_
 refine XK.take 0 0 rfl rfl ?_
 dsimp only [List.set]
 refine kst rfl rfl ?_ (hs := StoreAt.mk 0 rfl OneT.h rfl (by simp [fmC]))
 dsimp only [List.set]
 rw [show (fmC hL.h L s z).set (0 + 15) (.int .i64 (a : Int)) = fmC hL.h L s { z with last := (a : Int) } from rfl]
 refine XK.give 0 0 rfl rfl ?_
 dsimp only [List.set]
 change XK _ _ _ _ _ [FirmH f hL.h L s { z with last := (a : Int) }, HP.many [HP.emp, HardH hL s x]]
 generalize hz1 : ({ z with last := (a : Int) } : FmS) = z1
 have e1 : z1.x = z.x := by rw [← hz1]
 have e2 : z1.y = z.y := by rw [← hz1]
 have e3 : boxW z1 a = boxW z a := by rw [← hz1]; rfl
 refine XK.go ?_
 refine kd (does_ld1 rfl (Rd.firm 0 rfl rfl)) ?_
 refine XK.go ?_
 refine xk_makeT (n := s.devs.length) 8 (el := 3) (z := .int .i64 0) (by kernel_rfl) (by kernel_rfl) rfl rfl rfl (by omega) (by omega) (by decide) fun gm => ?_
 refine XK.go ?_
 refine XK.take 2 1 rfl rfl ?_
 dsimp only [List.set]
 rw [show List.replicate s.devs.length (Value.int .i64 0) = intCells (midN (waitL s x) ((waitL s x).map fun _ => 0) 0) by
  rw [midN_zero]
  refine List.ext_getElem? fun j => ?_
  simp only [intCells, waitL, List.map_map, List.getElem?_replicate, List.getElem?_map]
  by_cases h : j < s.devs.length
  ·rw [if_pos h, List.getElem?_range h]; rfl
  ·rw [if_neg h, List.getElem?_eq_none (by simp; omega)]; rfl]
 refine XK.envS [(46, .int .i64 0), (45, .int .i64 s.devs.length), (4, .slice (some ⟨gm, 0, none⟩) s.devs.length s.devs.length), (3, .int .i64 (a : Int)), (0, .pointer (some ⟨f, 0, none⟩))] ?_
 have hwl : (waitL s x).length = s.devs.length := by simp [waitL]
 refine XK.loop (fun m e R H => ∃ i : Nat, i ≤ s.devs.length ∧ m = s.devs.length - i ∧ e = [(46, .int .i64 i), (45, .int .i64 s.devs.length), (4, .slice (some ⟨gm, 0, none⟩) s.devs.length s.devs.length), (3, .int .i64 (a : Int)), (0, .pointer (some ⟨f, 0, none⟩))] ∧ R = [⟨w, fun b => b < w.heap.size ∧ ¬ F b⟩] ∧ H = [HardH hL s x, HP.blk gm 3 (intCells (midN (waitL s x) ((waitL s x).map fun _ => 0) i)), FirmH f hL.h L s z1, HP.many [HP.emp, HP.emp]]) s.devs.length ⟨0, by omega, rfl, rfl, rfl, rfl⟩ fun m e R H hI => ?_
 obtain ⟨i, hi, rfl, rfl, rfl, rfl⟩ := hI
 have hml2 := midN_len (vs := waitL s x) (old := (waitL s x).map fun _ => 0) (n := s.devs.length) hwl (by simp [waitL]) hi
 have hcl : (intCells (midN (waitL s x) ((waitL s x).map fun _ => 0) i)).length = s.devs.length := by simp [intCells, hml2]
 refine XK.go ?_
 refine XK.if_ rfl (fun hlt => ?_) (fun hge => ?_)
 ·have hlt : i < s.devs.length := by omega
  have hwi : (waitL s x)[i]? = some (wtN x.wt i : Int) := by simp [waitL, hlt]
  have hset : (intCells (midN (waitL s x) ((waitL s x).map fun _ => 0) i)).set i (.int .i64 (wtN x.wt i : Nat)) = intCells (midN (waitL s x) ((waitL s x).map fun _ => 0) (i + 1)) := by
   rw [← midN_set (by simp) hwi, intCells, intCells, List.map_set]
  refine XK.go ?_
  refine kd (does_ld1 rfl (Rd.firm 2 rfl rfl)) ?_
  refine XK.go ?_
  refine kcall (fun w1 t => hdWaiting_any hL s x w1 i hlt (t.hardR 0 rfl hLo hok)) ?_
  refine XK.go ?_
  refine kd (dat i i) ?_
  refine kst rfl rfl ?_
  dsimp only [List.set]
  rw [hset]
  refine XK.go ?_
  refine XK.envS [(46, .int .i64 (i + 1 : Nat)), (45, .int .i64 s.devs.length), (4, .slice (some ⟨gm, 0, none⟩) s.devs.length s.devs.length), (3, .int .i64 (a : Int)), (0, .pointer (some ⟨f, 0, none⟩))] ?_
  exact XK.round (s.devs.length - (i + 1)) (by omega) ⟨i + 1, hlt, rfl, rfl, rfl, rfl⟩
 obtain rfl : i = s.devs.length := by omega
 rw [midN_all hwl (by simp [waitL])]
 refine XK.give 2 1 rfl rfl ?_
 dsimp only [List.set]
 refine XK.go ?_
 refine XK.cutT (fun e R H => ∃ g7 : Nat, e = [(7, .pointer (some ⟨g7, 0, none⟩)), (6, .int .i32 st), (3, .int .i64 (a : Int)), (0, .pointer (some ⟨f, 0, none⟩))] ∧ R = [⟨w, fun b => b < w.heap.size ∧ ¬ F b⟩] ∧ H = [HP.blk g7 63 [.int .u8 k, .int .i64 id], FirmH f hL.h L s z1, HP.many [HP.emp, HardH hL s x]]) ?_ ?_
 ·refine XK.drawB [1, 2, 3, 5, 6, 7, 12, 13, 14, 15, 16, 19, 20] ?_
  refine XB.mv 0 ?_
  refine XB.mv 4 ?_
  refine XB.mv 8 ?_
  refine XB.mv 9 ?_
  refine XB.mv 10 ?_
  refine XB.mv 11 ?_
  refine XB.q 1 ?_
  refine XB.q 2 ?_
  refine XB.q 3 ?_ (hdo := does_ldA rfl (RdN.firm 1 rfl (vs := [.slice L.a1.1 s.clocks.length L.a1.2, .slice L.a2.1 s.domains.length L.a2.2, .slice L.a3.1 s.resets.length L.a3.2, .slice L.a4.1 s.devs.length L.a4.2]) rfl))
  refine XB.q 5 ?_
  refine XB.q 6 ?_
  refine XB.q 7 ?_ (hdo := does_ldA rfl (RdN.firm 1 rfl (vs := [.slice L.x1.1 z1.x.d.length L.x1.2, .slice L.x2.1 z1.x.c.length L.x2.2, .slice L.x3.1 z1.x.l.length L.x3.2, .slice L.y1.1 z1.y.d.length L.y1.2, .slice L.y2.1 z1.y.c.length L.y2.2, .slice L.y3.1 z1.y.l.length L.y3.2]) rfl))
  refine XB.q 12 ?_
  refine XB.q 13 ?_
  refine XB.q 14 ?_ (hdo := datA (sz := 2) a (11 + a * 2))
  refine XB.q 15 ?_
  refine XB.q 16 ?_ (hdo := does_ld1 rfl (Rd.firm 1 rfl (v := .slice (bxA L a).1 (boxW z1 a).length (bxA L a).2) (by rw [show 11 + a * 2 + 1 = 12 + a * 2 by omega]; exact fmC_box ha)))
  have hcall : ∀ H : List HP, H[H.length - 2]? = some (FirmH f hL.h L s z1) → (H.length = 3 ∨ H.length = 4) → H[H.length - 3]? = some (HP.blk gm 3 (intCells (waitL s x))) → ∀ w1, St w [⟨w, fun b => b < w.heap.size ∧ ¬ F b⟩] H w1 → Calls Tryz.prog 32 #[.agg #[.slice L.a1.1 s.clocks.length L.a1.2, .slice L.a2.1 s.domains.length L.a2.2, .slice L.a3.1 s.resets.length L.a3.2, .slice L.a4.1 s.devs.length L.a4.2], .agg #[.slice L.x1.1 z1.x.d.length L.x1.2, .slice L.x2.1 z1.x.c.length L.x2.2, .slice L.x3.1 z1.x.l.length L.x3.2, .slice L.y1.1 z1.y.d.length L.y1.2, .slice L.y2.1 z1.y.c.length L.y2.2, .slice L.y3.1 z1.y.l.length L.y3.2], .slice (some ⟨gm, 0, none⟩) s.devs.length s.devs.length, .int .i64 (a : Int), .slice (bxA L a).1 (boxW z1 a).length (bxA L a).2] w1 (Rt (actV (st, k, id)) w1) := fun H h2 _ h3 w1 t => by
   have kf := t.firmR _ h2
   have := decide_any (all w1) (all w1) s _ _ _ _ _ L.a1.2 _ L.a2.2 _ L.a3.2 _ L.a4.2 _ _ _ _ _ _ _ L.x1.2 _ L.x2.2 _ L.x3.2 _ L.y1.2 _ L.y2.2 _ L.y3.2 z1.x z1.y (some ⟨gm, 0, none⟩) s.devs.length s.devs.length (waitL s x) a _ _ (bxA L a).2 (boxW z1 a) w1 kf.so hH.t (Piece.Le.refl _) kf.stR (Piece.Le.refl _) (t.slS h3 (by simp [intCells, hwl])) hwl.symm ha (kf.box ha) rfl (by rw [e3]; exact hbn) (by rw [e3]; exact hbu)
   rw [show decF s z1.x z1.y (waitL s x) a (boxW z1 a) = (st, k, id) by rw [e1, e2, e3]; exact hdz] at this
   exact this
  refine XB.either 17 21 rfl rfl (by kernel_rfl) ?_ ?_
  ·refine kcall (fun w1 t => hcall _ rfl (.inl rfl) rfl w1 t) ?_
   refine XB.bk ?_
   refine XB.mv 18 ?_
   refine XB.q 19 ?_
   refine XB.q 20 ?_
   refine XB.next 21 rfl (by kernel_rfl) ?_
   refine xk_alloc (cs := [.int .u8 0, .int .i64 0]) (zeroB_of (by kernel_rfl)) (by decide) fun g7 => ?_
   refine XB.bk ?_
   refine XB.next 22 rfl (by kernel_rfl) ?_
   refine kdo ?_
   refine XB.bk ?_
   refine XB.next 23 rfl (by kernel_rfl) ?_
   refine kstW 0 rfl ?_
   dsimp only [List.set]
   refine XB.bt ?_
   refine XB.done (by kernel_rfl) ?_
   refine XK.norm ?_
   refine XK.weak [0, 2, 3] rfl (by decide) (fun _ h => h) ?_
   exact XK.envS [(7, .pointer (some ⟨g7, 0, none⟩)), (6, .int .i32 st), (3, .int .i64 (a : Int)), (0, .pointer (some ⟨f, 0, none⟩))] (XK.meet ⟨g7, rfl, rfl, rfl⟩)
  ·refine xk_alloc (cs := [.int .u8 0, .int .i64 0]) (zeroB_of (by kernel_rfl)) (by decide) fun g7 => ?_
   refine XB.bk ?_
   refine XB.next 17 rfl (by kernel_rfl) ?_
   refine kcall (fun w1 t => hcall _ rfl (.inr rfl) rfl w1 t) ?_
   refine XB.bk ?_
   refine XB.mv 18 ?_
   refine XB.q 19 ?_
   refine XB.q 20 ?_
   refine XB.next 22 rfl (by kernel_rfl) ?_
   refine kdo ?_
   refine XB.bk ?_
   refine XB.next 23 rfl (by kernel_rfl) ?_
   refine kstW 0 rfl ?_
   dsimp only [List.set]
   refine XB.bt ?_
   refine XB.done (by kernel_rfl) ?_
   refine XK.norm ?_
   refine XK.weak [0, 2, 3] rfl (by decide) (fun _ h => h) ?_
   exact XK.envS [(7, .pointer (some ⟨g7, 0, none⟩)), (6, .int .i32 st), (3, .int .i64 (a : Int)), (0, .pointer (some ⟨f, 0, none⟩))] (XK.meet ⟨g7, rfl, rfl, rfl⟩)
 rintro _ _ _ ⟨g7, rfl, rfl, rfl⟩
 refine XK.go ?_
 refine XK.if_ rfl (fun hk => ?_) (fun hk => ?_)
 ·have hk : k = 0 := hk
  rw [if_pos hk]
  refine XK.toEx 1 (f := fun L : FmL => FirmH f hL.h L s z1) L rfl ?_
  dsimp only [List.set]
  refine XK.weak [1, 0, 2] rfl (by decide) (fun _ h => h) ?_
  refine XK.give 1 0 rfl rfl ?_
  dsimp only [List.set]
  refine XK.go ?_
  refine kcallW 1 (MachH f hL s (replyF s x z1 a st) x) (fun w1 F1 t h1 h2 h3 => fmReply_m f hL s z1 x hH hLo hok a ha st (fun h0 => by rw [e3]; exact hst hk h0) w1 F1 h1 h2) ?_
  dsimp only [List.set]
  refine XK.go ?_
  exact XK.ret1 rfl rfl fun w1 t => ⟨rfl, t.turns hF (by simp) (i := 1) rfl⟩
 ·rw [if_neg hk]
  rw [show ({ z with last := (a : Int), x := doneX z.x a k id, y := doneY z.y a k id, at_ := (a : Int), kind := k, id := id } : FmS) = { z1 with x := doneX z1.x a k id, y := doneY z1.y a k id, at_ := (a : Int), kind := k, id := id } by rw [← hz1]]
  refine XK.go ?_
  refine XK.drawB [2, 3, 4, 6] ?_
  refine XB.mv 0 ?_
  refine XB.mv 1 ?_
  refine XB.mv 5 ?_
  refine XB.q 2 ?_
  refine XB.q 3 ?_
  refine XB.q 4 ?_ (hdo := does_ldA rfl (RdN.firm 1 rfl (vs := [.slice L.x1.1 z1.x.d.length L.x1.2, .slice L.x2.1 z1.x.c.length L.x2.2, .slice L.x3.1 z1.x.l.length L.x3.2, .slice L.y1.1 z1.y.d.length L.y1.2, .slice L.y2.1 z1.y.c.length L.y2.2, .slice L.y3.1 z1.y.l.length L.y3.2]) rfl))
  refine XB.q 6 ?_
  refine XB.next 7 rfl (by kernel_rfl) ?_
  refine xk_call [] (f := 151) (fi := []) (ca := []) (by kernel_rfl) rfl rfl (by decide) (by simp) (fun v w w' => StR (fresh w w') (doneX z1.x a k id) (doneY z1.y a k id) v) (fun w1 t => by
   have kf := t.firmR 1 rfl
   exact done_any (all w1) _ _ _ _ _ _ _ _ _ _ _ _ z1.x z1.y a k id w1 (Piece.Le.refl _) ha (by rw [e1]; exact hz.sx) (by rw [e2]; exact hz.sy) kf.st.1 kf.st.2.1 kf.st.2.2.1 kf.st.2.2.2.1 kf.st.2.2.2.2.1 kf.st.2.2.2.2.2) ?_
  rintro _ w2 q2 hst2 hq2 _ hF2
  have hF2 := hF2 (by simp)
  obtain ⟨x1, x2, x3, y1, y2, y3, rfl, hsp2⟩ := hst2.P
  have hsp2 := StP.le _ _ hq2 (hsp2 L.a1 L.a2 L.a3 L.a4 L.b0 L.b1)
  refine XK.ownP (Φ := StP ⟨L.a1, L.a2, L.a3, L.a4, x1, x2, x3, y1, y2, y3, L.b0, L.b1⟩ (doneX z1.x a k id) (doneY z1.y a k id)) (hm := StP.le) hF2 (fun p hp b hb => by simp at hp; subst hp; exact hb.1) hsp2 ?_
  refine XB.bt ?_
  refine XB.next 8 rfl (by kernel_rfl) ?_
  refine kdo ?_
  refine XB.bt ?_
  refine XB.next 9 rfl (by kernel_rfl) ?_
  refine kdo ?_
  refine XB.bt ?_
  refine XB.next 10 rfl (by kernel_rfl) ?_
  refine XK.take 2 0 rfl rfl ?_
  dsimp only [List.set]
  refine xk_storeN 0 (t := 150) rfl rfl rfl (by kernel_rfl) (by simp [Value.cells, Value.oneCell', slV]) (by simp [Value.cells, fmC]) ?_
  dsimp only [List.set]
  rw [show putN (fmC hL.h L s z1) (0 + 5) (Value.agg #[slV x1 (doneX z1.x a k id).d.length, slV x2 (doneX z1.x a k id).c.length, slV x3 (doneX z1.x a k id).l.length, slV y1 (doneY z1.y a k id).d.length, slV y2 (doneY z1.y a k id).c.length, slV y3 (doneY z1.y a k id).l.length]).cells.toList = fmC hL.h ⟨L.a1, L.a2, L.a3, L.a4, x1, x2, x3, y1, y2, y3, L.b0, L.b1⟩ s { z1 with x := doneX z1.x a k id, y := doneY z1.y a k id } from rfl]
  refine XB.bt ?_
  refine XB.done (by kernel_rfl) ?_
  refine XK.norm ?_
  refine XK.take 3 2 rfl rfl ?_
  dsimp only [List.set]
  refine XK.weak [1, 2, 3, 4, 5] rfl (by decide) (R' := [⟨w, fun b => b < w.heap.size ∧ ¬ F b⟩]) (by simp) ?_
  refine XK.weak [1, 0, 2, 3, 4] rfl (by decide) (fun _ h => h) ?_
  refine XK.give 2 2 rfl rfl ?_
  dsimp only [List.set]
  generalize hz2 : ({ z1 with x := doneX z1.x a k id, y := doneY z1.y a k id } : FmS) = z2
  rw [show ({ z1 with x := doneX z1.x a k id, y := doneY z1.y a k id, at_ := (a : Int), kind := k, id := id } : FmS) = { z2 with at_ := (a : Int), kind := k, id := id } by rw [← hz2]]
  generalize hL2 : (⟨L.a1, L.a2, L.a3, L.a4, x1, x2, x3, y1, y2, y3, L.b0, L.b1⟩ : FmL) = L2
  refine XK.seq ?_
  refine XK.cutT (fun e R H => e = [(0, .pointer (some ⟨f, 0, none⟩))] ∧ R = [⟨w, fun b => b < w.heap.size ∧ ¬ F b⟩] ∧ H = [HP.blk f 150 (fmC hL.h L2 s { z2 with at_ := (a : Int), kind := k, id := id }), HP.blk g7 63 [.int .u8 k, .int .i64 id], HP.many [HP.emp, HP.pic (SoP L s) (SoP.le (L := L) (s := s)), HP.pic (StP L2 (doneX z1.x a k id) (doneY z1.y a k id)) (StP.le (L := L2) (x := doneX z1.x a k id) (y := doneY z1.y a k id)), HP.pic (BxP L.b0 z1.w0) (BxP.le (a := L.b0) (l := z1.w0)), HP.pic (BxP L.b1 z1.w1) (BxP.le (a := L.b1) (l := z1.w1))], HP.many [HP.emp, HardH hL s x]]) ?_ ?_
  ·refine XK.drawB [] ?_
   refine XB.mv 0 ?_
   refine XB.mv 1 ?_
   refine XB.mv 2 ?_
   refine XB.either 3 4 rfl rfl (by kernel_rfl) ?_ ?_
   ·refine kdo ?_
    refine XB.bt ?_
    refine XB.next 4 rfl (by kernel_rfl) ?_
    refine kdo ?_
    refine XB.bt ?_
    refine XB.next 5 rfl (by kernel_rfl) ?_
    refine kdo ?_
    refine XB.bt ?_
    refine XB.next 6 rfl (by kernel_rfl) ?_
    refine kst rfl rfl ?_ (hs := StoreAt.mk 0 rfl OneT.h rfl (by simp [fmC]))
    dsimp only [List.set]
    rw [show (fmC hL.h L2 s z2).set (0 + 16) (.int .i64 (a : Int)) = fmC hL.h L2 s { z2 with at_ := (a : Int) } from rfl]
    refine XB.bt ?_
    refine XB.next 7 rfl (by kernel_rfl) ?_
    refine kdo ?_
    refine XB.bt ?_
    refine XB.next 8 rfl (by kernel_rfl) ?_
    refine kdo ?_
    refine XB.bt ?_
    refine XB.next 9 rfl (by kernel_rfl) ?_
    refine xk_storeN 0 (t := 150) rfl rfl rfl (by kernel_rfl) (by simp [Value.cells, Value.oneCell']) (by simp [Value.cells, fmC]) ?_
    dsimp only [List.set]
    rw [show putN (fmC hL.h L2 s { z2 with at_ := (a : Int) }) (0 + 17) (Value.agg #[.int .u8 k, .int .i64 id]).cells.toList = fmC hL.h L2 s { z2 with at_ := (a : Int), kind := k, id := id } from rfl]
    refine XB.bt ?_
    refine XB.done (by kernel_rfl) ?_
    refine XK.norm ?_
    exact XK.envS [(0, .pointer (some ⟨f, 0, none⟩))] (XK.meet ⟨rfl, rfl, rfl⟩)
   ·refine kdo ?_
    refine XB.bt ?_
    refine XB.either 3 5 rfl rfl (by kernel_rfl) ?_ ?_
    ·refine kdo ?_
     refine XB.bt ?_
     refine XB.next 5 rfl (by kernel_rfl) ?_
     refine kdo ?_
     refine XB.bt ?_
     refine XB.next 6 rfl (by kernel_rfl) ?_
     refine kst rfl rfl ?_ (hs := StoreAt.mk 0 rfl OneT.h rfl (by simp [fmC]))
     dsimp only [List.set]
     rw [show (fmC hL.h L2 s z2).set (0 + 16) (.int .i64 (a : Int)) = fmC hL.h L2 s { z2 with at_ := (a : Int) } from rfl]
     refine XB.bt ?_
     refine XB.next 7 rfl (by kernel_rfl) ?_
     refine kdo ?_
     refine XB.bt ?_
     refine XB.next 8 rfl (by kernel_rfl) ?_
     refine kdo ?_
     refine XB.bt ?_
     refine XB.next 9 rfl (by kernel_rfl) ?_
     refine xk_storeN 0 (t := 150) rfl rfl rfl (by kernel_rfl) (by simp [Value.cells, Value.oneCell']) (by simp [Value.cells, fmC]) ?_
     dsimp only [List.set]
     rw [show putN (fmC hL.h L2 s { z2 with at_ := (a : Int) }) (0 + 17) (Value.agg #[.int .u8 k, .int .i64 id]).cells.toList = fmC hL.h L2 s { z2 with at_ := (a : Int), kind := k, id := id } from rfl]
     refine XB.bt ?_
     refine XB.done (by kernel_rfl) ?_
     refine XK.norm ?_
     exact XK.envS [(0, .pointer (some ⟨f, 0, none⟩))] (XK.meet ⟨rfl, rfl, rfl⟩)
    ·refine kdo ?_
     refine XB.bt ?_
     refine XB.either 3 6 rfl rfl (by kernel_rfl) ?_ ?_
     ·refine kdo ?_
      refine XB.bt ?_
      refine XB.next 6 rfl (by kernel_rfl) ?_
      refine kst rfl rfl ?_ (hs := StoreAt.mk 0 rfl OneT.h rfl (by simp [fmC]))
      dsimp only [List.set]
      rw [show (fmC hL.h L2 s z2).set (0 + 16) (.int .i64 (a : Int)) = fmC hL.h L2 s { z2 with at_ := (a : Int) } from rfl]
      refine XB.bt ?_
      refine XB.next 7 rfl (by kernel_rfl) ?_
      refine kdo ?_
      refine XB.bt ?_
      refine XB.next 8 rfl (by kernel_rfl) ?_
      refine kdo ?_
      refine XB.bt ?_
      refine XB.next 9 rfl (by kernel_rfl) ?_
      refine xk_storeN 0 (t := 150) rfl rfl rfl (by kernel_rfl) (by simp [Value.cells, Value.oneCell']) (by simp [Value.cells, fmC]) ?_
      dsimp only [List.set]
      rw [show putN (fmC hL.h L2 s { z2 with at_ := (a : Int) }) (0 + 17) (Value.agg #[.int .u8 k, .int .i64 id]).cells.toList = fmC hL.h L2 s { z2 with at_ := (a : Int), kind := k, id := id } from rfl]
      refine XB.bt ?_
      refine XB.done (by kernel_rfl) ?_
      refine XK.norm ?_
      exact XK.envS [(0, .pointer (some ⟨f, 0, none⟩))] (XK.meet ⟨rfl, rfl, rfl⟩)
     ·refine kst rfl rfl ?_ (hs := StoreAt.mk 0 rfl OneT.h rfl (by simp [fmC]))
      dsimp only [List.set]
      rw [show (fmC hL.h L2 s z2).set (0 + 16) (.int .i64 (a : Int)) = fmC hL.h L2 s { z2 with at_ := (a : Int) } from rfl]
      refine XB.bt ?_
      refine XB.next 3 rfl (by kernel_rfl) ?_
      refine kdo ?_
      refine XB.bt ?_
      refine XB.next 7 rfl (by kernel_rfl) ?_
      refine kdo ?_
      refine XB.bt ?_
      refine XB.next 8 rfl (by kernel_rfl) ?_
      refine kdo ?_
      refine XB.bt ?_
      refine XB.next 9 rfl (by kernel_rfl) ?_
      refine xk_storeN 0 (t := 150) rfl rfl rfl (by kernel_rfl) (by simp [Value.cells, Value.oneCell']) (by simp [Value.cells, fmC]) ?_
      dsimp only [List.set]
      rw [show putN (fmC hL.h L2 s { z2 with at_ := (a : Int) }) (0 + 17) (Value.agg #[.int .u8 k, .int .i64 id]).cells.toList = fmC hL.h L2 s { z2 with at_ := (a : Int), kind := k, id := id } from rfl]
      refine XB.bt ?_
      refine XB.done (by kernel_rfl) ?_
      refine XK.norm ?_
      exact XK.envS [(0, .pointer (some ⟨f, 0, none⟩))] (XK.meet ⟨rfl, rfl, rfl⟩)
  rintro _ _ _ ⟨rfl, rfl, rfl⟩
  refine XK.give 1 0 rfl rfl ?_
  dsimp only [List.set]
  subst hL2
  subst hz2
  refine XK.toEx 1 (f := fun L : FmL => FirmH f hL.h L s { ({ z1 with x := doneX z1.x a k id, y := doneY z1.y a k id } : FmS) with at_ := (a : Int), kind := k, id := id }) ⟨L.a1, L.a2, L.a3, L.a4, x1, x2, x3, y1, y2, y3, L.b0, L.b1⟩ rfl ?_
  dsimp only [List.set]
  refine XK.weak [1, 0, 2] rfl (by decide) (fun _ h => h) ?_
  refine XK.give 1 0 rfl rfl ?_
  dsimp only [List.set]
  refine XK.go ?_
  exact XK.ret1 rfl rfl fun w1 t => ⟨rfl, t.turns hF (by simp) (i := 1) rfl⟩
theorem fmTake_m (f : Nat) (hL : HL) (s : Soc) (z : FmS) (x : HwS) (hH : s.okH) (hLo : HLOk hL s) (hok : HwOk s x) (hz : FmOk s z) (hst : ∀ a, nextF z = some a → (decZ s x z a).2.1 = 0 → (decZ s x z a).1 = 0 → ReplyOk (boxW z a)) (w : World) (F : Nat → Prop) (hp : (MachH f hL s z x).sat F w) (hF : ∀ b, F b → b < w.heap.size) :
  Calls Tryz.prog 74 #[.pointer (some ⟨f, 0, none⟩)] w (fun y w' => y = .returned (.bool (takeF s x z).2) ∧ ∃ F', (MachH f hL s (takeF s x z).1 x).sat F' w' ∧ Turns w w' F F') := by
 unfold takeF
 cases hn : nextF z with
 | none => exact fmTake_none f hL s z x hz.la hn w F hp hF
 | some a =>
  obtain ⟨l, hl, hl1⟩ : ∃ l : Nat, z.last = (l : Int) ∧ l ≤ 1 := by
   rcases hz.la with h | h
   ·exact ⟨0, h, by omega⟩
   ·exact ⟨1, h, by omega⟩
  have hn2 := hn
  unfold nextF at hn
  rw [show (1 - z.last).toNat = 1 - l by omega, show z.last.toNat = l by omega] at hn
  by_cases h2 : hasB' z (1 - l) = 1
  ·rw [if_pos h2] at hn
   obtain rfl := Option.some.inj hn
   exact fmTake_some f hL s z x hH hLo hok hz l _ hl hl1 (by omega) (.inl ⟨h2, rfl⟩) h2 (hst _ hn2) w F hp hF
  ·rw [if_neg h2] at hn
   by_cases h3 : hasB' z l = 1
   ·rw [if_pos h3] at hn
    obtain rfl := Option.some.inj hn
    exact fmTake_some f hL s z x hH hLo hok hz l _ hl hl1 (by omega) (.inr ⟨h2, rfl⟩) h3 (hst _ hn2) w F hp hF
   ·rw [if_neg h3] at hn
    cases hn
end
section
set_option maxHeartbeats 4000000
set_option maxRecDepth 20000
section
variable {P : Program} {N : Frm} {w0 w : World} {K : Act → World → Prop} {e : Env} {R : List Piece} {H H' : List HP}
theorem XK.enterDM {nn : Nat} {F : Nat → Prop} {p : HP} {f : FuncId} {fn : Func} {c : Code} {vs : List Value} {Post : Ending → World → Prop} (hf : P.funcs[f]? = some fn) (hb : fn.body = some c) (hN : fn.ntmps = nn) (hl : vs.length ≤ nn) (hp : p.sat F w) (hF : ∀ b, F b → b < w.heap.size)
  (h : XK ⟨nn, []⟩ w (c.wp P (bodyPostD P fn Post)) (argEnv 0 vs) [⟨w, fun b => b < w.heap.size ∧ ¬ F b⟩] [p]) : Calls P f vs.toArray w Post := by
 refine calls_of_wp_defers hf hb (h _ _ ⟨?_, rfl, fun t v hv => ?_⟩ (St.startM hp hF))
 ·simp; omega
 ·obtain ⟨_, h2⟩ := argEnv_get vs 0 t v hv
  rw [Nat.sub_zero] at h2
  have hlt : t < vs.length := by
   rcases Nat.lt_or_ge t vs.length with h | h
   ·exact h
   ·rw [List.getElem?_eq_none h] at h2; cases h2
  rw [Array.getElem?_append_left (by simpa using hlt)]
  simpa using h2
theorem XK.leave0 {nn : Nat} {f : FuncId} {fi ca : List Value} {fn : Func} {Post : Ending → World → Prop} {x : Exit} (hx : x = .ret ∨ x = .normal) (hf : callB P f = true)
  (hcl : ∀ w, CallsD P f (fi ++ ca).toArray .returning w fun y u' w' => y = .returned (.tuple #[]) ∧ u' = .returning ∧ w' = w) (hr : fn.results = #[])
  (h : ∀ w, St w0 R H w → Post (.returned (.tuple #[])) w) : XK ⟨nn, [dfd f fi ca]⟩ w0 (bodyPostD P fn Post x) e R H := by
 have key : XK ⟨nn, [dfd f fi ca]⟩ w0 (bodyPostD P fn Post .ret) e R H := XK.leaveR (H' := H) hf (fun w1 st => (hcl w1).mono fun y u' w' h => by
  obtain ⟨h1, h2, rfl⟩ := h
  exact ⟨⟨_, h1⟩, h2, st⟩) fun a w1 _ st => ⟨.tuple #[], results_none hr _ _ _, h w1 st⟩
 rcases hx with rfl | rfl
 ·exact key
 ·exact key
end
theorem fmRec_idle (w : World) : CallsD Tryz.prog 73 #[] .returning w fun e u' w' => e = .returned (.tuple #[]) ∧ u' = .returning ∧ w' = w := by
 refine callsD_of_wpS Tryz.func73 rfl fun c₀ cs hu => ?_
 apply wpS_region
 simp [wpOpsS, go_sem, recoverD, hu, Tryz.ntmps73, Exit.thenS]
 cases c₀
 simp_all [bodyPostS, results, Tryz.results73]
section
variable {N : Frm} {w0 w : World} {e : Env} {R : List Piece} {H : List HP} {K : Act → World → Prop} {f : Nat} {hL : HL} {s : Soc} {z : FmS} {x : HwS}
theorem Rd.mach (i : Nat) {o : Nat} {v : Value} (hi : H[i]? = some (MachH f hL s z x)) (hv : ∀ L, (fmC hL.h L s z)[o]? = some v) : Rd w0 R H f o v := fun w t => by
 obtain ⟨F, ⟨G, g1, g2, _⟩, h2, _⟩ := t.chunk hi
 obtain ⟨L, hL'⟩ := g1 0 _ rfl
 have := ((FirmH.reads hL' fun b hb => h2 b (g2 0 b hb)).r0.at_ (hv L)).2
 rwa [Nat.zero_add] at this
end
theorem fmStep_ask (f : Nat) (hL : HL) (s : Soc) (z : FmS) (x : HwS) (hH : s.okH) (hLo : HLOk hL s) (hok : HwOk s x) (hz : FmOk s z) (hst : ∀ a, nextF z = some a → (decZ s x z a).2.1 = 0 → (decZ s x z a).1 = 0 → ReplyOk (boxW z a)) (hat : z.at_ < 0) (hno : (takeF s x z).2 = false) (w : World) (F : Nat → Prop) (hp : (MachH f hL s z x).sat F w) (hF : ∀ b, F b → b < w.heap.size) :
  Calls Tryz.prog 20 #[.pointer (some ⟨f, 0, none⟩)] w (fun y w' => y = .returned (.tuple #[]) ∧ ∃ F', (MachH f hL s (takeF s x z).1 x).sat F' w' ∧ Turns w w' F F') := by
 refine XK.enterDM (vs := [.pointer (some ⟨f, 0, none⟩)]) (p := MachH f hL s z x) Tryz.func20 rfl Tryz.ntmps20 (by simp) hp hF ?_
 refine XK.go ?_
 refine xk_defer (f := 73) (fi := []) (ca := []) rfl ?_
 refine XK.go ?_
 refine kd (does_ld1 rfl (Rd.mach 0 rfl fun _ => rfl)) ?_
 refine XK.go ?_
 refine xk_split (t := 8) rfl (fun _ => ?_) (fun h => absurd hat h)
 refine XK.go ?_
 refine kcallW 0 (MachH f hL s (takeF s x z).1 x) (fun w1 F1 t h1 h2 h3 => fmTake_m f hL s z x hH hLo hok hz hst w1 F1 h1 h2) ?_
 dsimp only [List.set]
 rw [hno]
 refine XK.go ?_
 exact XK.leave0 (.inl rfl) (by kernel_rfl) fmRec_idle rfl fun w1 t => ⟨rfl, t.turns hF (by simp) (i := 0) rfl⟩
end
section
theorem or32_bd (a b : Int) : 0 ≤ or32 a b ∧ or32 a b < 4294967296 := u32_bd _
theorem putW_bd (w low many v : Int) : 0 ≤ (putW w low many v).1 ∧ (putW w low many v).1 < 4294967296 := by
 unfold putW
 split
 ·exact ⟨by decide, by decide⟩
 ·split
  ·exact ⟨by decide, by decide⟩
  ·unfold putZ
   split
   ·exact ⟨by decide, by decide⟩
   ·exact or32_bd _ _
theorem pack_bd (m t p k : Int) : 0 ≤ (packZ m t p k).1 ∧ (packZ m t p k).1 < 4294967296 := by
 unfold packZ
 split
 ·exact ⟨by dsimp only; decide, by dsimp only; decide⟩
 ·split
  ·exact ⟨by dsimp only; decide, by dsimp only; decide⟩
  ·split
   ·exact ⟨by dsimp only; decide, by dsimp only; decide⟩
   ·split
    ·exact ⟨by dsimp only; decide, by dsimp only; decide⟩
    ·exact putW_bd _ _ _ _
theorem U32s.snoc {l : List Int} {x : Int} (h : U32s l) (hx : 0 ≤ x ∧ x < 4294967296) : U32s (l ++ [x]) := by
 intro y hy
 rcases List.mem_append.1 hy with hy | hy
 ·exact h y hy
 ·simp at hy; subst hy; exact hx
theorem U32s.set {l : List Int} {x : Int} {i : Nat} (h : U32s l) (hx : 0 ≤ x ∧ x < 4294967296) : U32s (l.set i x) := by
 intro y hy
 rcases List.mem_or_eq_of_mem_set hy with hy | hy
 ·exact h y hy
 ·subst hy; exact hx
theorem U32s.take {l : List Int} {n : Nat} (h : U32s l) : U32s (l.take n) := fun y hy => h y (List.mem_of_mem_take hy)
end
section
theorem hw0_ok {s : Soc} (h : s.okH) : HwOk s (hw0 s) := by
 refine ⟨⟨by simp [hw0], fun x hx => ?_⟩, ⟨by simp [hw0], fun x hx => ?_, fun x hx => ?_⟩, ⟨by simp [hw0], fun x hx => ?_⟩, by simp [hw0], fun i d p hd hp => ?_, by simp [hw0]⟩
 ·obtain ⟨c, hc, rfl⟩ := List.mem_map.1 hx
  obtain ⟨i, hi⟩ := List.getElem?_of_mem hc
  have := (h.t.clocks i c hi).2
  unfold ck0
  dsimp only
  split
  ·omega
  ·omega
 ·obtain ⟨c, hc, rfl⟩ := List.mem_map.1 hx
  simp [dm0]
 ·obtain ⟨c, hc, rfl⟩ := List.mem_map.1 hx
  simp [dm0]
 ·obtain ⟨c, hc, rfl⟩ := List.mem_map.1 hx
  simp [ln0]
 ·simp only [hw0, List.getElem?_map, hd, Option.map_some] at hp
  cases hp
  have hf := h.t.devs i d hd
  refine ⟨⟨by simp [fl0], by simp [fl0], fun v hv => ?_, fun v hv => ?_⟩, by simp [QtOk, qt0]⟩
  ·obtain ⟨r, hr, rfl⟩ := List.mem_map.1 hv
   have := hf.2.2.2.2.2.2.2.2.2.1 r hr
   omega
  ·simp only [fl0, List.mem_map] at hv
   obtain ⟨r, _, rfl⟩ := hv
   omega
theorem zero_sm {s : Soc} (h : s.okT) : (zeroW s).sm := by
 have h1 := h.nc
 have h2 := h.nd
 have h3 := h.nr
 exact ⟨by simp [zeroW]; omega, by simp [zeroW]; omega, by simp [zeroW]; omega⟩
def socE : Soc := ⟨[], [], [], []⟩
theorem socE_small : socE.small := ⟨by decide, by decide, by decide, by decide, (fun c hc => by cases hc), (fun c hc => by cases hc)⟩
theorem socE_okT : socE.okT := ⟨fun _ _ h => by simp [socE] at h, fun _ _ h => by simp [socE] at h, by decide, by decide, by decide, by decide, by rfl, socE_small⟩
theorem socE_okH : socE.okH := ⟨socE_okT, fun _ _ h => by simp [socE] at h, by simp [socE]⟩
theorem socE_W (w : World) : SocW w socE none 0 none 0 none 0 none 0 :=
 ⟨⟨[], trivial, rfl, SlS.nil _ _⟩, ⟨[], trivial, rfl, SlS.nil _ _⟩, ⟨[], trivial, rfl, SlS.nil _ _⟩, ⟨[], trivial, rfl, SlS.nil _ _⟩, socE_small⟩
end
section
def hB (o : Option Nat) : Int := if o.isSome then 1 else 0
def msgE : List Int := [(packZ 0 0 16 5).1]
def zE : FmS := { fm0 socE with h0 := 1, w0 := msgE }
theorem msgE_ok : (packZ 0 0 16 5).2 = 0 ∧ getZ (packZ 0 0 16 5).1 28 4 = 0 ∧ getZ (packZ 0 0 16 5).1 10 8 = 16 ∧ getZ (packZ 0 0 16 5).1 0 8 = 0 ∧ 0 ≤ (packZ 0 0 16 5).1 ∧ (packZ 0 0 16 5).1 < 4294967296 := by decide +kernel
theorem zE_send : (sendF (fm0 socE) 0 msgE) = (0, zE) := by simp [sendF, fm0, inB, zE]
theorem zE_next : nextF zE = some 0 := rfl
theorem zE_ok : FmOk socE zE := ⟨.inr rfl, fun x hx => by simp [zE, msgE] at hx; subst hx; exact msgE_ok.2.2.2.2, fun x hx => by simp [zE, fm0] at hx, by simp [zE, msgE], by simp [zE, fm0], zero_sm socE_okT, zero_sm socE_okT⟩
theorem zE_dec (x : HwS) : decZ socE x zE 0 = (0, 0, 0) := by
 have h : readF socE msgE = (0, 0, 0) := by decide +kernel
 unfold decZ decF
 rw [show boxW zE 0 = msgE from rfl, h]
 rfl
theorem zE_take (x : HwS) : takeF socE x zE = ({ zE with last := 0, h0 := 2, w0 := [(packZ 0 0 16 5).1, 0, 131072] }, false) := by
 unfold takeF
 rw [zE_next]
 dsimp only
 unfold takeA
 dsimp only
 rw [zE_dec]
 have hm : moreF socE x msgE = [131072] := by
  unfold moreF
  dsimp only
  rw [if_pos (show getZ (msgE.headD 0) 0 8 = 0 from msgE_ok.2.2.2.1)]
 have hw : IntKind.u32.wrap 0 = 0 := by decide +kernel
 simp [replyF, putBox, answF, boxW, zE, hm, hw]
 rfl
theorem zE_reply : ReplyOk (boxW zE 0) := ⟨⟨_, _, rfl, msgE_ok.2.1, fun h => by
 obtain ⟨_, _, h3, h4, _⟩ := msgE_ok
 rw [h3, h4] at h
 omega⟩⟩
end
section
section
variable {P : Program} {N : Frm} {w0 : World} {e : Env} {R : List Piece} {H : List HP} {Q : Exit → Act → World → Prop} {ops : Array Oper} {rest : List Oper}
variable {d : Nat} {ty : TypeId} {pos : String} {aft : Array Edge}
theorem xk_callMV {α : Type} (i : Nat) {f : FuncId} {x : Operand} {args : List Operand} {fi ca vs : List Value} {tys : Array TypeId} {p : HP} (v : α → Value) (q : α → HP) (G : α → Prop) (hf : callB P f = true) (hx : e.ev x = some (.func (.func f) fi.toArray ca.toArray)) (ha : e.evs args = some vs) (hi : H[i]? = some p) (hd : d < N.n)
  (hc : ∀ w F, St w0 R H w → p.sat F w → (∀ b, F b → b < w.heap.size) → (∀ q ∈ R, q.Le ⟨w, fun b => b < w.heap.size ∧ ¬ F b⟩) → Calls P f (fi ++ vs ++ ca).toArray w fun y w' => ∃ a, y = .returned (v a) ∧ G a ∧ ∃ F', (q a).sat F' w' ∧ Turns w w' F F')
  (k : ∀ a, G a → XK N w0 (wpList P ops Q rest) ((d, v a) :: e) R (H.set i (q a))) : XK N w0 (wpList P ops Q (⟨some d, .call { callee := .value x, args := args.toArray, argTypes := tys }, ty, pos, aft, none⟩ :: rest)) e R H := fun a w hr st => wpList_plain rfl fun K hK => by
 unfold callB at hf
 cases hq : P.funcs[f]? with
 | none => simp [hq] at hf
 | some fn =>
  simp [hq] at hf
  obtain ⟨hf1, hf2⟩ := hf
  have hrun : (execOp a.eval (⟨some d, .call { callee := .value x, args := args.toArray, argTypes := tys }, ty, pos, aft, none⟩ : Oper)).run P w = .ok (.enter f (fi ++ vs ++ ca).toArray) w := by
   cases hb : fn.body with
   | none => simp [hb] at hf2
   | some c => simp [execOp, resolve, hr.ev hx, Deferred.ofValue, invoke, callFunc, hq, hf1, hb, hr.evs ha]
  obtain ⟨F, hp, hlt, hle, hset⟩ := st.chunk hi
  unfold Oper.wp
  rw [hrun]
  refine (hc w F st hp hlt hle).mono fun y w' hy => ?_
  obtain ⟨a', rfl, hG, F', hs, ht⟩ := hy
  exact hK _ _ (k a' hG _ _ (hr.put hd (v a')) (hset w' F' (q a') hs ht))
end
end
section
set_option maxHeartbeats 4000000
set_option maxRecDepth 20000
theorem shown15_any (w : World) : Calls Tryz.prog 13 #[] w (Rt (.bool true) w) := by
 refine XK.enter (vs := []) Tryz.func13 rfl Tryz.ntmps13 (by simp) ?_
 refine XK.go ?_
 refine xk_alloc (cs := [.slice none 0 0, .slice none 0 0, .slice none 0 0, .slice none 0 0]) (zeroB_of (by kernel_rfl)) (by decide) fun g1 => ?_
 refine XK.go ?_
 refine xk_callN (f := 15) (fi := []) (ca := []) (by kernel_rfl) rfl rfl (by decide) (HardOk socE) (fun w1 t => hardNew_ok socE socE_okH none none none none 0 0 0 0 0 0 0 0 w1 (socE_W w1)) ?_
 rintro _ _ q1 ⟨hL, rfl, rfl, hl1, hl2⟩ _
 dsimp only [List.cons_append, List.nil_append]
 refine XK.go ?_
 refine xk_callN (f := 16) (fi := []) (ca := []) (by kernel_rfl) rfl rfl (by decide) (FirmOk hL.h socE) (fun w1 t => firmNew_ok hL.h socE socE_okH none none none none 0 0 0 0 0 0 0 0 w1 (socE_W w1)) ?_
 rintro _ _ q2 ⟨f, rfl, rfl⟩ _
 dsimp only [List.cons_append, List.nil_append]
 refine XK.go ?_
 refine xk_buildS (zs := [.int .i64 0, .int .i64 0, .int .i64 0, .int .i64 0]) (L := [(0, 1), (1, 1), (2, 1), (3, 1)]) (zeroB_of (by kernel_rfl)) (by kernel_rfl) rfl (by simp [fillL, setN, Value.cells]; rfl) (by decide) ?_
 refine xk_call [] (f := 18) (fi := []) (ca := []) (by kernel_rfl) rfl rfl (by decide) (by simp) (CmdOk ((packZ 0 0 16 5).1 :: [])) (fun w1 t => command_any 0 0 16 5 none 0 0 [] w1 (SlS.nil _ _) rfl (by omega) msgE_ok.1) ?_
 rintro _ w1 q3 ⟨Al, cl, rfl, hl⟩ hf _ _
 have hl := hl.le hf
 clear hf
 refine XK.weak [0, 1] rfl (by decide) (R' := [q3, all w]) (by simp) ?_
 refine XK.go ?_
 refine kcallW 0 (FirmX f hL.h socE zE) (fun w1 F1 t h1 h2 h3 => by
  have := fmSend_m f hL.h socE (fm0 socE) 0 Al _ cl msgE w1 F1 h1 h2 (hl.le (h3 _ (by simp))) rfl (by decide)
  rw [zE_send] at this
  exact this) ?_
 dsimp only [List.set]
 refine XK.go ?_
 refine XK.pair ?_
 refine kcallW 0 (MachH f hL socE (takeF socE (hw0 socE) zE).1 (hw0 socE)) (fun w1 F1 t h1 h2 h3 => fmStep_ask f hL socE zE (hw0 socE) socE_okH ⟨hl1, hl2⟩ (hw0_ok socE_okH) zE_ok (fun a ha _ _ => by cases ha.symm.trans zE_next; exact zE_reply) (by decide) (by rw [zE_take]) w1 F1 h1 h2) ?_
 dsimp only [List.set]
 rw [zE_take]
 refine XK.go ?_
 refine XK.take 0 0 rfl rfl ?_
 dsimp only [List.set]
 refine xk_callMV (α := AC) 0 (f := 21) (fi := []) (ca := []) (fun c => .tuple #[.slice c.1 3 c.2, .bool true]) (fun c => readH f hL.h socE { zE with last := 0, h0 := 0, w0 := [] } [(packZ 0 0 16 5).1, 0, 131072] c) (fun _ => True) (by kernel_rfl) rfl rfl rfl (by decide) (fun w1 F1 t h1 h2 h3 => fmRead_m f hL.h socE { zE with last := 0, h0 := 2, w0 := [(packZ 0 0 16 5).1, 0, 131072] } 0 w1 F1 h1 h2) ?_
 rintro ⟨Ar, cr⟩ _
 dsimp only [List.set]
 refine XK.take 0 1 rfl rfl ?_
 dsimp only [List.set]
 refine XK.still [] [0] [] (by simp) rfl (by decide) (by decide) fun q hq _ hfr => ?_
 obtain ⟨F2, sf2, zf2⟩ := hq 0 _ (by simp) rfl
 have hr : BxP (Ar, cr) [(packZ 0 0 16 5).1, 0, 131072] q := BxP.le ⟨q.w, F2⟩ q (fun b hb => ⟨zf2 b hb, rfl⟩) sf2
 unfold msgE at hl
 generalize (packZ 0 0 16 5).1 = hd at hr hl ⊢
 obtain ⟨b, off, rfl, hb, hc⟩ := hr.2 (by simp)
 obtain ⟨lb, lo, rfl, hlb, hlc⟩ := hl.2 (by simp)
 have r0 : Rd w [q, q3, all w] [] b off (.int .u32 hd) := Rd.ro (p := q) (by simp) hb (hc 0 _ rfl)
 have r1 : Rd w [q, q3, all w] [] b (off + 1) (.int .u32 0) := Rd.ro (p := q) (by simp) hb (hc 1 _ rfl)
 have r2 : Rd w [q, q3, all w] [] b (off + 2) (.int .u32 131072) := Rd.ro (p := q) (by simp) hb (hc 2 _ rfl)
 have l0 : Rd w [q, q3, all w] [] lb lo (.int .u32 hd) := Rd.ro (p := q3) (by simp) hlb (hlc 0 _ rfl)
 refine XK.go ?_
 refine XK.drawQ ?_
 refine XQ.go ?_
 refine XQ.kd (dat 0 off) ?_
 refine XQ.go ?_
 refine XQ.kd (dat 0 lo (hlt := by simp)) ?_
 refine XQ.go ?_
 refine XQ.split 65 rfl (fun _ => ?_) (fun h => absurd rfl h)
 refine XQ.go ?_
 refine XQ.kd (dat 1 (off + 1)) ?_
 refine XQ.go ?_
 refine XQ.kd (dat 2 (off + 2)) ?_
 refine XQ.end_ ?_
 refine XK.go ?_
 exact XK.retE (by simp) rfl
end
section
theorem pick15_any (c n : Int) (w : World) (hc : -9223372036854775808 ≤ c ∧ c ≤ 9223372036854775807) (hn : 0 < n) :
  Calls Tryz.prog 17 #[.int .i64 c, .int .i64 n] w fun x w' => (∃ v, x = .returned v ∧ ∃ r : Int, v = .int .i64 r ∧ 0 ≤ r ∧ r < n) ∧ Below w.heap.size w w' := by
 refine XK.enter (vs := [.int .i64 c, .int .i64 n]) Tryz.func17 rfl Tryz.ntmps17 (by simp) ?_
 refine XK.seq ?_
 refine XK.region ?_
 refine xk_assign rfl (by decide) ?_
 refine XK.nilN ?_
 refine XK.cut (fun e R H => ∃ c : Int, 0 ≤ c ∧ e = [(0, .int .i64 c), (1, .int .i64 n)] ∧ R = [all w] ∧ H = []) ?_ ?_
 ·refine XK.seq ?_
  refine XK.region ?_
  refine xk_move rfl (by decide) ?_
  refine xk_lss rfl rfl (by decide) ?_
  refine XK.nilN ?_
  refine XK.if_ rfl (fun h => ?_) (fun h => ?_)
  ·refine XK.go ?_
   refine xk_neg rfl (wrap_in (by omega)) (by decide) ?_
   refine XK.go ?_
   exact XK.envS [(0, .int .i64 (0 - (c + 1))), (1, .int .i64 n)] (XK.meet ⟨_, by omega, rfl, rfl, rfl⟩)
  ·refine XK.go ?_
   exact XK.envS [(0, .int .i64 c), (1, .int .i64 n)] (XK.meet ⟨_, by omega, rfl, rfl, rfl⟩)
 rintro _ _ _ ⟨c, hc0, rfl, rfl, rfl⟩
 refine XK.go ?_
 refine xk_rem rfl rfl (by omega) (rem_in (by omega)) (by decide) ?_
 refine XK.go ?_
 exact XK.ret1 rfl rfl fun w' st => ⟨⟨_, rfl, _, rfl, Int.emod_nonneg _ (by omega), Int.emod_lt_of_pos _ hn⟩, st.below (by simp)⟩
set_option maxRecDepth 100000 in
set_option maxHeartbeats 4000000 in
theorem chip15_any (A : Option Addr) (n c : Nat) (zs : List Int) (w : World) (h0 : SlS (all w) 1 A n (intCells zs)) (hz : I64s zs) (hn : n = zs.length) (hn2 : n ≤ 9223372036854775807) :
    Calls Tryz.prog 14 #[.slice A n c] w fun x w' => (∃ v, x = .returned v ∧ ∃ cs s, v = .agg cs ∧ SocR (slq (fresh w w')) s cs ∧ s.made) ∧ Below w.heap.size w w' := by
  refine XK.enter (vs := [.slice A n c]) Tryz.func14 rfl Tryz.ntmps14 (by simp) ?_
  refine XK.seq ?_
  refine XK.region ?_
  refine xk_alloc (cs := [.slice none 0 0, .slice none 0 0, .slice none 0 0, .slice none 0 0]) (zeroB_of (by kernel_rfl)) (by decide) fun g1 => ?_
  refine XK.nilN ?_
  refine XK.seq ?_
  refine XK.region ?_
  refine xk_assign rfl (by decide) ?_
  refine XK.nilN ?_
  refine XK.seq ?_
  refine XK.region ?_
  refine xk_makeT 8 (n := 120) (el := 3) (z := .int .i64 0) (by kernel_rfl) (by kernel_rfl) rfl rfl rfl (by omega) (by omega) (by decide) fun g2 => ?_
  refine xk_assign rfl (by decide) ?_
  refine XK.nilN ?_
  refine XK.cut (fun e R H => ∃ ds, Draw ds ∧ e = [(4, .slice (some ⟨g2, 0, none⟩) 120 120), (2, .pointer (some ⟨g1, 0, none⟩))] ∧ R = [all w] ∧ H = [HP.blk g2 3 (intCells ds), HP.blk g1 29 [.slice none 0 0, .slice none 0 0, .slice none 0 0, .slice none 0 0]]) ?_ ?_
  ·
    refine XK.seq ?_
    refine XK.region ?_
    refine xk_assign rfl (by decide) ?_
    refine XK.nilN ?_
    refine XK.envS [(5, .int .i64 0), (4, .slice (some ⟨g2, 0, none⟩) 120 120), (2, .pointer (some ⟨g1, 0, none⟩)), (0, .slice A n c)] ?_
    refine XK.block ?_
    refine XK.loop (fun m e R H => ∃ (k : Nat) (ds : List Int), Draw ds ∧ k ≤ 120 ∧ m = 120 - k ∧ e = [(5, .int .i64 k), (4, .slice (some ⟨g2, 0, none⟩) 120 120), (2, .pointer (some ⟨g1, 0, none⟩)), (0, .slice A n c)] ∧ R = [all w] ∧ H = [HP.blk g2 3 (intCells ds), HP.blk g1 29 [.slice none 0 0, .slice none 0 0, .slice none 0 0, .slice none 0 0]]) 120 ⟨0, List.replicate 120 0, Draw.zero, by omega, rfl, rfl, rfl, by simp [intCells]⟩ fun m e R H hI => ?_
    obtain ⟨k, ds, hd, hk, rfl, rfl, rfl, rfl⟩ := hI
    refine XK.seq ?_
    refine XK.seq ?_
    refine XK.region ?_
    refine xk_move rfl (by decide) ?_
    refine xk_move rfl (by decide) ?_
    refine xk_len (el := 3) (by kernel_rfl) rfl (by decide) ?_
    refine xk_lss rfl rfl (by decide) ?_
    refine xk_move rfl (by decide) ?_
    refine xk_split (t := 23) rfl (fun hg => ?_) (fun hg => ?_)
    ·
      refine xk_guardT rfl rfl ?_; refine xk_move rfl (by decide) ?_
      refine xk_guardT rfl rfl ?_; refine xk_len (el := 3) (by kernel_rfl) rfl (by decide) ?_
      refine xk_guardT rfl rfl ?_; refine xk_gtr rfl rfl (by decide) ?_
      (first | refine xk_pickT rfl rfl (by decide) ?_ | refine xk_pickF rfl rfl (by decide) ?_)
      refine XK.nilN ?_
      refine XK.if_ rfl (fun h => ?_) (fun h => ?_)
      ·
        refine XK.skip ?_
        refine XK.norm ?_
        refine XK.seq ?_
        refine XK.block ?_
        have hk2 : k < 120 := by omega
        have hn0 : 0 < n := by omega
        obtain ⟨b, off, rfl, hzb, hc⟩ := h0.2 hn0
        have hkn : ((k % n : Nat) : Int) = (k : Int) % (n : Int) := Int.natCast_emod k n
        have hkl : k % n < n := Nat.mod_lt _ hn0
        have hdv : ((k / n : Nat) : Int) = (k : Int) / (n : Int) := Int.natCast_ediv k n
        have hdl : k / n ≤ k := Nat.div_le_self _ _
        have hdb : 0 ≤ (k : Int) / (n : Int) ∧ (k : Int) / (n : Int) ≤ k := ⟨Int.ediv_nonneg (by omega) (by omega), by have h2 : ((k / n : Nat) : Int) ≤ (k : Int) := Int.ofNat_le.2 hdl; rwa [hdv] at h2⟩
        have hrd : ∀ H, Rd w [all w] H b (off + k % n) (.int .i64 (zs[k % n]?.getD 0)) := fun H => Rd.ro (p := all w) (by simp) hzb (by exact hc _ _ (intCells_get zs _ (by omega)))
        have hzz := hz (k % n)
        have hyb := tdiv_bd (z := zs[k % n]?.getD 0) (d := 1 + (k : Int) / (n : Int)) (lo := -9223372036854775808) (hi := 9223372036854775807) (by omega) (by omega) (by omega) hzz
        refine XK.draw 16 (by kernel_rfl) (by kernel_rfl) ?_
        refine XA.dA 0 rfl rfl rfl (does_move rfl) ?_
        refine XA.dA 1 rfl rfl rfl (does_move rfl) ?_
        refine XA.dA 2 rfl rfl rfl (does_move rfl) ?_
        refine XA.dA 3 rfl rfl rfl (does_move rfl) ?_
        refine XA.dA 4 rfl rfl rfl (does_move rfl) ?_
        refine XA.dA 5 rfl rfl rfl (does_len (el := 3) (by kernel_rfl) rfl) ?_
        refine XA.dA 6 rfl rfl rfl (does_rem rfl rfl (by omega) (rem_in (by omega))) ?_
        refine XA.dA 7 rfl rfl rfl (does_at (k % n) (off + k % n) (el := 3) (sz := 1) (by kernel_rfl) (by kernel_rfl) rfl rfl hkn.symm hkl (by omega)) ?_
        refine XA.dA 8 rfl rfl rfl (does_load (by kernel_rfl) rfl (hrd _)) ?_
        refine XA.dA 9 rfl rfl rfl (does_move rfl) ?_
        refine XA.dA 10 rfl rfl rfl (does_move rfl) ?_
        refine XA.dA 11 rfl rfl rfl (does_len (el := 3) (by kernel_rfl) rfl) ?_
        refine XA.dA 12 rfl rfl rfl (does_quo rfl rfl (by omega) (quo_in (by omega) (by omega) (by omega))) ?_
        refine XA.dA 13 rfl rfl rfl (does_add rfl rfl (wrap_in (by omega))) ?_
        refine XA.dA 14 rfl rfl rfl (does_quo rfl rfl (by omega) (wrap_in hyb)) ?_
        refine XA.next 15 rfl (by kernel_rfl) ?_
        refine xk_callV (f := 17) (fi := []) (ca := []) (by kernel_rfl) rfl rfl (by decide) (fun v => ∃ r : Int, v = .int .i64 r ∧ 0 ≤ r ∧ r < 1000000) (fun w1 st => pick15_any _ _ w1 hyb (by omega)) fun v hv => ?_
        obtain ⟨r, rfl, hr0, hr1⟩ := hv
        refine XA.bk ?_
        refine XA.next 16 rfl (by kernel_rfl) ?_
        refine xk_at k k (el := 3) (sz := 1) (by kernel_rfl) (by kernel_rfl) rfl rfl rfl hk2 (by omega) (by decide) ?_
        refine XA.bt ?_
        refine XA.next 17 rfl (by kernel_rfl) ?_
        refine xk_store 0 rfl (by kernel_rfl) rfl rfl rfl (by simp [intCells, hd.1]; omega) ?_
        refine XA.bt ?_
        refine XA.done (by kernel_rfl) ?_
        refine XK.norm ?_
        refine XK.region ?_
        refine xk_move rfl (by decide) ?_
        refine xk_add rfl rfl (wrap_in (by omega)) (by decide) ?_
        refine xk_assign rfl (by decide) ?_
        refine XK.nilN ?_
        exact XK.envS [(5, .int .i64 (k + 1)), (4, .slice (some ⟨g2, 0, none⟩) 120 120), (2, .pointer (some ⟨g1, 0, none⟩)), (0, .slice (some ⟨b, off, none⟩) n c)] (XK.round (120 - (k + 1)) (by omega) ⟨k + 1, ds.set k r, hd.set_ k hr0 hr1, by omega, rfl, rfl, rfl, by simp [intCells, List.map_set]⟩)
      ·
        refine XK.exit ?_
        refine XK.norm ?_
        exact XK.envS [(4, .slice (some ⟨g2, 0, none⟩) 120 120), (2, .pointer (some ⟨g1, 0, none⟩))] (XK.meet ⟨ds, hd, rfl, rfl, rfl⟩)
    ·
      refine xk_guardF rfl rfl rfl (by decide) ?_
      refine xk_guardF rfl rfl rfl (by decide) ?_
      refine xk_guardF rfl rfl rfl (by decide) ?_
      (first | refine xk_pickT rfl rfl (by decide) ?_ | refine xk_pickF rfl rfl (by decide) ?_)
      refine XK.nilN ?_
      refine XK.cond rfl (fun h => by cases h) (fun _ => ?_)
      refine XK.exit ?_
      refine XK.norm ?_
      exact XK.envS [(4, .slice (some ⟨g2, 0, none⟩) 120 120), (2, .pointer (some ⟨g1, 0, none⟩))] (XK.meet ⟨ds, hd, rfl, rfl, rfl⟩)
  rintro _ _ _ ⟨ds, hd, rfl, rfl, rfl⟩
  have dd := hd.at_
  have b0 := hd.bd 0
  have b1 := hd.bd 1
  refine XK.seq ?_
  refine XK.region ?_
  refine xk_move rfl (by decide) ?_
  refine xk_at 0 0 (el := 3) (sz := 1) (by kernel_rfl) (by kernel_rfl) rfl rfl (by rfl) (by omega) (by omega) (by decide) ?_
  refine xk_load (by kernel_rfl) rfl (by first | exact Rd.anyB (dd _ (by omega)) | exact Rd.ld) (by decide) ?_
  refine xk_add rfl rfl (wrap_in (by omega)) (by decide) ?_
  refine xk_conv (ds := .int .i64) (by kernel_rfl) (by kernel_rfl) rfl (wrap_u64 (by omega)) (by decide) ?_
  refine xk_buildS (zs := [.int .u8 0, .slice none 0 0, .int .u64 0, .int .i64 0, .int .i64 0, .int .i64 0]) (L := [(0, 1), (1, 1), (2, 1), (3, 1), (4, 1), (5, 1)]) (zeroB_of (by kernel_rfl)) (by kernel_rfl) rfl (by simp [fillL, setN, Value.cells]; rfl) (by decide) ?_
  refine xk_slice (el := 118) (sz := 6) (zs := [.int .u8 0, .slice none 0 0, .int .u64 0, .int .i64 0, .int .i64 0, .int .i64 0]) (by kernel_rfl) (zeroB_of (by kernel_rfl)) (by kernel_rfl) rfl (by decide) (by decide) rfl (by simp [fillL, setN, Value.cells, List.range_succ, List.set]; rfl) (by decide) fun g3 => ?_
  refine xk_buildS (zs := [.slice none 0 0, .slice none 0 0, .slice none 0 0, .slice none 0 0]) (L := [(0, 1), (1, 1), (2, 1), (3, 1)]) (zeroB_of (by kernel_rfl)) (by kernel_rfl) rfl (by simp [fillL, setN, Value.cells]; rfl) (by decide) ?_
  refine xk_alloc (cs := [.slice none 0 0, .slice none 0 0, .slice none 0 0, .slice none 0 0]) (zeroB_of (by kernel_rfl)) (by decide) fun g4 => ?_
  refine xk_stN rfl rfl ?_; simp only [putN, Value.cells, List.set, List.take, List.drop, List.nil_append, List.append_nil, List.length_cons, List.length_nil, List.cons_append, Nat.reduceAdd]
  refine XK.nilN ?_
  refine XK.seq ?_
  refine XK.region ?_
  refine xk_assign rfl (by decide) ?_
  refine XK.nilN ?_
  refine XK.seq ?_
  refine XK.region ?_
  refine xk_assign rfl (by decide) ?_
  refine XK.nilN ?_
  refine XK.cut (fun e R H => ∃ (cs : List Clk) (A1 : Option Addr) (c1 : Nat) (q : Piece) (rows1 : List (List Value)), 1 ≤ cs.length ∧ cs.length ≤ 9 ∧ Fits Clk.fit cs ∧ Rows (ClkR (slq q)) 6 cs rows1 ∧ Fresh w q ∧ e = [(6, .pointer (some ⟨g4, 0, none⟩)), (4, .slice (some ⟨g2, 0, none⟩) 120 120), (2, .pointer (some ⟨g1, 0, none⟩))] ∧ R = [q, all w] ∧ H = [HP.blk g4 29 [.slice A1 cs.length c1, .slice none 0 0, .slice none 0 0, .slice none 0 0], HP.own 118 6 (.slice A1 cs.length c1) cs.length rows1.flatten, HP.blk g2 3 (intCells ds), HP.blk g1 29 [.slice none 0 0, .slice none 0 0, .slice none 0 0, .slice none 0 0]]) ?_ ?_
  ·
    refine XK.seq ?_
    refine XK.region ?_
    refine xk_assign rfl (by decide) ?_
    refine XK.nilN ?_
    refine XK.asOwn 1 6 1 rfl rfl (by omega) ?_
    refine XK.still [] [] [0, 1, 2, 3] (by simp) rfl (by decide) (by simp) fun q _ _ hqn => ?_
    have hq := hqn (by simp) (by simp)
    refine XK.envS [(8, .int .i64 0), (3, .int .i64 1), (7, .string ⟨#[112, 100, 103, 109, 103]⟩), (6, .pointer (some ⟨g4, 0, none⟩)), (4, .slice (some ⟨g2, 0, none⟩) 120 120), (2, .pointer (some ⟨g1, 0, none⟩))] ?_
    refine XK.block ?_
    refine XK.loop (fun m e R H => ∃ (k : Nat) (cs : List Clk) (A1 : Option Addr) (c1 : Nat) (q : Piece) (rows1 : List (List Value)), (k : Int) ≤ dv ds 1 % 9 ∧ m = 9 - k ∧ cs.length = k + 1 ∧ Fits Clk.fit cs ∧ Rows (ClkR (slq q)) 6 cs rows1 ∧ Fresh w q ∧ e = [(8, .int .i64 k), (3, .int .i64 1), (7, .string ⟨#[112, 100, 103, 109, 103]⟩), (6, .pointer (some ⟨g4, 0, none⟩)), (4, .slice (some ⟨g2, 0, none⟩) 120 120), (2, .pointer (some ⟨g1, 0, none⟩))] ∧ R = [q, all w] ∧ H = [HP.blk g4 29 [.slice A1 cs.length c1, .slice none 0 0, .slice none 0 0, .slice none 0 0], HP.own 118 6 (.slice A1 cs.length c1) cs.length rows1.flatten, HP.blk g2 3 (intCells ds), HP.blk g1 29 [.slice none 0 0, .slice none 0 0, .slice none 0 0, .slice none 0 0]]) 9 ⟨0, [⟨111, [], 1 + dv ds 0, 0, 0, 0⟩], some ⟨g3, 0, none⟩, 1, q, [[.int .u8 111, .slice none 0 0, .int .u64 (1 + dv ds 0), .int .i64 0, .int .i64 0, .int .i64 0]], by omega, rfl, rfl, (Fits.nil Clk.fit).snoc ⟨by simp, .inl ⟨rfl, rfl, by dsimp only; omega, by dsimp only; omega, rfl, rfl, rfl⟩⟩, ⟨rfl, ⟨none, 0, 0, rfl, rfl, SlS.nil _ _⟩, trivial⟩, hq, rfl, rfl, rfl⟩ fun m e R H hI => ?_
    obtain ⟨k, cs, A1, c1, q, rows1, hk, rfl, hcl, hcf, hcr, hq, rfl, rfl, rfl⟩ := hI
    refine XK.seq ?_
    refine XK.seq ?_
    refine XK.region ?_
    refine xk_move rfl (by decide) ?_
    refine xk_move rfl (by decide) ?_
    refine xk_move rfl (by decide) ?_
    refine xk_at 1 1 (el := 3) (sz := 1) (by kernel_rfl) (by kernel_rfl) rfl rfl (by omega) (by omega) (by omega) (by decide) ?_
    refine xk_load (by kernel_rfl) rfl (by first | exact Rd.anyB (dd _ (by omega)) | exact Rd.ld) (by decide) ?_
    refine xk_rem rfl rfl (by omega) (rem_in (by omega)) (by decide) ?_
    refine xk_lss rfl rfl (by decide) ?_
    refine XK.nilN ?_
    refine XK.if_ rfl (fun h => ?_) (fun h => ?_)
    ·
      refine XK.skip ?_
      refine XK.norm ?_
      refine XK.seq ?_
      have hk2 : k < 9 := by omega
      have hcp : (0 : Int) < cs.length := by omega
      have b2 := hd.bd (10 + 3 * k)
      have b3 := hd.bd (11 + 3 * k)
      have b4 := hd.bd (12 + 3 * k)
      have f0 := emod_bd (dv ds (11 + 3 * k)) hcp
      have f1 := emod_bd (dv ds (12 + 3 * k)) hcp
      have m5 := emod_bd (dv ds (10 + 3 * k)) (n := 5) (by omega)
      obtain ⟨kb, hkb, hkb2⟩ := kinds_at (q := (dv ds (10 + 3 * k) % 5).toNat) (by omega)
      refine XK.block ?_
      refine XK.seq ?_
      refine XK.region ?_
      refine xk_move rfl (by decide) ?_
      refine xk_mul rfl rfl (wrap_in (by omega)) (by decide) ?_
      refine xk_add rfl rfl (wrap_in (by omega)) (by decide) ?_
      refine xk_assign rfl (by decide) ?_
      refine XK.nilN ?_
      refine XK.cut (fun e R H => ∃ gC gF, e = [(10, .pointer (some ⟨gC, 0, none⟩)), (9, .int .i64 (10 + 3 * k)), (8, .int .i64 k), (3, .int .i64 1), (7, .string ⟨#[112, 100, 103, 109, 103]⟩), (6, .pointer (some ⟨g4, 0, none⟩)), (4, .slice (some ⟨g2, 0, none⟩) 120 120), (2, .pointer (some ⟨g1, 0, none⟩))] ∧ R = [q, all w] ∧ H = [HP.blk gC 118 [.int .u8 kb.toNat, .slice (some ⟨gF, 0, none⟩) 1 1, .int .u64 0, .int .i64 0, .int .i64 0, .int .i64 0], HP.blk gF 3 [.int .i64 (dv ds (11 + 3 * k) % cs.length)], HP.blk g4 29 [.slice A1 cs.length c1, .slice none 0 0, .slice none 0 0, .slice none 0 0], HP.own 118 6 (.slice A1 cs.length c1) cs.length rows1.flatten, HP.blk g2 3 (intCells ds), HP.blk g1 29 [.slice none 0 0, .slice none 0 0, .slice none 0 0, .slice none 0 0]]) ?_ ?_
      ·
        refine XK.draw 19 (by kernel_rfl) (by kernel_rfl) ?_
        refine XA.dA 0 rfl rfl rfl (does_move rfl) ?_
        refine XA.dA 1 rfl rfl rfl (does_move rfl) ?_
        refine XA.dA 2 rfl rfl rfl (does_move rfl) ?_
        refine XA.dA 3 rfl rfl rfl (does_at (10 + 3 * k) (10 + 3 * k) (el := 3) (sz := 1) (by kernel_rfl) (by kernel_rfl) rfl rfl (by omega) (by omega) (by omega)) ?_
        refine XA.dA 4 rfl rfl rfl (does_load (by kernel_rfl) rfl (by first | exact Rd.anyB (dd _ (by omega)) | exact Rd.ld)) ?_
        refine XA.dA 5 rfl rfl rfl (does_rem rfl rfl (by omega) (rem_in (by omega))) ?_
        refine XA.dA 6 rfl rfl rfl (does_byte (dv ds (10 + 3 * k) % 5).toNat (by kernel_rfl) rfl rfl (by omega) hkb) ?_
        refine XA.dA 7 rfl rfl rfl (does_move rfl) ?_
        refine XA.dA 8 rfl rfl rfl (does_move rfl) ?_
        refine XA.dA 9 rfl rfl rfl (does_add rfl rfl (wrap_in (by omega))) ?_
        refine XA.dA 10 rfl rfl rfl (does_at (11 + 3 * k) (11 + 3 * k) (el := 3) (sz := 1) (by kernel_rfl) (by kernel_rfl) rfl rfl (by omega) (by omega) (by omega)) ?_
        refine XA.dA 11 rfl rfl rfl (does_load (by kernel_rfl) rfl (by first | exact Rd.anyB (dd _ (by omega)) | exact Rd.ld)) ?_
        refine XA.dA 12 rfl rfl rfl (does_field (off := 0) (by kernel_rfl) rfl) ?_
        refine XA.dA 13 rfl rfl rfl (does_load (by kernel_rfl) rfl (by first | exact Rd.anyB (dd _ (by omega)) | exact Rd.ld)) ?_
        refine XA.dA 14 rfl rfl rfl (does_len (el := 118) (by kernel_rfl) rfl) ?_
        refine XA.dA 15 rfl rfl rfl (does_rem rfl rfl (by omega) (rem_in (by omega))) ?_
        refine XA.either 16 18 rfl rfl (by kernel_rfl) ?_ ?_
        · refine xk_slice (el := 3) (sz := 1) (zs := [.int .i64 0]) (by kernel_rfl) (zeroB_of (by kernel_rfl)) (by kernel_rfl) rfl (by decide) (by decide) rfl (by simp [fillL, setN, Value.cells, List.range_succ, List.set]; rfl) (by decide) fun g5 => ?_
          refine XA.bk ?_
          refine XA.dA 17 rfl rfl rfl (does_buildS (zs := [.int .u8 0, .slice none 0 0, .int .u64 0, .int .i64 0, .int .i64 0, .int .i64 0]) (L := [(0, 1), (1, 1), (2, 1), (3, 1), (4, 1), (5, 1)]) (zeroB_of (by kernel_rfl)) (by kernel_rfl) rfl (by simp [fillL, setN, Value.cells]; rfl)) ?_
          refine XA.next 18 rfl (by kernel_rfl) ?_
          refine xk_alloc (cs := [.int .u8 0, .slice none 0 0, .int .u64 0, .int .i64 0, .int .i64 0, .int .i64 0]) (zeroB_of (by kernel_rfl)) (by decide) fun g6 => ?_
          refine XA.bk ?_
          refine XA.next 19 rfl (by kernel_rfl) ?_
          refine xk_stN rfl rfl ?_; simp only [putN, Value.cells, List.set, List.take, List.drop, List.nil_append, List.append_nil, List.length_cons, List.length_nil, List.cons_append, Nat.reduceAdd]
          refine XA.bt ?_
          refine XA.done (by kernel_rfl) ?_
          refine XK.norm ?_
          exact XK.envS [(10, .pointer (some ⟨g6, 0, none⟩)), (9, .int .i64 (10 + 3 * k)), (8, .int .i64 k), (3, .int .i64 1), (7, .string ⟨#[112, 100, 103, 109, 103]⟩), (6, .pointer (some ⟨g4, 0, none⟩)), (4, .slice (some ⟨g2, 0, none⟩) 120 120), (2, .pointer (some ⟨g1, 0, none⟩))] (XK.meet ⟨_, _, rfl, rfl, rfl⟩)
        · refine xk_alloc (cs := [.int .u8 0, .slice none 0 0, .int .u64 0, .int .i64 0, .int .i64 0, .int .i64 0]) (zeroB_of (by kernel_rfl)) (by decide) fun g6 => ?_
          refine XA.bk ?_
          refine XA.next 16 rfl (by kernel_rfl) ?_
          refine xk_slice (el := 3) (sz := 1) (zs := [.int .i64 0]) (by kernel_rfl) (zeroB_of (by kernel_rfl)) (by kernel_rfl) rfl (by decide) (by decide) rfl (by simp [fillL, setN, Value.cells, List.range_succ, List.set]; rfl) (by decide) fun g5 => ?_
          refine XA.bk ?_
          refine XA.dA 17 rfl rfl rfl (does_buildS (zs := [.int .u8 0, .slice none 0 0, .int .u64 0, .int .i64 0, .int .i64 0, .int .i64 0]) (L := [(0, 1), (1, 1), (2, 1), (3, 1), (4, 1), (5, 1)]) (zeroB_of (by kernel_rfl)) (by kernel_rfl) rfl (by simp [fillL, setN, Value.cells]; rfl)) ?_
          refine XA.next 19 rfl (by kernel_rfl) ?_
          refine xk_stN rfl rfl ?_; simp only [putN, Value.cells, List.set, List.take, List.drop, List.nil_append, List.append_nil, List.length_cons, List.length_nil, List.cons_append, Nat.reduceAdd]
          refine XA.bt ?_
          refine XA.done (by kernel_rfl) ?_
          refine XK.norm ?_
          exact XK.weak [1, 0, 2, 3, 4, 5] rfl (by decide) (fun _ h => h) (XK.envS [(10, .pointer (some ⟨g6, 0, none⟩)), (9, .int .i64 (10 + 3 * k)), (8, .int .i64 k), (3, .int .i64 1), (7, .string ⟨#[112, 100, 103, 109, 103]⟩), (6, .pointer (some ⟨g4, 0, none⟩)), (4, .slice (some ⟨g2, 0, none⟩) 120 120), (2, .pointer (some ⟨g1, 0, none⟩))] (XK.meet ⟨_, _, rfl, rfl, rfl⟩))
      rintro _ _ _ ⟨gC, gF, rfl, rfl, rfl⟩
      refine XK.asOwn 1 1 1 rfl rfl (by omega) ?_
      refine XK.cut (fun e R H => ∃ (cl : Clk) (Af : Option Addr) (cf gC : Nat), cl.fit cs.length ∧ e = [(10, .pointer (some ⟨gC, 0, none⟩)), (8, .int .i64 k), (3, .int .i64 1), (7, .string ⟨#[112, 100, 103, 109, 103]⟩), (6, .pointer (some ⟨g4, 0, none⟩)), (4, .slice (some ⟨g2, 0, none⟩) 120 120), (2, .pointer (some ⟨g1, 0, none⟩))] ∧ R = [q, all w] ∧ H = [HP.blk gC 118 [.int .u8 cl.kind, .slice Af cl.src.length cf, .int .u64 cl.rate, .int .i64 cl.mul, .int .i64 cl.div, .int .i64 cl.lock], HP.own 3 1 (.slice Af cl.src.length cf) cl.src.length (intCells cl.src), HP.blk g4 29 [.slice A1 cs.length c1, .slice none 0 0, .slice none 0 0, .slice none 0 0], HP.own 118 6 (.slice A1 cs.length c1) cs.length rows1.flatten, HP.blk g2 3 (intCells ds), HP.blk g1 29 [.slice none 0 0, .slice none 0 0, .slice none 0 0, .slice none 0 0]]) ?_ ?_
      ·
        refine XK.seq ?_
        refine XK.region ?_
        refine xk_field (off := 0) (by kernel_rfl) rfl (by decide) ?_
        refine xk_load (by kernel_rfl) rfl (by first | exact Rd.anyB (dd _ (by omega)) | exact Rd.ld) (by decide) ?_
        refine XK.nilN ?_
        refine XK.block ?_
        refine XK.seq ?_
        refine XK.region ?_
        refine xk_eql rfl rfl (by decide) ?_
        refine xk_assign rfl (by decide) ?_
        refine XK.nilN ?_
        refine XK.if_ rfl (fun h => ?_) (fun h => ?_)
        ·
          refine XK.seq ?_
          refine XK.region ?_
          refine xk_move rfl (by decide) ?_
          refine xk_move rfl (by decide) ?_
          refine xk_add rfl rfl (wrap_in (by omega)) (by decide) ?_
          refine xk_at (12 + 3 * k) (12 + 3 * k) (el := 3) (sz := 1) (by kernel_rfl) (by kernel_rfl) rfl rfl (by omega) (by omega) (by omega) (by decide) ?_
          refine xk_load (by kernel_rfl) rfl (by first | exact Rd.anyB (dd _ (by omega)) | exact Rd.ld) (by decide) ?_
          refine xk_rem rfl rfl (by omega) (rem_in (by omega)) (by decide) ?_
          refine xk_add rfl rfl (wrap_in (by omega)) (by decide) ?_
          refine xk_field (off := 3) (by kernel_rfl) rfl (by decide) ?_
          refine xk_st rfl rfl ?_; dsimp only [List.set]
          refine XK.nilN ?_
          refine XK.seq ?_
          refine XK.region ?_
          refine xk_move rfl (by decide) ?_
          refine xk_move rfl (by decide) ?_
          refine xk_add rfl rfl (wrap_in (by omega)) (by decide) ?_
          refine xk_at (12 + 3 * k) (12 + 3 * k) (el := 3) (sz := 1) (by kernel_rfl) (by kernel_rfl) rfl rfl (by omega) (by omega) (by omega) (by decide) ?_
          refine xk_load (by kernel_rfl) rfl (by first | exact Rd.anyB (dd _ (by omega)) | exact Rd.ld) (by decide) ?_
          refine xk_quo rfl rfl (by omega) (quo_in (by omega) (by omega) (by omega)) (by decide) ?_
          refine xk_rem rfl rfl (by omega) (rem_in (by omega)) (by decide) ?_
          refine xk_add rfl rfl (wrap_in (by omega)) (by decide) ?_
          refine xk_field (off := 4) (by kernel_rfl) rfl (by decide) ?_
          refine xk_st rfl rfl ?_; dsimp only [List.set]
          refine XK.nilN ?_
          refine XK.region ?_
          refine xk_move rfl (by decide) ?_
          refine xk_move rfl (by decide) ?_
          refine xk_add rfl rfl (wrap_in (by omega)) (by decide) ?_
          refine xk_at (12 + 3 * k) (12 + 3 * k) (el := 3) (sz := 1) (by kernel_rfl) (by kernel_rfl) rfl rfl (by omega) (by omega) (by omega) (by decide) ?_
          refine xk_load (by kernel_rfl) rfl (by first | exact Rd.anyB (dd _ (by omega)) | exact Rd.ld) (by decide) ?_
          refine xk_quo rfl rfl (by omega) (quo_in (by omega) (by omega) (by omega)) (by decide) ?_
          refine xk_rem rfl rfl (by omega) (rem_in (by omega)) (by decide) ?_
          refine xk_field (off := 5) (by kernel_rfl) rfl (by decide) ?_
          refine xk_st rfl rfl ?_; dsimp only [List.set]
          refine XK.nilN ?_
          exact XK.envS [(10, .pointer (some ⟨gC, 0, none⟩)), (8, .int .i64 k), (3, .int .i64 1), (7, .string ⟨#[112, 100, 103, 109, 103]⟩), (6, .pointer (some ⟨g4, 0, none⟩)), (4, .slice (some ⟨g2, 0, none⟩) 120 120), (2, .pointer (some ⟨g1, 0, none⟩))] (XK.meet ⟨⟨kb.toNat, [dv ds (11 + 3 * k) % cs.length], 0, 1 + dv ds (12 + 3 * k) % 8, 1 + dv ds (12 + 3 * k) / 8 % 4, dv ds (12 + 3 * k) / 32 % 4⟩, some ⟨gF, 0, none⟩, 1, gC, ⟨fun f hf => by simp at hf; subst hf; exact f0, .inr (.inl ⟨h, rfl, rfl, by dsimp only; omega, by dsimp only; omega, by dsimp only; omega, by dsimp only; omega, by dsimp only; omega, by dsimp only; omega⟩)⟩, rfl, rfl, rfl⟩)
        ·
          refine XK.seq ?_
          refine XK.region ?_
          refine xk_eql rfl rfl (by decide) ?_
          refine xk_assign rfl (by decide) ?_
          refine XK.nilN ?_
          refine XK.if_ rfl (fun h => ?_) (fun h => ?_)
          ·
            refine XK.region ?_
            refine xk_move rfl (by decide) ?_
            refine xk_move rfl (by decide) ?_
            refine xk_add rfl rfl (wrap_in (by omega)) (by decide) ?_
            refine xk_at (12 + 3 * k) (12 + 3 * k) (el := 3) (sz := 1) (by kernel_rfl) (by kernel_rfl) rfl rfl (by omega) (by omega) (by omega) (by decide) ?_
            refine xk_load (by kernel_rfl) rfl (by first | exact Rd.anyB (dd _ (by omega)) | exact Rd.ld) (by decide) ?_
            refine xk_rem rfl rfl (by omega) (rem_in (by omega)) (by decide) ?_
            refine xk_add rfl rfl (wrap_in (by omega)) (by decide) ?_
            refine xk_field (off := 4) (by kernel_rfl) rfl (by decide) ?_
            refine xk_st rfl rfl ?_; dsimp only [List.set]
            refine XK.nilN ?_
            exact XK.envS [(10, .pointer (some ⟨gC, 0, none⟩)), (8, .int .i64 k), (3, .int .i64 1), (7, .string ⟨#[112, 100, 103, 109, 103]⟩), (6, .pointer (some ⟨g4, 0, none⟩)), (4, .slice (some ⟨g2, 0, none⟩) 120 120), (2, .pointer (some ⟨g1, 0, none⟩))] (XK.meet ⟨⟨kb.toNat, [dv ds (11 + 3 * k) % cs.length], 0, 0, 1 + dv ds (12 + 3 * k) % 8, 0⟩, some ⟨gF, 0, none⟩, 1, gC, ⟨fun f hf => by simp at hf; subst hf; exact f0, .inr (.inr (.inl ⟨h, rfl, rfl, rfl, by dsimp only; omega, by dsimp only; omega, rfl⟩))⟩, rfl, rfl, rfl⟩)
          ·
            refine XK.seq ?_
            refine XK.region ?_
            refine xk_eql rfl rfl (by decide) ?_
            refine xk_assign rfl (by decide) ?_
            refine XK.nilN ?_
            refine XK.if_ rfl (fun h => ?_) (fun h => ?_)
            ·
              refine XK.draw 12 (by kernel_rfl) (by kernel_rfl) ?_
              refine XA.dA 0 rfl rfl rfl (does_field (off := 1) (by kernel_rfl) rfl) ?_
              refine XA.dA 1 rfl rfl rfl (does_load (by kernel_rfl) rfl (by first | exact Rd.anyB (dd _ (by omega)) | exact Rd.ld)) ?_
              refine XA.dA 2 rfl rfl rfl (does_move rfl) ?_
              refine XA.dA 3 rfl rfl rfl (does_move rfl) ?_
              refine XA.dA 4 rfl rfl rfl (does_add rfl rfl (wrap_in (by omega))) ?_
              refine XA.dA 5 rfl rfl rfl (does_at (12 + 3 * k) (12 + 3 * k) (el := 3) (sz := 1) (by kernel_rfl) (by kernel_rfl) rfl rfl (by omega) (by omega) (by omega)) ?_
              refine XA.dA 6 rfl rfl rfl (does_load (by kernel_rfl) rfl (by first | exact Rd.anyB (dd _ (by omega)) | exact Rd.ld)) ?_
              refine XA.dA 7 rfl rfl rfl (does_field (off := 0) (by kernel_rfl) rfl) ?_
              refine XA.dA 8 rfl rfl rfl (does_load (by kernel_rfl) rfl (by first | exact Rd.anyB (dd _ (by omega)) | exact Rd.ld)) ?_
              refine XA.dA 9 rfl rfl rfl (does_len (el := 118) (by kernel_rfl) rfl) ?_
              refine XA.dA 10 rfl rfl rfl (does_rem rfl rfl (by omega) (rem_in (by omega))) ?_
              refine XA.next 11 rfl (by kernel_rfl) ?_
              refine xk_slice (el := 3) (sz := 1) (zs := [.int .i64 0]) (by kernel_rfl) (zeroB_of (by kernel_rfl)) (by kernel_rfl) rfl (by decide) (by decide) rfl (by simp [fillL, setN, Value.cells, List.range_succ, List.set]; rfl) (by decide) fun g7 => ?_
              refine XA.bk ?_
              refine XA.next 12 rfl (by kernel_rfl) ?_
              refine xk_appendT 2 1 8 1 (n' := 2) (el := 3) (by kernel_rfl) (by kernel_rfl) (by decide) rfl rfl rfl (sl_blk 0 rfl rfl) (by simp [Value.oneCell']) rfl (by omega) (by omega) (by decide) fun Af cf => ?_
              refine XA.bt ?_
              refine XA.next 13 rfl (by kernel_rfl) ?_
              refine xk_field (off := 1) (by kernel_rfl) rfl (by decide) ?_
              refine XA.bt ?_
              refine XA.next 14 rfl (by kernel_rfl) ?_
              refine xk_st rfl rfl ?_; dsimp only [List.set]
              refine XA.bt ?_
              refine XA.done (by kernel_rfl) ?_
              refine XK.norm ?_
              exact XK.weak [1, 2, 3, 4, 5, 6] rfl (by decide) (fun _ h => h) (XK.envS [(10, .pointer (some ⟨gC, 0, none⟩)), (8, .int .i64 k), (3, .int .i64 1), (7, .string ⟨#[112, 100, 103, 109, 103]⟩), (6, .pointer (some ⟨g4, 0, none⟩)), (4, .slice (some ⟨g2, 0, none⟩) 120 120), (2, .pointer (some ⟨g1, 0, none⟩))] (XK.meet ⟨⟨kb.toNat, [dv ds (11 + 3 * k) % cs.length, dv ds (12 + 3 * k) % cs.length], 0, 0, 0, 0⟩, Af, cf, gC, ⟨fun f hf => by simp at hf; rcases hf with rfl | rfl; exact f0; exact f1, .inr (.inr (.inr (.inr ⟨h, rfl, rfl, rfl, rfl, rfl⟩)))⟩, rfl, rfl, rfl⟩))
            ·
              refine XK.skip ?_
              refine XK.norm ?_
              exact XK.envS [(10, .pointer (some ⟨gC, 0, none⟩)), (8, .int .i64 k), (3, .int .i64 1), (7, .string ⟨#[112, 100, 103, 109, 103]⟩), (6, .pointer (some ⟨g4, 0, none⟩)), (4, .slice (some ⟨g2, 0, none⟩) 120 120), (2, .pointer (some ⟨g1, 0, none⟩))] (XK.meet ⟨⟨kb.toNat, [dv ds (11 + 3 * k) % cs.length], 0, 0, 0, 0⟩, some ⟨gF, 0, none⟩, 1, gC, ⟨fun f hf => by simp at hf; subst hf; exact f0, .inr (.inr (.inr (.inl ⟨by dsimp only; omega, rfl, rfl, rfl, rfl, rfl⟩)))⟩, rfl, rfl, rfl⟩)
      rintro _ _ _ ⟨cl, Af, cf, gC, hclf, rfl, rfl, rfl⟩
      refine XK.region ?_
      refine xk_field (off := 0) (by kernel_rfl) rfl (by decide) ?_
      refine xk_load (by kernel_rfl) rfl (by first | exact Rd.anyB (dd _ (by omega)) | exact Rd.ld) (by decide) ?_
      refine xk_ldN 6 rfl ?_
      refine xk_slice (el := 118) (sz := 6) (zs := [.int .u8 0, .slice none 0 0, .int .u64 0, .int .i64 0, .int .i64 0, .int .i64 0]) (by kernel_rfl) (zeroB_of (by kernel_rfl)) (by kernel_rfl) rfl (by decide) (by decide) rfl (by simp [fillL, setN, Value.cells, List.range_succ, List.set]; rfl) (by decide) fun g8 => ?_
      refine xk_appendT 4 6 64 1 (n' := cs.length + 1) (el := 118) (by kernel_rfl) (by kernel_rfl) (by decide) rfl rfl rfl (sl_blk 0 rfl rfl) (by simp [Value.oneCell']) rfl (by omega) (by omega) (by decide) fun A1n c1n => ?_
      refine xk_field (off := 0) (by kernel_rfl) rfl (by decide) ?_
      refine xk_st rfl rfl ?_; dsimp only [List.set]
      refine XK.nilN ?_
      refine XK.region ?_
      refine xk_move rfl (by decide) ?_
      refine xk_add rfl rfl (wrap_in (by omega)) (by decide) ?_
      refine xk_assign rfl (by decide) ?_
      refine XK.nilN ?_
      refine XK.still [q] [2] [3, 4, 5, 6] (by simp) rfl (by decide) (by simp) fun q2 hqf hql hqn => ?_
      have hle := hql q (by simp)
      have hq2 := hqn (by simp) (by simp; exact hq)
      have hsl := SlS.own (hqf 2 _ (by simp) rfl)
      exact XK.weak [0, 1, 2, 3] rfl (by decide) (by simp) (XK.envS [(8, .int .i64 (k + 1)), (3, .int .i64 1), (7, .string ⟨#[112, 100, 103, 109, 103]⟩), (6, .pointer (some ⟨g4, 0, none⟩)), (4, .slice (some ⟨g2, 0, none⟩) 120 120), (2, .pointer (some ⟨g1, 0, none⟩))] (XK.round (9 - (k + 1)) (by omega) ⟨k + 1, cs ++ [cl], A1n, c1n, q2, rows1 ++ [_], by omega, rfl, by simp [hcl], hcf.snoc hclf, (hcr.mono (fun c r => ClkR.mono (slq_le hle))).snoc (r := [.int .u8 cl.kind, .slice Af cl.src.length cf, .int .u64 cl.rate, .int .i64 cl.mul, .int .i64 cl.div, .int .i64 cl.lock]) rfl ⟨Af, _, cf, rfl, rfl, hsl⟩, hq2, rfl, rfl, by simp⟩))
    ·
      refine XK.exit ?_
      refine XK.norm ?_
      exact XK.envS [(6, .pointer (some ⟨g4, 0, none⟩)), (4, .slice (some ⟨g2, 0, none⟩) 120 120), (2, .pointer (some ⟨g1, 0, none⟩))] (XK.meet ⟨cs, A1, c1, q, rows1, by omega, by omega, hcf, hcr, hq, rfl, rfl, rfl⟩)
  rintro _ _ _ ⟨cs, A1, c1, q, rows1, hc1, hc9, hcf, hcr, hq, rfl, rfl, rfl⟩
  have dd := hd.at_
  have b2 := hd.bd 2
  have b3 := hd.bd 3
  have b4 := hd.bd 4
  refine XK.cut (fun e R H => ∃ (dm : List Dom) (A2 : Option Addr) (c2 : Nat) (rows2 : List (List Value)), 1 ≤ dm.length ∧ dm.length ≤ 4 ∧ Fits Dom.fit dm ∧ Rows DomR 3 dm rows2 ∧ e = [(6, .pointer (some ⟨g4, 0, none⟩)), (4, .slice (some ⟨g2, 0, none⟩) 120 120), (2, .pointer (some ⟨g1, 0, none⟩))] ∧ R = [q, all w] ∧ H = [HP.blk g4 29 [.slice A1 cs.length c1, .slice A2 dm.length c2, .slice none 0 0, .slice none 0 0], HP.own 75 3 (.slice A2 dm.length c2) dm.length rows2.flatten, HP.own 118 6 (.slice A1 cs.length c1) cs.length rows1.flatten, HP.blk g2 3 (intCells ds), HP.blk g1 29 [.slice none 0 0, .slice none 0 0, .slice none 0 0, .slice none 0 0]]) ?_ ?_
  ·
    refine XK.seq ?_
    refine XK.region ?_
    refine xk_assign rfl (by decide) ?_
    refine XK.nilN ?_
    refine XK.nilrow 75 3 ?_
    refine XK.weak [1, 0, 2, 3, 4] rfl (by decide) (fun _ h => h) ?_
    refine XK.envS [(11, .int .i64 0), (6, .pointer (some ⟨g4, 0, none⟩)), (4, .slice (some ⟨g2, 0, none⟩) 120 120), (2, .pointer (some ⟨g1, 0, none⟩))] ?_
    refine XK.block ?_
    refine XK.loop (fun m e R H => ∃ (dm : List Dom) (A2 : Option Addr) (c2 : Nat) (rows2 : List (List Value)), (dm.length : Int) ≤ 1 + dv ds 2 % 4 ∧ m = 5 - dm.length ∧ Fits Dom.fit dm ∧ Rows DomR 3 dm rows2 ∧ e = [(11, .int .i64 dm.length), (6, .pointer (some ⟨g4, 0, none⟩)), (4, .slice (some ⟨g2, 0, none⟩) 120 120), (2, .pointer (some ⟨g1, 0, none⟩))] ∧ R = [q, all w] ∧ H = [HP.blk g4 29 [.slice A1 cs.length c1, .slice A2 dm.length c2, .slice none 0 0, .slice none 0 0], HP.own 75 3 (.slice A2 dm.length c2) dm.length rows2.flatten, HP.own 118 6 (.slice A1 cs.length c1) cs.length rows1.flatten, HP.blk g2 3 (intCells ds), HP.blk g1 29 [.slice none 0 0, .slice none 0 0, .slice none 0 0, .slice none 0 0]]) 5 ⟨[], none, 0, [], by simp; omega, rfl, Fits.nil _, trivial, rfl, rfl, rfl⟩ fun m e R H hI => ?_
    obtain ⟨dm, A2, c2, rows2, hk, rfl, hdf, hdr, rfl, rfl, rfl⟩ := hI
    refine XK.seq ?_
    refine XK.seq ?_
    refine XK.region ?_
    refine xk_move rfl (by decide) ?_
    refine xk_move rfl (by decide) ?_
    refine xk_at 2 2 (el := 3) (sz := 1) (by kernel_rfl) (by kernel_rfl) rfl rfl (by rfl) (by omega) (by omega) (by decide) ?_
    refine xk_load (by kernel_rfl) rfl (by first | exact Rd.anyB (dd _ (by omega)) | exact Rd.ld) (by decide) ?_
    refine xk_rem rfl rfl (by omega) (rem_in (by omega)) (by decide) ?_
    refine xk_add rfl rfl (wrap_in (by omega)) (by decide) ?_
    refine xk_lss rfl rfl (by decide) ?_
    refine XK.nilN ?_
    refine XK.if_ rfl (fun h => ?_) (fun h => ?_)
    ·
      refine XK.skip ?_
      refine XK.norm ?_
      refine XK.seq ?_
      refine XK.block ?_
      refine XK.seq ?_
      have hk2 : dm.length < 4 := by omega
      have p1 := hd.bd (40 + dm.length)
      have p2 := hd.bd (44 + dm.length)
      refine XK.draw 16 (by kernel_rfl) (by kernel_rfl) ?_
      refine XA.dA 0 rfl rfl rfl (does_move rfl) ?_
      refine XA.dA 1 rfl rfl rfl (does_move rfl) ?_
      refine XA.dA 2 rfl rfl rfl (does_add rfl rfl (wrap_in (by omega))) ?_
      refine XA.dA 3 rfl rfl rfl (does_at (40 + dm.length) (40 + dm.length) (el := 3) (sz := 1) (by kernel_rfl) (by kernel_rfl) rfl rfl (by omega) (by omega) (by omega)) ?_
      refine XA.dA 4 rfl rfl rfl (does_load (by kernel_rfl) rfl (by first | exact Rd.anyB (dd _ (by omega)) | exact Rd.ld)) ?_
      refine XA.dA 5 rfl rfl rfl (does_rem rfl rfl (by omega) (rem_in (by omega))) ?_
      refine XA.dA 6 rfl rfl rfl (does_move rfl) ?_
      refine XA.dA 7 rfl rfl rfl (does_move rfl) ?_
      refine XA.dA 8 rfl rfl rfl (does_add rfl rfl (wrap_in (by omega))) ?_
      refine XA.dA 9 rfl rfl rfl (does_at (40 + dm.length) (40 + dm.length) (el := 3) (sz := 1) (by kernel_rfl) (by kernel_rfl) rfl rfl (by omega) (by omega) (by omega)) ?_
      refine XA.dA 10 rfl rfl rfl (does_load (by kernel_rfl) rfl (by first | exact Rd.anyB (dd _ (by omega)) | exact Rd.ld)) ?_
      refine XA.dA 11 rfl rfl rfl (does_quo rfl rfl (by omega) (quo_in (by omega) (by omega) (by omega))) ?_
      refine XA.dA 12 rfl rfl rfl (does_rem rfl rfl (by omega) (rem_in (by omega))) ?_
      refine XA.dA 13 rfl rfl rfl (does_eql rfl rfl) ?_
      refine XA.dA 14 rfl rfl rfl (does_buildS (zs := [.int .i64 0, .int .i64 0, .bool false]) (L := [(0, 1), (1, 1), (2, 1)]) (zeroB_of (by kernel_rfl)) (by kernel_rfl) rfl (by simp [fillL, setN, Value.cells]; rfl)) ?_
      refine XA.next 15 rfl (by kernel_rfl) ?_
      refine xk_alloc (cs := [.int .i64 0, .int .i64 0, .bool false]) (zeroB_of (by kernel_rfl)) (by decide) fun g9 => ?_
      refine XA.bk ?_
      refine XA.next 16 rfl (by kernel_rfl) ?_
      refine xk_stN rfl rfl ?_; simp only [putN, Value.cells, List.set, List.take, List.drop, List.nil_append, List.append_nil, List.length_cons, List.length_nil, List.cons_append, Nat.reduceAdd]
      refine XA.bt ?_
      refine XA.done (by kernel_rfl) ?_
      refine XK.norm ?_
      refine XK.cut (fun e R H => ∃ ab : Int, (ab = -1 ∨ (0 ≤ ab ∧ ab < dm.length)) ∧ e = [(12, .pointer (some ⟨g9, 0, none⟩)), (11, .int .i64 dm.length), (6, .pointer (some ⟨g4, 0, none⟩)), (4, .slice (some ⟨g2, 0, none⟩) 120 120), (2, .pointer (some ⟨g1, 0, none⟩))] ∧ R = [q, all w] ∧ H = [HP.blk g9 75 [.int .i64 ab, .int .i64 (dv ds (40 + dm.length) % 4), .bool (decide (dv ds (40 + dm.length) / 4 % 2 = 1))], HP.blk g4 29 [.slice A1 cs.length c1, .slice A2 dm.length c2, .slice none 0 0, .slice none 0 0], HP.own 75 3 (.slice A2 dm.length c2) dm.length rows2.flatten, HP.own 118 6 (.slice A1 cs.length c1) cs.length rows1.flatten, HP.blk g2 3 (intCells ds), HP.blk g1 29 [.slice none 0 0, .slice none 0 0, .slice none 0 0, .slice none 0 0]]) ?_ ?_
      ·
        refine XK.seq ?_
        refine XK.region ?_
        refine xk_move rfl (by decide) ?_
        refine xk_gtr rfl rfl (by decide) ?_
        refine xk_move rfl (by decide) ?_
        refine xk_split (t := 172) rfl (fun hg => ?_) (fun hg => ?_)
        ·
          refine xk_guardT rfl rfl ?_; refine xk_move rfl (by decide) ?_
          refine xk_guardT rfl rfl ?_; refine xk_move rfl (by decide) ?_
          refine xk_guardT rfl rfl ?_; refine xk_add rfl rfl (wrap_in (by omega)) (by decide) ?_
          refine xk_guardT rfl rfl ?_; refine xk_at (44 + dm.length) (44 + dm.length) (el := 3) (sz := 1) (by kernel_rfl) (by kernel_rfl) rfl rfl (by omega) (by omega) (by omega) (by decide) ?_
          refine xk_guardT rfl rfl ?_; refine xk_load (by kernel_rfl) rfl (by first | exact Rd.anyB (dd _ (by omega)) | exact Rd.ld) (by decide) ?_
          refine xk_guardT rfl rfl ?_; refine xk_rem rfl rfl (by omega) (rem_in (by omega)) (by decide) ?_
          refine xk_guardT rfl rfl ?_; refine xk_gtr rfl rfl (by decide) ?_
          (first | refine xk_pickT rfl rfl (by decide) ?_ | refine xk_pickF rfl rfl (by decide) ?_)
          refine XK.nilN ?_
          refine XK.if_ rfl (fun h => ?_) (fun h => ?_)
          ·
            refine XK.region ?_
            refine xk_move rfl (by decide) ?_
            refine xk_move rfl (by decide) ?_
            refine xk_add rfl rfl (wrap_in (by omega)) (by decide) ?_
            refine xk_at (44 + dm.length) (44 + dm.length) (el := 3) (sz := 1) (by kernel_rfl) (by kernel_rfl) rfl rfl (by omega) (by omega) (by omega) (by decide) ?_
            refine xk_load (by kernel_rfl) rfl (by first | exact Rd.anyB (dd _ (by omega)) | exact Rd.ld) (by decide) ?_
            refine xk_quo rfl rfl (by omega) (quo_in (by omega) (by omega) (by omega)) (by decide) ?_
            refine xk_move rfl (by decide) ?_
            refine xk_rem rfl rfl (by omega) (rem_in (by omega)) (by decide) ?_
            refine xk_field (off := 0) (by kernel_rfl) rfl (by decide) ?_
            refine xk_st rfl rfl ?_; dsimp only [List.set]
            refine XK.nilN ?_
            exact XK.envS [(12, .pointer (some ⟨g9, 0, none⟩)), (11, .int .i64 dm.length), (6, .pointer (some ⟨g4, 0, none⟩)), (4, .slice (some ⟨g2, 0, none⟩) 120 120), (2, .pointer (some ⟨g1, 0, none⟩))] (XK.meet ⟨dv ds (44 + dm.length) / 3 % dm.length, .inr (emod_bd _ hg), rfl, rfl, rfl⟩)
          ·
            refine XK.skip ?_
            refine XK.norm ?_
            exact XK.envS [(12, .pointer (some ⟨g9, 0, none⟩)), (11, .int .i64 dm.length), (6, .pointer (some ⟨g4, 0, none⟩)), (4, .slice (some ⟨g2, 0, none⟩) 120 120), (2, .pointer (some ⟨g1, 0, none⟩))] (XK.meet ⟨-1, .inl rfl, rfl, rfl, rfl⟩)
        ·
          refine xk_guardF rfl rfl rfl (by decide) ?_
          refine xk_guardF rfl rfl rfl (by decide) ?_
          refine xk_guardF rfl rfl rfl (by decide) ?_
          refine xk_guardF rfl rfl rfl (by decide) ?_
          refine xk_guardF rfl rfl rfl (by decide) ?_
          refine xk_guardF rfl rfl rfl (by decide) ?_
          refine xk_guardF rfl rfl rfl (by decide) ?_
          (first | refine xk_pickT rfl rfl (by decide) ?_ | refine xk_pickF rfl rfl (by decide) ?_)
          refine XK.nilN ?_
          refine XK.cond rfl (fun h => by cases h) (fun _ => ?_)
          refine XK.skip ?_
          refine XK.norm ?_
          exact XK.envS [(12, .pointer (some ⟨g9, 0, none⟩)), (11, .int .i64 dm.length), (6, .pointer (some ⟨g4, 0, none⟩)), (4, .slice (some ⟨g2, 0, none⟩) 120 120), (2, .pointer (some ⟨g1, 0, none⟩))] (XK.meet ⟨-1, .inl rfl, rfl, rfl, rfl⟩)
      rintro _ _ _ ⟨ab, hab, rfl, rfl, rfl⟩
      refine XK.region ?_
      refine xk_field (off := 1) (by kernel_rfl) rfl (by decide) ?_
      refine xk_load (by kernel_rfl) rfl (by first | exact Rd.anyB (dd _ (by omega)) | exact Rd.ld) (by decide) ?_
      refine xk_ldN 3 rfl ?_
      refine xk_slice (el := 75) (sz := 3) (zs := [.int .i64 0, .int .i64 0, .bool false]) (by kernel_rfl) (zeroB_of (by kernel_rfl)) (by kernel_rfl) rfl (by decide) (by decide) rfl (by simp [fillL, setN, Value.cells, List.range_succ, List.set]; rfl) (by decide) fun g10 => ?_
      refine xk_appendT 3 3 24 1 (n' := dm.length + 1) (el := 75) (by kernel_rfl) (by kernel_rfl) (by decide) rfl rfl rfl (sl_blk 0 rfl rfl) (by simp [Value.oneCell']) rfl (by omega) (by omega) (by decide) fun A2n c2n => ?_
      refine xk_field (off := 1) (by kernel_rfl) rfl (by decide) ?_
      refine xk_st rfl rfl ?_; dsimp only [List.set]
      refine XK.nilN ?_
      refine XK.region ?_
      refine xk_move rfl (by decide) ?_
      refine xk_add rfl rfl (wrap_in (by omega)) (by decide) ?_
      refine xk_assign rfl (by decide) ?_
      refine XK.nilN ?_
      exact XK.weak [2, 3, 4, 5, 6] rfl (by decide) (fun _ h => h) (XK.envS [(11, .int .i64 (dm.length + 1)), (6, .pointer (some ⟨g4, 0, none⟩)), (4, .slice (some ⟨g2, 0, none⟩) 120 120), (2, .pointer (some ⟨g1, 0, none⟩))] (XK.round (5 - (dm.length + 1)) (by omega) ⟨dm ++ [⟨ab, dv ds (40 + dm.length) % 4, decide (dv ds (40 + dm.length) / 4 % 2 = 1)⟩], A2n, c2n, rows2 ++ [_], by simp; omega, by simp, hdf.snoc ⟨hab, by dsimp only; omega, by dsimp only; omega⟩, hdr.snoc (r := [.int .i64 ab, .int .i64 (dv ds (40 + dm.length) % 4), .bool (decide (dv ds (40 + dm.length) / 4 % 2 = 1))]) rfl rfl, by simp, rfl, by simp⟩))
    ·
      refine XK.exit ?_
      refine XK.norm ?_
      exact XK.envS [(6, .pointer (some ⟨g4, 0, none⟩)), (4, .slice (some ⟨g2, 0, none⟩) 120 120), (2, .pointer (some ⟨g1, 0, none⟩))] (XK.meet ⟨dm, A2, c2, rows2, by omega, by omega, hdf, hdr, rfl, rfl, rfl⟩)
  rintro _ _ _ ⟨dm, A2, c2, rows2, hd1, hd4, hdf, hdr, rfl, rfl, rfl⟩
  refine XK.cut (fun e R H => ∃ (rs : List Int) (A3 : Option Addr) (c3 : Nat) (rows3 : List (List Value)), 1 ≤ rs.length ∧ rs.length ≤ 3 ∧ (∀ r ∈ rs, 0 ≤ r ∧ r ≤ 3) ∧ Rows RstR 1 rs rows3 ∧ e = [(6, .pointer (some ⟨g4, 0, none⟩)), (4, .slice (some ⟨g2, 0, none⟩) 120 120), (2, .pointer (some ⟨g1, 0, none⟩))] ∧ R = [q, all w] ∧ H = [HP.blk g4 29 [.slice A1 cs.length c1, .slice A2 dm.length c2, .slice A3 rs.length c3, .slice none 0 0], HP.own 120 1 (.slice A3 rs.length c3) rs.length rows3.flatten, HP.own 75 3 (.slice A2 dm.length c2) dm.length rows2.flatten, HP.own 118 6 (.slice A1 cs.length c1) cs.length rows1.flatten, HP.blk g2 3 (intCells ds), HP.blk g1 29 [.slice none 0 0, .slice none 0 0, .slice none 0 0, .slice none 0 0]]) ?_ ?_
  ·
    refine XK.seq ?_
    refine XK.region ?_
    refine xk_assign rfl (by decide) ?_
    refine XK.nilN ?_
    refine XK.nilrow 120 1 ?_
    refine XK.weak [1, 0, 2, 3, 4, 5] rfl (by decide) (fun _ h => h) ?_
    refine XK.envS [(13, .int .i64 0), (6, .pointer (some ⟨g4, 0, none⟩)), (4, .slice (some ⟨g2, 0, none⟩) 120 120), (2, .pointer (some ⟨g1, 0, none⟩))] ?_
    refine XK.block ?_
    refine XK.loop (fun m e R H => ∃ (rs : List Int) (A3 : Option Addr) (c3 : Nat) (rows3 : List (List Value)), (rs.length : Int) ≤ 1 + dv ds 3 % 3 ∧ m = 4 - rs.length ∧ (∀ r ∈ rs, 0 ≤ r ∧ r ≤ 3) ∧ Rows RstR 1 rs rows3 ∧ e = [(13, .int .i64 rs.length), (6, .pointer (some ⟨g4, 0, none⟩)), (4, .slice (some ⟨g2, 0, none⟩) 120 120), (2, .pointer (some ⟨g1, 0, none⟩))] ∧ R = [q, all w] ∧ H = [HP.blk g4 29 [.slice A1 cs.length c1, .slice A2 dm.length c2, .slice A3 rs.length c3, .slice none 0 0], HP.own 120 1 (.slice A3 rs.length c3) rs.length rows3.flatten, HP.own 75 3 (.slice A2 dm.length c2) dm.length rows2.flatten, HP.own 118 6 (.slice A1 cs.length c1) cs.length rows1.flatten, HP.blk g2 3 (intCells ds), HP.blk g1 29 [.slice none 0 0, .slice none 0 0, .slice none 0 0, .slice none 0 0]]) 4 ⟨[], none, 0, [], by simp; omega, rfl, by simp, trivial, rfl, rfl, rfl⟩ fun m e R H hI => ?_
    obtain ⟨rs, A3, c3, rows3, hk, rfl, hrf, hrr, rfl, rfl, rfl⟩ := hI
    refine XK.seq ?_
    refine XK.seq ?_
    refine XK.region ?_
    refine xk_move rfl (by decide) ?_
    refine xk_move rfl (by decide) ?_
    refine xk_at 3 3 (el := 3) (sz := 1) (by kernel_rfl) (by kernel_rfl) rfl rfl (by rfl) (by omega) (by omega) (by decide) ?_
    refine xk_load (by kernel_rfl) rfl (by first | exact Rd.anyB (dd _ (by omega)) | exact Rd.ld) (by decide) ?_
    refine xk_rem rfl rfl (by omega) (rem_in (by omega)) (by decide) ?_
    refine xk_add rfl rfl (wrap_in (by omega)) (by decide) ?_
    refine xk_lss rfl rfl (by decide) ?_
    refine XK.nilN ?_
    refine XK.if_ rfl (fun h => ?_) (fun h => ?_)
    ·
      refine XK.skip ?_
      refine XK.norm ?_
      refine XK.seq ?_
      refine XK.block ?_
      have hk2 : rs.length < 3 := by omega
      have p1 := hd.bd (50 + rs.length)
      refine XK.draw 10 (by kernel_rfl) (by kernel_rfl) ?_
      refine XA.dA 0 rfl rfl rfl (does_field (off := 2) (by kernel_rfl) rfl) ?_
      refine XA.dA 1 rfl rfl rfl (does_load (by kernel_rfl) rfl (by first | exact Rd.anyB (dd _ (by omega)) | exact Rd.ld)) ?_
      refine XA.dA 2 rfl rfl rfl (does_move rfl) ?_
      refine XA.dA 3 rfl rfl rfl (does_move rfl) ?_
      refine XA.dA 4 rfl rfl rfl (does_add rfl rfl (wrap_in (by omega))) ?_
      refine XA.dA 5 rfl rfl rfl (does_at (50 + rs.length) (50 + rs.length) (el := 3) (sz := 1) (by kernel_rfl) (by kernel_rfl) rfl rfl (by omega) (by omega) (by omega)) ?_
      refine XA.dA 6 rfl rfl rfl (does_load (by kernel_rfl) rfl (by first | exact Rd.anyB (dd _ (by omega)) | exact Rd.ld)) ?_
      refine XA.dA 7 rfl rfl rfl (does_rem rfl rfl (by omega) (rem_in (by omega))) ?_
      refine XA.dA 8 rfl rfl rfl (does_buildS (zs := [.int .i64 0]) (L := [(0, 1)]) (zeroB_of (by kernel_rfl)) (by kernel_rfl) rfl (by simp [fillL, setN, Value.cells]; rfl)) ?_
      refine XA.next 9 rfl (by kernel_rfl) ?_
      refine xk_slice (el := 120) (sz := 1) (zs := [.int .i64 0]) (by kernel_rfl) (zeroB_of (by kernel_rfl)) (by kernel_rfl) rfl (by decide) (by decide) rfl (by simp [fillL, setN, Value.cells, List.range_succ, List.set]; rfl) (by decide) fun g11 => ?_
      refine XA.bk ?_
      refine XA.next 10 rfl (by kernel_rfl) ?_
      refine xk_appendT 2 1 8 1 (n' := rs.length + 1) (el := 120) (by kernel_rfl) (by kernel_rfl) (by decide) rfl rfl rfl (sl_blk 0 rfl rfl) (by simp [Value.oneCell']) rfl (by omega) (by omega) (by decide) fun A3n c3n => ?_
      refine XA.bt ?_
      refine XA.next 11 rfl (by kernel_rfl) ?_
      refine xk_field (off := 2) (by kernel_rfl) rfl (by decide) ?_
      refine XA.bt ?_
      refine XA.next 12 rfl (by kernel_rfl) ?_
      refine xk_st rfl rfl ?_; dsimp only [List.set]
      refine XA.bt ?_
      refine XA.done (by kernel_rfl) ?_
      refine XK.norm ?_
      refine XK.region ?_
      refine xk_move rfl (by decide) ?_
      refine xk_add rfl rfl (wrap_in (by omega)) (by decide) ?_
      refine xk_assign rfl (by decide) ?_
      refine XK.nilN ?_
      exact XK.weak [1, 2, 3, 4, 5, 6] rfl (by decide) (fun _ h => h) (XK.envS [(13, .int .i64 (rs.length + 1)), (6, .pointer (some ⟨g4, 0, none⟩)), (4, .slice (some ⟨g2, 0, none⟩) 120 120), (2, .pointer (some ⟨g1, 0, none⟩))] (XK.round (4 - (rs.length + 1)) (by omega) ⟨rs ++ [dv ds (50 + rs.length) % 4], A3n, c3n, rows3 ++ [_], by simp; omega, by simp, by intro r hr; simp at hr; rcases hr with hr | hr; exact hrf r hr; omega, hrr.snoc (r := [.int .i64 (dv ds (50 + rs.length) % 4)]) rfl rfl, by simp, rfl, by simp⟩))
    ·
      refine XK.exit ?_
      refine XK.norm ?_
      exact XK.envS [(6, .pointer (some ⟨g4, 0, none⟩)), (4, .slice (some ⟨g2, 0, none⟩) 120 120), (2, .pointer (some ⟨g1, 0, none⟩))] (XK.meet ⟨rs, A3, c3, rows3, by omega, by omega, hrf, hrr, rfl, rfl, rfl⟩)
  rintro _ _ _ ⟨rs, A3, c3, rows3, hr1, hr3, hrf, hrr, rfl, rfl, rfl⟩
  refine XK.cut (fun e R H => ∃ (vs : List Dev) (A4 : Option Addr) (c4 : Nat) (q : Piece) (rows4 : List (List Value)), 1 ≤ vs.length ∧ vs.length ≤ 4 ∧ Rows (ClkR (slq q)) 6 cs rows1 ∧ Fits (Dev.fit cs.length dm.length rs.length) vs ∧ Rows (DevR (slq q)) 6 vs rows4 ∧ Fresh w q ∧ e = [(6, .pointer (some ⟨g4, 0, none⟩)), (4, .slice (some ⟨g2, 0, none⟩) 120 120), (2, .pointer (some ⟨g1, 0, none⟩))] ∧ R = [q, all w] ∧ H = [HP.blk g4 29 [.slice A1 cs.length c1, .slice A2 dm.length c2, .slice A3 rs.length c3, .slice A4 vs.length c4], HP.own 78 6 (.slice A4 vs.length c4) vs.length rows4.flatten, HP.own 120 1 (.slice A3 rs.length c3) rs.length rows3.flatten, HP.own 75 3 (.slice A2 dm.length c2) dm.length rows2.flatten, HP.own 118 6 (.slice A1 cs.length c1) cs.length rows1.flatten, HP.blk g2 3 (intCells ds), HP.blk g1 29 [.slice none 0 0, .slice none 0 0, .slice none 0 0, .slice none 0 0]]) ?_ ?_
  ·
    refine XK.seq ?_
    refine XK.region ?_
    refine xk_assign rfl (by decide) ?_
    refine XK.nilN ?_
    refine XK.nilrow 78 6 ?_
    refine XK.weak [1, 0, 2, 3, 4, 5, 6] rfl (by decide) (fun _ h => h) ?_
    refine XK.envS [(14, .int .i64 0), (6, .pointer (some ⟨g4, 0, none⟩)), (4, .slice (some ⟨g2, 0, none⟩) 120 120), (2, .pointer (some ⟨g1, 0, none⟩))] ?_
    refine XK.block ?_
    refine XK.loop (fun m e R H => ∃ (vs : List Dev) (A4 : Option Addr) (c4 : Nat) (q : Piece) (rows4 : List (List Value)), (vs.length : Int) ≤ 1 + dv ds 4 % 4 ∧ m = 5 - vs.length ∧ Rows (ClkR (slq q)) 6 cs rows1 ∧ Fits (Dev.fit cs.length dm.length rs.length) vs ∧ Rows (DevR (slq q)) 6 vs rows4 ∧ Fresh w q ∧ e = [(14, .int .i64 vs.length), (6, .pointer (some ⟨g4, 0, none⟩)), (4, .slice (some ⟨g2, 0, none⟩) 120 120), (2, .pointer (some ⟨g1, 0, none⟩))] ∧ R = [q, all w] ∧ H = [HP.blk g4 29 [.slice A1 cs.length c1, .slice A2 dm.length c2, .slice A3 rs.length c3, .slice A4 vs.length c4], HP.own 78 6 (.slice A4 vs.length c4) vs.length rows4.flatten, HP.own 120 1 (.slice A3 rs.length c3) rs.length rows3.flatten, HP.own 75 3 (.slice A2 dm.length c2) dm.length rows2.flatten, HP.own 118 6 (.slice A1 cs.length c1) cs.length rows1.flatten, HP.blk g2 3 (intCells ds), HP.blk g1 29 [.slice none 0 0, .slice none 0 0, .slice none 0 0, .slice none 0 0]]) 5 ⟨[], none, 0, q, [], by simp; omega, rfl, hcr, Fits.nil _, trivial, hq, rfl, rfl, rfl⟩ fun m e R H hI => ?_
    obtain ⟨vs, A4, c4, q, rows4, hk, rfl, hcr, hvf, hvr, hq, rfl, rfl, rfl⟩ := hI
    refine XK.seq ?_
    refine XK.seq ?_
    refine XK.region ?_
    refine xk_move rfl (by decide) ?_
    refine xk_move rfl (by decide) ?_
    refine xk_at 4 4 (el := 3) (sz := 1) (by kernel_rfl) (by kernel_rfl) rfl rfl (by rfl) (by omega) (by omega) (by decide) ?_
    refine xk_load (by kernel_rfl) rfl (by first | exact Rd.anyB (dd _ (by omega)) | exact Rd.ld) (by decide) ?_
    refine xk_rem rfl rfl (by omega) (rem_in (by omega)) (by decide) ?_
    refine xk_add rfl rfl (wrap_in (by omega)) (by decide) ?_
    refine xk_lss rfl rfl (by decide) ?_
    refine XK.nilN ?_
    refine XK.if_ rfl (fun h => ?_) (fun h => ?_)
    ·
      refine XK.skip ?_
      refine XK.norm ?_
      refine XK.seq ?_
      refine XK.block ?_
      refine XK.seq ?_
      have hk2 : vs.length < 4 := by omega
      have p0 := hd.bd (60 + 12 * vs.length)
      have p1 := hd.bd (61 + 12 * vs.length)
      have p2 := hd.bd (62 + 12 * vs.length)
      have p3 := hd.bd (63 + 12 * vs.length)
      have p4 := hd.bd (64 + 12 * vs.length)
      have p9 := hd.bd (69 + 12 * vs.length)
      have p10 := hd.bd (70 + 12 * vs.length)
      have p11 := hd.bd (71 + 12 * vs.length)
      have q0 := emod_bd (dv ds (60 + 12 * vs.length)) (n := (cs.length : Int)) (by omega)
      have q1 := emod_bd (dv ds (61 + 12 * vs.length)) (n := (dm.length : Int)) (by omega)
      have q2 := emod_bd (dv ds (62 + 12 * vs.length)) (n := (rs.length : Int)) (by omega)
      refine XK.region ?_
      refine xk_move rfl (by decide) ?_
      refine xk_mul rfl rfl (wrap_in (by omega)) (by decide) ?_
      refine xk_add rfl rfl (wrap_in (by omega)) (by decide) ?_
      refine xk_assign rfl (by decide) ?_
      refine XK.nilN ?_
      refine XK.seq ?_
      refine XK.draw 35 (by kernel_rfl) (by kernel_rfl) ?_
      refine XA.dA 0 rfl rfl rfl (does_move rfl) ?_
      refine XA.dA 1 rfl rfl rfl (does_move rfl) ?_
      refine XA.dA 2 rfl rfl rfl (does_at (60 + 12 * vs.length) (60 + 12 * vs.length) (el := 3) (sz := 1) (by kernel_rfl) (by kernel_rfl) rfl rfl (by omega) (by omega) (by omega)) ?_
      refine XA.dA 3 rfl rfl rfl (does_load (by kernel_rfl) rfl (by first | exact Rd.anyB (dd _ (by omega)) | exact Rd.ld)) ?_
      refine XA.dA 4 rfl rfl rfl (does_field (off := 0) (by kernel_rfl) rfl) ?_
      refine XA.dA 5 rfl rfl rfl (does_load (by kernel_rfl) rfl (by first | exact Rd.anyB (dd _ (by omega)) | exact Rd.ld)) ?_
      refine XA.dA 6 rfl rfl rfl (does_len (el := 118) (by kernel_rfl) rfl) ?_
      refine XA.dA 7 rfl rfl rfl (does_rem rfl rfl (by omega) (rem_in (by omega))) ?_
      refine XA.dA 8 rfl rfl rfl (does_move rfl) ?_
      refine XA.dA 9 rfl rfl rfl (does_move rfl) ?_
      refine XA.dA 10 rfl rfl rfl (does_add rfl rfl (wrap_in (by omega))) ?_
      refine XA.dA 11 rfl rfl rfl (does_at (61 + 12 * vs.length) (61 + 12 * vs.length) (el := 3) (sz := 1) (by kernel_rfl) (by kernel_rfl) rfl rfl (by omega) (by omega) (by omega)) ?_
      refine XA.dA 12 rfl rfl rfl (does_load (by kernel_rfl) rfl (by first | exact Rd.anyB (dd _ (by omega)) | exact Rd.ld)) ?_
      refine XA.dA 13 rfl rfl rfl (does_field (off := 1) (by kernel_rfl) rfl) ?_
      refine XA.dA 14 rfl rfl rfl (does_load (by kernel_rfl) rfl (by first | exact Rd.anyB (dd _ (by omega)) | exact Rd.ld)) ?_
      refine XA.dA 15 rfl rfl rfl (does_len (el := 75) (by kernel_rfl) rfl) ?_
      refine XA.dA 16 rfl rfl rfl (does_rem rfl rfl (by omega) (rem_in (by omega))) ?_
      refine XA.dA 17 rfl rfl rfl (does_move rfl) ?_
      refine XA.dA 18 rfl rfl rfl (does_move rfl) ?_
      refine XA.dA 19 rfl rfl rfl (does_add rfl rfl (wrap_in (by omega))) ?_
      refine XA.dA 20 rfl rfl rfl (does_at (62 + 12 * vs.length) (62 + 12 * vs.length) (el := 3) (sz := 1) (by kernel_rfl) (by kernel_rfl) rfl rfl (by omega) (by omega) (by omega)) ?_
      refine XA.dA 21 rfl rfl rfl (does_load (by kernel_rfl) rfl (by first | exact Rd.anyB (dd _ (by omega)) | exact Rd.ld)) ?_
      refine XA.dA 22 rfl rfl rfl (does_field (off := 2) (by kernel_rfl) rfl) ?_
      refine XA.dA 23 rfl rfl rfl (does_load (by kernel_rfl) rfl (by first | exact Rd.anyB (dd _ (by omega)) | exact Rd.ld)) ?_
      refine XA.dA 24 rfl rfl rfl (does_len (el := 120) (by kernel_rfl) rfl) ?_
      refine XA.dA 25 rfl rfl rfl (does_rem rfl rfl (by omega) (rem_in (by omega))) ?_
      refine XA.dA 26 rfl rfl rfl (does_move rfl) ?_
      refine XA.dA 27 rfl rfl rfl (does_move rfl) ?_
      refine XA.dA 28 rfl rfl rfl (does_add rfl rfl (wrap_in (by omega))) ?_
      refine XA.dA 29 rfl rfl rfl (does_at (63 + 12 * vs.length) (63 + 12 * vs.length) (el := 3) (sz := 1) (by kernel_rfl) (by kernel_rfl) rfl rfl (by omega) (by omega) (by omega)) ?_
      refine XA.dA 30 rfl rfl rfl (does_load (by kernel_rfl) rfl (by first | exact Rd.anyB (dd _ (by omega)) | exact Rd.ld)) ?_
      refine XA.dA 31 rfl rfl rfl (does_rem rfl rfl (by omega) (rem_in (by omega))) ?_
      refine XA.dA 32 rfl rfl rfl (does_conv (ds := .int .i64) (by kernel_rfl) (by kernel_rfl) rfl (wrap_u32 (by omega))) ?_
      refine XA.dA 33 rfl rfl rfl (does_buildS (zs := [.int .i64 0, .int .i64 0, .int .i64 0, .int .u32 0, .slice none 0 0, .slice none 0 0]) (L := [(0, 1), (1, 1), (2, 1), (3, 1), (4, 1), (5, 1)]) (zeroB_of (by kernel_rfl)) (by kernel_rfl) rfl (by simp [fillL, setN, Value.cells]; rfl)) ?_
      refine XA.next 34 rfl (by kernel_rfl) ?_
      refine xk_alloc (cs := [.int .i64 0, .int .i64 0, .int .i64 0, .int .u32 0, .slice none 0 0, .slice none 0 0]) (zeroB_of (by kernel_rfl)) (by decide) fun g12 => ?_
      refine XA.bk ?_
      refine XA.next 35 rfl (by kernel_rfl) ?_
      refine xk_stN rfl rfl ?_; simp only [putN, Value.cells, List.set, List.take, List.drop, List.nil_append, List.append_nil, List.length_cons, List.length_nil, List.cons_append, Nat.reduceAdd]
      refine XA.bt ?_
      refine XA.done (by kernel_rfl) ?_
      refine XK.norm ?_
      refine XK.cut (fun e R H => ∃ (rg : List Rg) (A5 : Option Addr) (c5 : Nat), rg.length ≤ 4 ∧ (∀ r ∈ rg, 0 ≤ r.reset ∧ r.reset ≤ 6) ∧ e = [(16, .pointer (some ⟨g12, 0, none⟩)), (15, .int .i64 (60 + 12 * vs.length)), (14, .int .i64 vs.length), (6, .pointer (some ⟨g4, 0, none⟩)), (4, .slice (some ⟨g2, 0, none⟩) 120 120), (2, .pointer (some ⟨g1, 0, none⟩))] ∧ R = [q, all w] ∧ H = [HP.blk g12 78 [.int .i64 (dv ds (60 + 12 * vs.length) % cs.length), .int .i64 (dv ds (61 + 12 * vs.length) % dm.length), .int .i64 (dv ds (62 + 12 * vs.length) % rs.length), .int .u32 (dv ds (63 + 12 * vs.length) % 3), .slice A5 rg.length c5, .slice none 0 0], HP.own 92 2 (.slice A5 rg.length c5) rg.length (rg.flatMap Rg.cells), HP.blk g4 29 [.slice A1 cs.length c1, .slice A2 dm.length c2, .slice A3 rs.length c3, .slice A4 vs.length c4], HP.own 78 6 (.slice A4 vs.length c4) vs.length rows4.flatten, HP.own 120 1 (.slice A3 rs.length c3) rs.length rows3.flatten, HP.own 75 3 (.slice A2 dm.length c2) dm.length rows2.flatten, HP.own 118 6 (.slice A1 cs.length c1) cs.length rows1.flatten, HP.blk g2 3 (intCells ds), HP.blk g1 29 [.slice none 0 0, .slice none 0 0, .slice none 0 0, .slice none 0 0]]) ?_ ?_
      ·
        refine XK.seq ?_
        refine XK.region ?_
        refine xk_assign rfl (by decide) ?_
        refine XK.nilN ?_
        refine XK.nilrow 92 2 ?_
        refine XK.weak [1, 0, 2, 3, 4, 5, 6, 7, 8] rfl (by decide) (fun _ h => h) ?_
        refine XK.envS [(17, .int .i64 0), (16, .pointer (some ⟨g12, 0, none⟩)), (15, .int .i64 (60 + 12 * vs.length)), (14, .int .i64 vs.length), (6, .pointer (some ⟨g4, 0, none⟩)), (4, .slice (some ⟨g2, 0, none⟩) 120 120), (2, .pointer (some ⟨g1, 0, none⟩))] ?_
        refine XK.block ?_
        refine XK.loop (fun m e R H => ∃ (rg : List Rg) (A5 : Option Addr) (c5 : Nat), (rg.length : Int) ≤ dv ds (64 + 12 * vs.length) % 5 ∧ m = 5 - rg.length ∧ (∀ r ∈ rg, 0 ≤ r.reset ∧ r.reset ≤ 6) ∧ e = [(17, .int .i64 rg.length), (16, .pointer (some ⟨g12, 0, none⟩)), (15, .int .i64 (60 + 12 * vs.length)), (14, .int .i64 vs.length), (6, .pointer (some ⟨g4, 0, none⟩)), (4, .slice (some ⟨g2, 0, none⟩) 120 120), (2, .pointer (some ⟨g1, 0, none⟩))] ∧ R = [q, all w] ∧ H = [HP.blk g12 78 [.int .i64 (dv ds (60 + 12 * vs.length) % cs.length), .int .i64 (dv ds (61 + 12 * vs.length) % dm.length), .int .i64 (dv ds (62 + 12 * vs.length) % rs.length), .int .u32 (dv ds (63 + 12 * vs.length) % 3), .slice A5 rg.length c5, .slice none 0 0], HP.own 92 2 (.slice A5 rg.length c5) rg.length (rg.flatMap Rg.cells), HP.blk g4 29 [.slice A1 cs.length c1, .slice A2 dm.length c2, .slice A3 rs.length c3, .slice A4 vs.length c4], HP.own 78 6 (.slice A4 vs.length c4) vs.length rows4.flatten, HP.own 120 1 (.slice A3 rs.length c3) rs.length rows3.flatten, HP.own 75 3 (.slice A2 dm.length c2) dm.length rows2.flatten, HP.own 118 6 (.slice A1 cs.length c1) cs.length rows1.flatten, HP.blk g2 3 (intCells ds), HP.blk g1 29 [.slice none 0 0, .slice none 0 0, .slice none 0 0, .slice none 0 0]]) 5 ⟨[], none, 0, by simp; omega, rfl, by simp, rfl, rfl, rfl⟩ fun m e R H hI => ?_
        obtain ⟨rg, A5, c5, hj, rfl, hgf, rfl, rfl, rfl⟩ := hI
        refine XK.seq ?_
        refine XK.seq ?_
        refine XK.region ?_
        refine xk_move rfl (by decide) ?_
        refine xk_move rfl (by decide) ?_
        refine xk_move rfl (by decide) ?_
        refine xk_add rfl rfl (wrap_in (by omega)) (by decide) ?_
        refine xk_at (64 + 12 * vs.length) (64 + 12 * vs.length) (el := 3) (sz := 1) (by kernel_rfl) (by kernel_rfl) rfl rfl (by omega) (by omega) (by omega) (by decide) ?_
        refine xk_load (by kernel_rfl) rfl (by first | exact Rd.anyB (dd _ (by omega)) | exact Rd.ld) (by decide) ?_
        refine xk_rem rfl rfl (by omega) (rem_in (by omega)) (by decide) ?_
        refine xk_lss rfl rfl (by decide) ?_
        refine XK.nilN ?_
        refine XK.if_ rfl (fun h => ?_) (fun h => ?_)
        ·
          refine XK.skip ?_
          refine XK.norm ?_
          refine XK.seq ?_
          refine XK.block ?_
          have hj2 : rg.length < 4 := by omega
          have r1 := hd.bd (65 + 12 * vs.length + rg.length)
          refine XK.draw 23 (by kernel_rfl) (by kernel_rfl) ?_
          refine XA.dA 0 rfl rfl rfl (does_field (off := 4) (by kernel_rfl) rfl) ?_
          refine XA.dA 1 rfl rfl rfl (does_load (by kernel_rfl) rfl (by first | exact Rd.anyB (dd _ (by omega)) | exact Rd.ld)) ?_
          refine XA.dA 2 rfl rfl rfl (does_move rfl) ?_
          refine XA.dA 3 rfl rfl rfl (does_move rfl) ?_
          refine XA.dA 4 rfl rfl rfl (does_add rfl rfl (wrap_in (by omega))) ?_
          refine XA.dA 5 rfl rfl rfl (does_move rfl) ?_
          refine XA.dA 6 rfl rfl rfl (does_add rfl rfl (wrap_in (by omega))) ?_
          refine XA.dA 7 rfl rfl rfl (does_at (65 + 12 * vs.length + rg.length) (65 + 12 * vs.length + rg.length) (el := 3) (sz := 1) (by kernel_rfl) (by kernel_rfl) rfl rfl (by omega) (by omega) (by omega)) ?_
          refine XA.dA 8 rfl rfl rfl (does_load (by kernel_rfl) rfl (by first | exact Rd.anyB (dd _ (by omega)) | exact Rd.ld)) ?_
          refine XA.dA 9 rfl rfl rfl (does_rem rfl rfl (by omega) (rem_in (by omega))) ?_
          refine XA.dA 10 rfl rfl rfl (does_conv (ds := .int .i64) (by kernel_rfl) (by kernel_rfl) rfl (wrap_u32 (by omega))) ?_
          refine XA.dA 11 rfl rfl rfl (does_move rfl) ?_
          refine XA.dA 12 rfl rfl rfl (does_move rfl) ?_
          refine XA.dA 13 rfl rfl rfl (does_add rfl rfl (wrap_in (by omega))) ?_
          refine XA.dA 14 rfl rfl rfl (does_move rfl) ?_
          refine XA.dA 15 rfl rfl rfl (does_add rfl rfl (wrap_in (by omega))) ?_
          refine XA.dA 16 rfl rfl rfl (does_at (65 + 12 * vs.length + rg.length) (65 + 12 * vs.length + rg.length) (el := 3) (sz := 1) (by kernel_rfl) (by kernel_rfl) rfl rfl (by omega) (by omega) (by omega)) ?_
          refine XA.dA 17 rfl rfl rfl (does_load (by kernel_rfl) rfl (by first | exact Rd.anyB (dd _ (by omega)) | exact Rd.ld)) ?_
          refine XA.dA 18 rfl rfl rfl (does_quo rfl rfl (by omega) (quo_in (by omega) (by omega) (by omega))) ?_
          refine XA.dA 19 rfl rfl rfl (does_rem rfl rfl (by omega) (rem_in (by omega))) ?_
          refine XA.dA 20 rfl rfl rfl (does_eql rfl rfl) ?_
          refine XA.dA 21 rfl rfl rfl (does_buildS (zs := [.int .u32 0, .bool false]) (L := [(0, 1), (1, 1)]) (zeroB_of (by kernel_rfl)) (by kernel_rfl) rfl (by simp [fillL, setN, Value.cells]; rfl)) ?_
          refine XA.next 22 rfl (by kernel_rfl) ?_
          refine xk_slice (el := 92) (sz := 2) (zs := [.int .u32 0, .bool false]) (by kernel_rfl) (zeroB_of (by kernel_rfl)) (by kernel_rfl) rfl (by decide) (by decide) rfl (by simp [fillL, setN, Value.cells, List.range_succ, List.set]; rfl) (by decide) fun g13 => ?_
          refine XA.bk ?_
          refine XA.next 23 rfl (by kernel_rfl) ?_
          refine xk_appendT 2 2 8 1 (n' := rg.length + 1) (el := 92) (by kernel_rfl) (by kernel_rfl) (by decide) rfl rfl rfl (sl_blk 0 rfl rfl) (by simp [Value.oneCell']) rfl (by omega) (by omega) (by decide) fun A5n c5n => ?_
          refine XA.bt ?_
          refine XA.next 24 rfl (by kernel_rfl) ?_
          refine xk_field (off := 4) (by kernel_rfl) rfl (by decide) ?_
          refine XA.bt ?_
          refine XA.next 25 rfl (by kernel_rfl) ?_
          refine xk_st rfl rfl ?_; dsimp only [List.set]
          refine XA.bt ?_
          refine XA.done (by kernel_rfl) ?_
          refine XK.norm ?_
          refine XK.region ?_
          refine xk_move rfl (by decide) ?_
          refine xk_add rfl rfl (wrap_in (by omega)) (by decide) ?_
          refine xk_assign rfl (by decide) ?_
          refine XK.nilN ?_
          exact XK.weak [1, 2, 3, 4, 5, 6, 7, 8, 9] rfl (by decide) (fun _ h => h) (XK.envS [(17, .int .i64 (rg.length + 1)), (16, .pointer (some ⟨g12, 0, none⟩)), (15, .int .i64 (60 + 12 * vs.length)), (14, .int .i64 vs.length), (6, .pointer (some ⟨g4, 0, none⟩)), (4, .slice (some ⟨g2, 0, none⟩) 120 120), (2, .pointer (some ⟨g1, 0, none⟩))] (XK.round (5 - (rg.length + 1)) (by omega) ⟨rg ++ [⟨dv ds (65 + 12 * vs.length + rg.length) % 7, decide (dv ds (65 + 12 * vs.length + rg.length) / 7 % 2 = 0)⟩], A5n, c5n, by simp; omega, by simp, by intro r hr; simp at hr; rcases hr with hr | hr; exact hgf r hr; subst hr; dsimp only; omega, by simp, rfl, by simp [Rg.cells]⟩))
        ·
          refine XK.exit ?_
          refine XK.norm ?_
          exact XK.envS [(16, .pointer (some ⟨g12, 0, none⟩)), (15, .int .i64 (60 + 12 * vs.length)), (14, .int .i64 vs.length), (6, .pointer (some ⟨g4, 0, none⟩)), (4, .slice (some ⟨g2, 0, none⟩) 120 120), (2, .pointer (some ⟨g1, 0, none⟩))] (XK.meet ⟨rg, A5, c5, by omega, hgf, rfl, rfl, rfl⟩)
      rintro _ _ _ ⟨rg, A5, c5, hg4, hgf, rfl, rfl, rfl⟩
      refine XK.nilrow 3 1 ?_
      refine XK.weak [1, 0, 2, 3, 4, 5, 6, 7, 8, 9] rfl (by decide) (fun _ h => h) ?_
      refine XK.cut (fun e R H => ∃ (nd : List Int) (A6 : Option Addr) (c6 : Nat), nd.length ≤ 1 ∧ (∀ f ∈ nd, 0 ≤ f ∧ f < vs.length) ∧ e = [(16, .pointer (some ⟨g12, 0, none⟩)), (15, .int .i64 (60 + 12 * vs.length)), (14, .int .i64 vs.length), (6, .pointer (some ⟨g4, 0, none⟩)), (4, .slice (some ⟨g2, 0, none⟩) 120 120), (2, .pointer (some ⟨g1, 0, none⟩))] ∧ R = [q, all w] ∧ H = [HP.blk g12 78 [.int .i64 (dv ds (60 + 12 * vs.length) % cs.length), .int .i64 (dv ds (61 + 12 * vs.length) % dm.length), .int .i64 (dv ds (62 + 12 * vs.length) % rs.length), .int .u32 (dv ds (63 + 12 * vs.length) % 3), .slice A5 rg.length c5, .slice A6 nd.length c6], HP.own 3 1 (.slice A6 nd.length c6) nd.length (intCells nd), HP.own 92 2 (.slice A5 rg.length c5) rg.length (rg.flatMap Rg.cells), HP.blk g4 29 [.slice A1 cs.length c1, .slice A2 dm.length c2, .slice A3 rs.length c3, .slice A4 vs.length c4], HP.own 78 6 (.slice A4 vs.length c4) vs.length rows4.flatten, HP.own 120 1 (.slice A3 rs.length c3) rs.length rows3.flatten, HP.own 75 3 (.slice A2 dm.length c2) dm.length rows2.flatten, HP.own 118 6 (.slice A1 cs.length c1) cs.length rows1.flatten, HP.blk g2 3 (intCells ds), HP.blk g1 29 [.slice none 0 0, .slice none 0 0, .slice none 0 0, .slice none 0 0]]) ?_ ?_
      ·
        refine XK.seq ?_
        refine XK.region ?_
        refine xk_move rfl (by decide) ?_
        refine xk_gtr rfl rfl (by decide) ?_
        refine xk_move rfl (by decide) ?_
        refine xk_split (t := 300) rfl (fun hg => ?_) (fun hg => ?_)
        ·
          refine xk_guardT rfl rfl ?_; refine xk_move rfl (by decide) ?_
          refine xk_guardT rfl rfl ?_; refine xk_move rfl (by decide) ?_
          refine xk_guardT rfl rfl ?_; refine xk_add rfl rfl (wrap_in (by omega)) (by decide) ?_
          refine xk_guardT rfl rfl ?_; refine xk_at (69 + 12 * vs.length) (69 + 12 * vs.length) (el := 3) (sz := 1) (by kernel_rfl) (by kernel_rfl) rfl rfl (by omega) (by omega) (by omega) (by decide) ?_
          refine xk_guardT rfl rfl ?_; refine xk_load (by kernel_rfl) rfl (by first | exact Rd.anyB (dd _ (by omega)) | exact Rd.ld) (by decide) ?_
          refine xk_guardT rfl rfl ?_; refine xk_rem rfl rfl (by omega) (rem_in (by omega)) (by decide) ?_
          refine xk_guardT rfl rfl ?_; refine xk_eql rfl rfl (by decide) ?_
          (first | refine xk_pickT rfl rfl (by decide) ?_ | refine xk_pickF rfl rfl (by decide) ?_)
          refine XK.nilN ?_
          refine XK.if_ rfl (fun h => ?_) (fun h => ?_)
          ·
            refine XK.draw 10 (by kernel_rfl) (by kernel_rfl) ?_
            refine XA.dA 0 rfl rfl rfl (does_field (off := 5) (by kernel_rfl) rfl) ?_
            refine XA.dA 1 rfl rfl rfl (does_load (by kernel_rfl) rfl (by first | exact Rd.anyB (dd _ (by omega)) | exact Rd.ld)) ?_
            refine XA.dA 2 rfl rfl rfl (does_move rfl) ?_
            refine XA.dA 3 rfl rfl rfl (does_move rfl) ?_
            refine XA.dA 4 rfl rfl rfl (does_add rfl rfl (wrap_in (by omega))) ?_
            refine XA.dA 5 rfl rfl rfl (does_at (70 + 12 * vs.length) (70 + 12 * vs.length) (el := 3) (sz := 1) (by kernel_rfl) (by kernel_rfl) rfl rfl (by omega) (by omega) (by omega)) ?_
            refine XA.dA 6 rfl rfl rfl (does_load (by kernel_rfl) rfl (by first | exact Rd.anyB (dd _ (by omega)) | exact Rd.ld)) ?_
            refine XA.dA 7 rfl rfl rfl (does_move rfl) ?_
            refine XA.dA 8 rfl rfl rfl (does_rem rfl rfl (by omega) (rem_in (by omega))) ?_
            refine XA.next 9 rfl (by kernel_rfl) ?_
            refine xk_slice (el := 3) (sz := 1) (zs := [.int .i64 0]) (by kernel_rfl) (zeroB_of (by kernel_rfl)) (by kernel_rfl) rfl (by decide) (by decide) rfl (by simp [fillL, setN, Value.cells, List.range_succ, List.set]; rfl) (by decide) fun g14 => ?_
            refine XA.bk ?_
            refine XA.next 10 rfl (by kernel_rfl) ?_
            refine xk_appendT 2 1 8 1 (n' := 1) (el := 3) (by kernel_rfl) (by kernel_rfl) (by decide) rfl rfl rfl (sl_blk 0 rfl rfl) (by simp [Value.oneCell']) rfl (by omega) (by omega) (by decide) fun A6 c6 => ?_
            refine XA.bt ?_
            refine XA.next 11 rfl (by kernel_rfl) ?_
            refine xk_field (off := 5) (by kernel_rfl) rfl (by decide) ?_
            refine XA.bt ?_
            refine XA.next 12 rfl (by kernel_rfl) ?_
            refine xk_st rfl rfl ?_; dsimp only [List.set]
            refine XA.bt ?_
            refine XA.done (by kernel_rfl) ?_
            refine XK.norm ?_
            exact XK.weak [1, 2, 3, 4, 5, 6, 7, 8, 9, 10] rfl (by decide) (by simp) (XK.envS [(16, .pointer (some ⟨g12, 0, none⟩)), (15, .int .i64 (60 + 12 * vs.length)), (14, .int .i64 vs.length), (6, .pointer (some ⟨g4, 0, none⟩)), (4, .slice (some ⟨g2, 0, none⟩) 120 120), (2, .pointer (some ⟨g1, 0, none⟩))] (XK.meet ⟨[dv ds (70 + 12 * vs.length) % vs.length], A6, c6, by simp, by intro f hf; simp at hf; subst hf; exact emod_bd _ hg, rfl, rfl, rfl⟩))
          ·
            refine XK.skip ?_
            refine XK.norm ?_
            exact XK.envS [(16, .pointer (some ⟨g12, 0, none⟩)), (15, .int .i64 (60 + 12 * vs.length)), (14, .int .i64 vs.length), (6, .pointer (some ⟨g4, 0, none⟩)), (4, .slice (some ⟨g2, 0, none⟩) 120 120), (2, .pointer (some ⟨g1, 0, none⟩))] (XK.meet ⟨[], none, 0, by simp, by simp, rfl, rfl, rfl⟩)
        ·
          refine xk_guardF rfl rfl rfl (by decide) ?_
          refine xk_guardF rfl rfl rfl (by decide) ?_
          refine xk_guardF rfl rfl rfl (by decide) ?_
          refine xk_guardF rfl rfl rfl (by decide) ?_
          refine xk_guardF rfl rfl rfl (by decide) ?_
          refine xk_guardF rfl rfl rfl (by decide) ?_
          refine xk_guardF rfl rfl rfl (by decide) ?_
          (first | refine xk_pickT rfl rfl (by decide) ?_ | refine xk_pickF rfl rfl (by decide) ?_)
          refine XK.nilN ?_
          refine XK.cond rfl (fun h => by cases h) (fun _ => ?_)
          refine XK.skip ?_
          refine XK.norm ?_
          exact XK.envS [(16, .pointer (some ⟨g12, 0, none⟩)), (15, .int .i64 (60 + 12 * vs.length)), (14, .int .i64 vs.length), (6, .pointer (some ⟨g4, 0, none⟩)), (4, .slice (some ⟨g2, 0, none⟩) 120 120), (2, .pointer (some ⟨g1, 0, none⟩))] (XK.meet ⟨[], none, 0, by simp, by simp, rfl, rfl, rfl⟩)
      rintro _ _ _ ⟨nd, A6, c6, hn1, hnf, rfl, rfl, rfl⟩
      refine XK.cut (fun e R H => ∃ (nd : List Int) (A6 : Option Addr) (c6 : Nat), nd.length ≤ 2 ∧ (∀ f ∈ nd, 0 ≤ f ∧ f < vs.length) ∧ e = [(16, .pointer (some ⟨g12, 0, none⟩)), (15, .int .i64 (60 + 12 * vs.length)), (14, .int .i64 vs.length), (6, .pointer (some ⟨g4, 0, none⟩)), (4, .slice (some ⟨g2, 0, none⟩) 120 120), (2, .pointer (some ⟨g1, 0, none⟩))] ∧ R = [q, all w] ∧ H = [HP.blk g12 78 [.int .i64 (dv ds (60 + 12 * vs.length) % cs.length), .int .i64 (dv ds (61 + 12 * vs.length) % dm.length), .int .i64 (dv ds (62 + 12 * vs.length) % rs.length), .int .u32 (dv ds (63 + 12 * vs.length) % 3), .slice A5 rg.length c5, .slice A6 nd.length c6], HP.own 3 1 (.slice A6 nd.length c6) nd.length (intCells nd), HP.own 92 2 (.slice A5 rg.length c5) rg.length (rg.flatMap Rg.cells), HP.blk g4 29 [.slice A1 cs.length c1, .slice A2 dm.length c2, .slice A3 rs.length c3, .slice A4 vs.length c4], HP.own 78 6 (.slice A4 vs.length c4) vs.length rows4.flatten, HP.own 120 1 (.slice A3 rs.length c3) rs.length rows3.flatten, HP.own 75 3 (.slice A2 dm.length c2) dm.length rows2.flatten, HP.own 118 6 (.slice A1 cs.length c1) cs.length rows1.flatten, HP.blk g2 3 (intCells ds), HP.blk g1 29 [.slice none 0 0, .slice none 0 0, .slice none 0 0, .slice none 0 0]]) ?_ ?_
      ·
        refine XK.seq ?_
        refine XK.region ?_
        refine xk_move rfl (by decide) ?_
        refine xk_gtr rfl rfl (by decide) ?_
        refine xk_move rfl (by decide) ?_
        refine xk_split (t := 323) rfl (fun hg => ?_) (fun hg => ?_)
        ·
          refine xk_guardT rfl rfl ?_; refine xk_move rfl (by decide) ?_
          refine xk_guardT rfl rfl ?_; refine xk_move rfl (by decide) ?_
          refine xk_guardT rfl rfl ?_; refine xk_add rfl rfl (wrap_in (by omega)) (by decide) ?_
          refine xk_guardT rfl rfl ?_; refine xk_at (71 + 12 * vs.length) (71 + 12 * vs.length) (el := 3) (sz := 1) (by kernel_rfl) (by kernel_rfl) rfl rfl (by omega) (by omega) (by omega) (by decide) ?_
          refine xk_guardT rfl rfl ?_; refine xk_load (by kernel_rfl) rfl (by first | exact Rd.anyB (dd _ (by omega)) | exact Rd.ld) (by decide) ?_
          refine xk_guardT rfl rfl ?_; refine xk_rem rfl rfl (by omega) (rem_in (by omega)) (by decide) ?_
          refine xk_guardT rfl rfl ?_; refine xk_eql rfl rfl (by decide) ?_
          (first | refine xk_pickT rfl rfl (by decide) ?_ | refine xk_pickF rfl rfl (by decide) ?_)
          refine XK.nilN ?_
          refine XK.if_ rfl (fun h => ?_) (fun h => ?_)
          ·
            refine XK.draw 11 (by kernel_rfl) (by kernel_rfl) ?_
            refine XA.dA 0 rfl rfl rfl (does_field (off := 5) (by kernel_rfl) rfl) ?_
            refine XA.dA 1 rfl rfl rfl (does_load (by kernel_rfl) rfl (by first | exact Rd.anyB (dd _ (by omega)) | exact Rd.ld)) ?_
            refine XA.dA 2 rfl rfl rfl (does_move rfl) ?_
            refine XA.dA 3 rfl rfl rfl (does_move rfl) ?_
            refine XA.dA 4 rfl rfl rfl (does_add rfl rfl (wrap_in (by omega))) ?_
            refine XA.dA 5 rfl rfl rfl (does_at (71 + 12 * vs.length) (71 + 12 * vs.length) (el := 3) (sz := 1) (by kernel_rfl) (by kernel_rfl) rfl rfl (by omega) (by omega) (by omega)) ?_
            refine XA.dA 6 rfl rfl rfl (does_load (by kernel_rfl) rfl (by first | exact Rd.anyB (dd _ (by omega)) | exact Rd.ld)) ?_
            refine XA.dA 7 rfl rfl rfl (does_quo rfl rfl (by omega) (quo_in (by omega) (by omega) (by omega))) ?_
            refine XA.dA 8 rfl rfl rfl (does_move rfl) ?_
            refine XA.dA 9 rfl rfl rfl (does_rem rfl rfl (by omega) (rem_in (by omega))) ?_
            refine XA.next 10 rfl (by kernel_rfl) ?_
            refine xk_slice (el := 3) (sz := 1) (zs := [.int .i64 0]) (by kernel_rfl) (zeroB_of (by kernel_rfl)) (by kernel_rfl) rfl (by decide) (by decide) rfl (by simp [fillL, setN, Value.cells, List.range_succ, List.set]; rfl) (by decide) fun g15 => ?_
            refine XA.bk ?_
            refine XA.next 11 rfl (by kernel_rfl) ?_
            refine xk_appendT 2 1 8 1 (n' := nd.length + 1) (el := 3) (by kernel_rfl) (by kernel_rfl) (by decide) rfl rfl rfl (sl_blk 0 rfl rfl) (by simp [Value.oneCell']) rfl (by omega) (by omega) (by decide) fun A6n c6n => ?_
            refine XA.bt ?_
            refine XA.next 12 rfl (by kernel_rfl) ?_
            refine xk_field (off := 5) (by kernel_rfl) rfl (by decide) ?_
            refine XA.bt ?_
            refine XA.next 13 rfl (by kernel_rfl) ?_
            refine xk_st rfl rfl ?_; dsimp only [List.set]
            refine XA.bt ?_
            refine XA.done (by kernel_rfl) ?_
            refine XK.norm ?_
            exact XK.weak [1, 2, 3, 4, 5, 6, 7, 8, 9, 10] rfl (by decide) (by simp) (XK.envS [(16, .pointer (some ⟨g12, 0, none⟩)), (15, .int .i64 (60 + 12 * vs.length)), (14, .int .i64 vs.length), (6, .pointer (some ⟨g4, 0, none⟩)), (4, .slice (some ⟨g2, 0, none⟩) 120 120), (2, .pointer (some ⟨g1, 0, none⟩))] (XK.meet ⟨nd ++ [dv ds (71 + 12 * vs.length) / 3 % vs.length], A6n, c6n, by simp; omega, by intro f hf; simp at hf; rcases hf with hf | hf; exact hnf f hf; subst hf; exact emod_bd _ (by omega), rfl, rfl, by simp [intCells]⟩))
          ·
            refine XK.skip ?_
            refine XK.norm ?_
            exact XK.envS [(16, .pointer (some ⟨g12, 0, none⟩)), (15, .int .i64 (60 + 12 * vs.length)), (14, .int .i64 vs.length), (6, .pointer (some ⟨g4, 0, none⟩)), (4, .slice (some ⟨g2, 0, none⟩) 120 120), (2, .pointer (some ⟨g1, 0, none⟩))] (XK.meet ⟨nd, A6, c6, by omega, hnf, rfl, rfl, rfl⟩)
        ·
          refine xk_guardF rfl rfl rfl (by decide) ?_
          refine xk_guardF rfl rfl rfl (by decide) ?_
          refine xk_guardF rfl rfl rfl (by decide) ?_
          refine xk_guardF rfl rfl rfl (by decide) ?_
          refine xk_guardF rfl rfl rfl (by decide) ?_
          refine xk_guardF rfl rfl rfl (by decide) ?_
          refine xk_guardF rfl rfl rfl (by decide) ?_
          (first | refine xk_pickT rfl rfl (by decide) ?_ | refine xk_pickF rfl rfl (by decide) ?_)
          refine XK.nilN ?_
          refine XK.cond rfl (fun h => by cases h) (fun _ => ?_)
          refine XK.skip ?_
          refine XK.norm ?_
          exact XK.envS [(16, .pointer (some ⟨g12, 0, none⟩)), (15, .int .i64 (60 + 12 * vs.length)), (14, .int .i64 vs.length), (6, .pointer (some ⟨g4, 0, none⟩)), (4, .slice (some ⟨g2, 0, none⟩) 120 120), (2, .pointer (some ⟨g1, 0, none⟩))] (XK.meet ⟨nd, A6, c6, by omega, hnf, rfl, rfl, rfl⟩)
      rintro _ _ _ ⟨nd, A6, c6, hn2b, hnf, rfl, rfl, rfl⟩
      refine XK.region ?_
      refine xk_field (off := 3) (by kernel_rfl) rfl (by decide) ?_
      refine xk_load (by kernel_rfl) rfl (by first | exact Rd.anyB (dd _ (by omega)) | exact Rd.ld) (by decide) ?_
      refine xk_ldN 6 rfl ?_
      refine xk_slice (el := 78) (sz := 6) (zs := [.int .i64 0, .int .i64 0, .int .i64 0, .int .u32 0, .slice none 0 0, .slice none 0 0]) (by kernel_rfl) (zeroB_of (by kernel_rfl)) (by kernel_rfl) rfl (by decide) (by decide) rfl (by simp [fillL, setN, Value.cells, List.range_succ, List.set]; rfl) (by decide) fun g16 => ?_
      refine xk_appendT 5 6 80 1 (n' := vs.length + 1) (el := 78) (by kernel_rfl) (by kernel_rfl) (by decide) rfl rfl rfl (sl_blk 0 rfl rfl) (by simp [Value.oneCell']) rfl (by omega) (by omega) (by decide) fun A4n c4n => ?_
      refine xk_field (off := 3) (by kernel_rfl) rfl (by decide) ?_
      refine xk_st rfl rfl ?_; dsimp only [List.set]
      refine XK.nilN ?_
      refine XK.region ?_
      refine xk_move rfl (by decide) ?_
      refine xk_add rfl rfl (wrap_in (by omega)) (by decide) ?_
      refine xk_assign rfl (by decide) ?_
      refine XK.nilN ?_
      refine XK.still [q] [2, 3] [4, 5, 6, 7, 8, 9, 10] (by simp) rfl (by decide) (by simp) fun qn hqf hql hqn => ?_
      have hle := hql q (by simp)
      have hq2 := hqn (by simp) (by simp; exact hq)
      have hs1 := SlS.own (hqf 3 _ (by simp) rfl)
      have hs2 := SlS.own (hqf 2 _ (by simp) rfl)
      exact XK.weak [0, 1, 2, 3, 4, 5, 6] rfl (by decide) (by simp) (XK.envS [(14, .int .i64 (vs.length + 1)), (6, .pointer (some ⟨g4, 0, none⟩)), (4, .slice (some ⟨g2, 0, none⟩) 120 120), (2, .pointer (some ⟨g1, 0, none⟩))] (XK.round (5 - (vs.length + 1)) (by omega) ⟨vs ++ [⟨dv ds (60 + 12 * vs.length) % cs.length, dv ds (61 + 12 * vs.length) % dm.length, dv ds (62 + 12 * vs.length) % rs.length, dv ds (63 + 12 * vs.length) % 3, rg, nd⟩], A4n, c4n, qn, rows4 ++ [_], by simp; omega, by simp, hcr.mono (fun c r => ClkR.mono (slq_le hle)), hvf.snoc ⟨q0.1, q0.2, q1.1, q1.2, q2.1, q2.2, by dsimp only; omega, by dsimp only; omega, hg4, hgf, hn2b, hnf⟩, (hvr.mono (fun c r => DevR.mono (slq_le hle))).snoc (r := [.int .i64 (dv ds (60 + 12 * vs.length) % cs.length), .int .i64 (dv ds (61 + 12 * vs.length) % dm.length), .int .i64 (dv ds (62 + 12 * vs.length) % rs.length), .int .u32 (dv ds (63 + 12 * vs.length) % 3), .slice A5 rg.length c5, .slice A6 nd.length c6]) rfl ⟨A5, _, c5, A6, _, c6, rfl, rfl, rfl, hs1, hs2⟩, hq2, by simp, rfl, by simp⟩))
    ·
      refine XK.exit ?_
      refine XK.norm ?_
      exact XK.envS [(6, .pointer (some ⟨g4, 0, none⟩)), (4, .slice (some ⟨g2, 0, none⟩) 120 120), (2, .pointer (some ⟨g1, 0, none⟩))] (XK.meet ⟨vs, A4, c4, q, rows4, by omega, by omega, hcr, hvf, hvr, hq, rfl, rfl, rfl⟩)
  rintro _ _ _ ⟨vs, A4, c4, q, rows4, hv1, hv4, hcr, hvf, hvr, hq, rfl, rfl, rfl⟩
  refine XK.seq ?_
  refine XK.region ?_
  refine xk_ldN 4 rfl ?_
  refine xk_stN rfl rfl ?_; simp only [putN, Value.cells, List.set, List.take, List.drop, List.nil_append, List.append_nil, List.length_cons, List.length_nil, List.cons_append, Nat.reduceAdd]
  refine XK.nilN ?_
  refine XK.ret ?_
  refine XK.norm ?_
  refine XK.still [q] [1, 2, 3, 4] [6] (by simp) rfl (by decide) (by simp) fun qn hqf hql hqn => ?_
  have hle := hql q (by simp)
  have hq2 := hqn (by simp) (by simp; exact hq)
  have hs4 := SlS.own (hqf 1 _ (by simp) rfl)
  have hs3 := SlS.own (hqf 2 _ (by simp) rfl)
  have hs2 := SlS.own (hqf 3 _ (by simp) rfl)
  have hs1 := SlS.own (hqf 4 _ (by simp) rfl)
  have hS : SocR (slq qn) ⟨cs, dm, rs, vs⟩ #[.slice A1 cs.length c1, .slice A2 dm.length c2, .slice A3 rs.length c3, .slice A4 vs.length c4] :=
    ⟨A1, _, c1, A2, _, c2, A3, _, c3, A4, _, c4, rfl, ⟨rows1, hcr.mono (fun c r => ClkR.mono (slq_le hle)), rfl, hs1⟩, ⟨rows2, hdr, rfl, hs2⟩, ⟨rows3, hrr, rfl, hs3⟩, ⟨rows4, hvr.mono (fun c r => DevR.mono (slq_le hle)), rfl, hs4⟩⟩
  exact XK.retC rfl (by kernel_rfl) rfl rfl (RdN.whole 0 rfl) fun w1 st => ⟨⟨_, rfl, _, ⟨cs, dm, rs, vs⟩, rfl, hS.mono (slq_le (st.fresh_le (by simp) hq2)), ⟨hcf, hdf, hrf, hvf, ⟨hc1, hc9⟩, ⟨hd1, hd4⟩, ⟨hr1, hr3⟩, ⟨hv1, hv4⟩⟩⟩, st.below (by simp)⟩
end
section
structure AskT where
 a1 : Int
 a2 : Int
 a3 : Int
 a4 : Int
 a5 : Int
 a6 : Int
def AskT.cells (a : AskT) : List Value := [.int .i64 a.a1, .int .i64 a.a2, .int .i64 a.a3, .int .i64 a.a4, .int .i64 a.a5, .int .i64 a.a6]
def I64 (a : Int) : Prop := -9223372036854775808 ≤ a ∧ a ≤ 9223372036854775807
structure AskT.ok (a : AskT) : Prop where
 h1 : I64 a.a1
 h2 : I64 a.a2
 h3 : I64 a.a3
 h4 : I64 a.a4
 h5 : I64 a.a5
 h6 : I64 a.a6
theorem SlS.ask {w : World} {A : Option Addr} {n : Nat} {qs : List AskT} (h : SlS (all w) 6 A n (qs.flatMap AskT.cells)) {k : Nat} {a : AskT} (hk : qs[k]? = some a) (hn : k < n) : ∃ b off, A = some ⟨b, off, none⟩ ∧ ROn w b (off + k * 6) a.cells := by
 obtain ⟨b, off, hA, hz, hc⟩ := SlS.at_ h hn
 refine ⟨b, off, hA, hz, fun f u hu => hc f u ?_⟩
 have hf : f < 6 := by
  rcases Nat.lt_or_ge f a.cells.length with h | h
  ·exact h
  ·rw [List.getElem?_eq_none h] at hu; cases hu
 rw [flat_get AskT.cells 6 qs (fun x _ => rfl) k f a hk hf, hu]
end
section
theorem has_rep (n : Nat) (i : Nat) : hasB (List.replicate n false) i = false := by
 unfold hasB
 rw [List.getElem?_replicate]
 split <;> rfl
theorem wish_zero (s : Soc) (k id : Int) : wishF (zeroW s) k id = false := by
 unfold wishF kindL zeroW
 have h : ∀ n i, hasB (List.replicate n false) i = false := has_rep
 split
 ·rw [h]; simp
 ·split
  ·rw [h]; simp
  ·split
   ·rw [h]; simp
   ·simp [hasB]
section
variable {s : Soc} {r : Nat} {p m on off kn kf n : Int}
theorem dec_on {x y : Wsh} {wt : List Int} {ag : Nat} {l : List Int} {k id : Int} (hr : readF s l = (0, k, id)) (hk : onB k) (hk0 : k ≠ 0) (hw : wishF (if ag = 0 then x else y) k id = false) :
  decF s x y wt ag l = if k = 117 ∧ (s.domains[id.toNat]?).any (fun d => decide (d.above ≠ -1) && !wishedF x y 117 d.above) = true then (-3, 0, 0) else (0, k, id) := by
 unfold decF
 rw [hr]
 dsimp only
 rw [hw, if_neg (by simp [hk0, hk]), if_pos hk]
theorem dec_same {x y : Wsh} {wt : List Int} {ag : Nat} {l : List Int} {k id : Int} (hr : readF s l = (0, k, id)) (hw : wishF (if ag = 0 then x else y) k id = decide (onB k)) : decF s x y wt ag l = (0, 0, 0) := by
 unfold decF
 rw [hr]
 dsimp only
 rw [if_pos (.inr (.inr hw))]
end
section
variable {s : Soc} {r : Nat} {p m on off kn kf n : Int} {a b : Nat}
end
end
section
section
variable {s : Soc}
theorem chainN_le (hm : s.made) : ∀ (k c : Nat), ∀ i ∈ chainN s k c, i ≤ c
 | 0, c, i, h => by simp [chainN] at h
 | k + 1, c, i, h => by
  unfold chainN at h
  cases hc : s.clocks[c]? with
  | none => rw [hc] at h; simp at h
  | some x =>
   rw [hc] at h
   dsimp only at h
   cases hs : x.src with
   | nil => rw [hs] at h; simp at h; omega
   | cons f fs =>
    rw [hs] at h
    rcases List.mem_cons.1 h with rfl | h
    ·exact Nat.le_refl _
    ·have := chainN_le hm k _ i h
     have hf := ((hm.clocks c x hc).1) f (by rw [hs]; simp)
     omega
theorem chainL_le (hm : s.made) {c i : Nat} (hi : i ∈ chainL s c) : i ≤ c := chainN_le hm _ c i hi
end
theorem hasB_eq (l : List Bool) (i : Nat) : hasB l i = l[i]?.getD false := rfl
structure Wsh.cl (x : Wsh) (s : Soc) : Prop where
 of : x.of s
 up : ∀ (i : Nat) d, hasB x.d i = true → s.domains[i]? = some d → 0 ≤ d.above → hasB x.d d.above.toNat = true
 ch : ∀ i j : Nat, hasB x.c i = true → j ∈ chainL s i → swK s j = true → hasB x.c j = true
 sw : ∀ i : Nat, hasB x.c i = true → swK s i = true
theorem hasB_lt {l : List Bool} {i : Nat} (h : hasB l i = true) : i < l.length := by
 rw [hasB_eq] at h
 rcases Nat.lt_or_ge i l.length with h1 | h1
 ·exact h1
 ·rw [List.getElem?_eq_none h1] at h; cases h
theorem wish_has (x : Wsh) (k : Int) (i : Nat) : wishF x k (i : Int) = hasB (kindL k x) i := by
 unfold wishF; simp
theorem wished_z (s : Soc) (x : Wsh) (k i : Int) : wishedF x (zeroW s) k i = wishF x k i := by
 rw [wishedF, wish_zero, Bool.or_false]
section
variable {s : Soc} {x : Wsh} {k i : Nat}
end
section
variable {s : Soc} {x y : Wsh}
end
def apart (p q : Stp) : Prop := ¬ (p.pr = q.pr ∧ p.id = q.id)
theorem WshR.join {q : Piece} {x y : Wsh} {v1 v2 v3 v4 v5 v6 : Value} (h1 : WshR q x (.agg #[v1, v2, v3])) (h2 : WshR q y (.agg #[v4, v5, v6])) : StR q x y (.agg #[v1, v2, v3, v4, v5, v6]) := by
 obtain ⟨A1, k1, A2, k2, A3, k3, e1, a1, a2, a3⟩ := h1
 obtain ⟨B1, m1, B2, m2, B3, m3, e2, b1, b2, b3⟩ := h2
 simp only [Value.agg.injEq, Array.mk.injEq, List.cons.injEq] at e1 e2
 obtain ⟨rfl, rfl, rfl, _⟩ := e1
 obtain ⟨rfl, rfl, rfl, _⟩ := e2
 exact ⟨A1, k1, A2, k2, A3, k3, B1, m1, B2, m2, B3, m3, rfl, a1, a2, a3, b1, b2, b3⟩
theorem StR.split {q : Piece} {x y : Wsh} {v1 v2 v3 v4 v5 v6 : Value} (h : StR q x y (.agg #[v1, v2, v3, v4, v5, v6])) : WshR q x (.agg #[v1, v2, v3]) ∧ WshR q y (.agg #[v4, v5, v6]) := by
 obtain ⟨A1, k1, A2, k2, A3, k3, B1, m1, B2, m2, B3, m3, e, a1, a2, a3, b1, b2, b3⟩ := h
 simp only [Value.agg.injEq, Array.mk.injEq, List.cons.injEq] at e
 obtain ⟨rfl, rfl, rfl, rfl, rfl, rfl, _⟩ := e
 exact ⟨⟨A1, k1, A2, k2, A3, k3, rfl, a1, a2, a3⟩, ⟨B1, m1, B2, m2, B3, m3, rfl, b1, b2, b3⟩⟩
section
variable {w0 : World} {R : List Piece} {H : List HP}
theorem RdN.three (i : Nat) {b : Nat} {t : TypeId} {v1 v2 v3 : Value} {cs : List Value} (hi : H[i]? = some (HP.blk b t (v1 :: v2 :: v3 :: cs))) : RdN w0 R H b 0 [v1, v2, v3] := .of fun j v hv => by
 rw [Nat.zero_add]
 refine Rd.blk i hi ?_
 match j, hv with
 | 0, hv => exact hv
 | 1, hv => exact hv
 | 2, hv => exact hv
end
end
section
set_option maxHeartbeats 4000000
set_option maxRecDepth 20000
theorem set_same {α : Type} {l : List α} {i : Nat} {x : α} (h : l[i]? = some x) : l.set i x = l := by
 refine List.ext_getElem? fun j => ?_
 rw [List.getElem?_set]
 by_cases he : i = j
 ·subst he; rw [if_pos rfl, if_pos (List.getElem?_eq_some_iff.1 h).1, h]
 ·rw [if_neg he]
def ranL (s : Soc) (st : List CkS) (i : Nat) : List Value := (List.range s.clocks.length).map fun j => .bool (decide (j < i) && runs s st j)
theorem ranL_zero (s : Soc) (st : List CkS) : List.replicate s.clocks.length (Value.bool false) = ranL s st 0 := by
 refine List.ext_getElem? fun j => ?_
 rw [ranL, List.getElem?_replicate, List.getElem?_map]
 by_cases hl : j < s.clocks.length
 ·rw [List.getElem?_range hl]; simp [hl]
 ·rw [List.getElem?_eq_none (l := List.range s.clocks.length) (by simp; omega)]; simp [hl]
theorem ranL_set (s : Soc) (st : List CkS) (i : Nat) : (ranL s st i).set i (.bool (runs s st i)) = ranL s st (i + 1) := by
 refine List.ext_getElem? fun j => ?_
 simp only [ranL, List.getElem?_set, List.getElem?_map, List.length_map, List.length_range]
 by_cases he : i = j
 ·subst he
  by_cases hl : i < s.clocks.length
  ·rw [if_pos rfl, if_pos hl, List.getElem?_range hl]; simp
  ·rw [if_pos rfl, if_neg hl, List.getElem?_eq_none (by simp; omega)]; rfl
 ·rw [if_neg he]
  by_cases hl : j < s.clocks.length
  ·rw [List.getElem?_range hl]
   have : decide (j < i) = decide (j < i + 1) := by simp; omega
   simp [this]
  ·rw [List.getElem?_eq_none (by simp; omega)]; rfl
theorem ranL_get {s : Soc} {st : List CkS} {j : Nat} (h : j < s.clocks.length) : (ranL s st s.clocks.length)[j]? = some (.bool (runs s st j)) := by
 simp [ranL, h]
def midC (s : Soc) (st : List CkS) (i : Nat) : List CkS := (tickC s st).take i ++ st.drop i
theorem midC_zero (s : Soc) (st : List CkS) : midC s st 0 = st := by simp [midC]
theorem midC_all {s : Soc} {st : List CkS} (hok : CkOk s st) : midC s st s.clocks.length = tickC s st := by
 have hl := hok.len
 rw [midC, List.drop_eq_nil_of_le (by omega), List.append_nil, List.take_of_length_le (by simp [tickC]; omega)]
theorem midC_get {s : Soc} {st : List CkS} (hok : CkOk s st) {i : Nat} (hi : i < s.clocks.length) : (midC s st i)[i]? = st[i]? := by
 have hl := hok.len
 have : ((tickC s st).take i).length = i := by simp [tickC]; omega
 rw [midC, List.getElem?_append_right (by omega), this, Nat.sub_self, List.getElem?_drop, Nat.add_zero]
theorem midC_len {s : Soc} {st : List CkS} (hok : CkOk s st) {i : Nat} (hi : i ≤ s.clocks.length) : (midC s st i).length = s.clocks.length := by
 have hl := hok.len
 simp [midC, tickC]; omega
theorem midC_succ {s : Soc} {st : List CkS} (hok : CkOk s st) {i : Nat} {c : Clk} {x : CkS} (hc : s.clocks[i]? = some c) (hx : st[i]? = some x) : (midC s st i).set i (tickC1 s st c x) = midC s st (i + 1) := by
 have hl := hok.len
 have hi := (List.getElem?_eq_some_iff.1 hc).1
 have ht : (tickC s st)[i]? = some (tickC1 s st c x) := by rw [tickC, List.getElem?_zipWith, hc, hx]
 have htl : (tickC s st).length = s.clocks.length := by simp [tickC]; omega
 refine List.ext_getElem? fun j => ?_
 rw [List.getElem?_set]
 by_cases he : i = j
 ·subst he
  rw [if_pos rfl, if_pos (by rw [midC_len hok (by omega)]; exact hi), midC, List.getElem?_append_left (by rw [List.length_take]; omega), List.getElem?_take_of_lt (by omega), ht]
 ·rw [if_neg he, midC, midC]
  rcases Nat.lt_or_ge j i with hj | hj
  ·rw [List.getElem?_append_left (by rw [List.length_take]; omega), List.getElem?_append_left (by rw [List.length_take]; omega), List.getElem?_take_of_lt hj, List.getElem?_take_of_lt (by omega)]
  ·rw [List.getElem?_append_right (by rw [List.length_take]; omega), List.getElem?_append_right (by rw [List.length_take]; omega), List.getElem?_drop, List.getElem?_drop, List.length_take, List.length_take]
   congr 1
   omega
theorem tick_left {s : Soc} {st : List CkS} (hH : s.okH) (hok : CkOk s st) {i : Nat} {c : Clk} {x : CkS} (hc : s.clocks[i]? = some c) (hx : x ∈ st) : 0 ≤ (tickC1 s st c x).left ∧ (tickC1 s st c x).left ≤ 3 := by
 have h1 := hok.left x hx
 have h2 := (hH.t.clocks i c hc).2
 have h3 : 0 ≤ c.lock ∧ c.lock ≤ 3 := by omega
 unfold tickC1
 split
 ·split
  ·exact h3
  ·split
   ·dsimp only; omega
   ·exact h1
 ·exact h1
theorem tickC_ok {s : Soc} {st : List CkS} (hH : s.okH) (hok : CkOk s st) : CkOk s (tickC s st) := by
 have hl := hok.len
 refine ⟨by simp [tickC]; omega, fun x hx => ?_⟩
 obtain ⟨j, hj⟩ := List.getElem?_of_mem hx
 rw [tickC, List.getElem?_zipWith] at hj
 cases hc : s.clocks[j]? with
 | none => rw [hc] at hj; cases hj
 | some c =>
  cases hy : st[j]? with
  | none => rw [hc, hy] at hj; cases hj
  | some y =>
   rw [hc, hy] at hj
   cases hj
   exact tick_left hH hok hc (List.mem_of_getElem? hy)
theorem midC_ok {s : Soc} {st : List CkS} (hH : s.okH) (hok : CkOk s st) {i : Nat} (hi : i ≤ s.clocks.length) : CkOk s (midC s st i) := ⟨midC_len hok hi, fun x hx => by
 rcases List.mem_append.1 hx with h | h
 ·exact (tickC_ok hH hok).left x (List.mem_of_mem_take h)
 ·exact hok.left x (List.mem_of_mem_drop h)⟩
theorem clkTick_m (L : TL) (s : Soc) (st : List CkS) (hH : s.okH) (hfl : L.fa.length = s.clocks.length) (hok : CkOk s st) (w : World) (F : Nat → Prop) (hp : (TreeH L s st).sat F w) (hF : ∀ b, F b → b < w.heap.size) :
  Calls Tryz.prog 83 #[.pointer (some ⟨L.t, 0, none⟩)] w (fun y w' => y = .returned (.tuple #[]) ∧ ∃ F', (TreeH L s (tickC s st)).sat F' w' ∧ Turns w w' F F') := by
 have hnc := hH.t.nc
 have hl := hok.len
 refine XK.enterM (p := TreeH L s st) (F := F) (vs := [.pointer (some ⟨L.t, 0, none⟩)]) Tryz.func83 rfl Tryz.ntmps83 (by simp) hp hF ?_
 have hrd0 : Rd w [⟨w, fun b => b < w.heap.size ∧ ¬ F b⟩] [TreeH L s st] L.t 0 (.slice L.A s.clocks.length L.c) := Rd.tree 0 rfl hfl hok
 refine XK.go ?_
 refine xk_makeT (n := s.clocks.length) 1 (el := 4) (z := .bool false) (by kernel_rfl) (by kernel_rfl) rfl rfl rfl (by omega) (by omega) (by decide) fun g1 => ?_
 have hrd1 : Rd w [⟨w, fun b => b < w.heap.size ∧ ¬ F b⟩] [HP.blk g1 4 (List.replicate s.clocks.length (.bool false)), TreeH L s st] L.t 0 (.slice L.A s.clocks.length L.c) := Rd.tree 1 rfl hfl hok
 refine XK.go ?_
 rw [ranL_zero s st]
 refine XK.envS [(19, .int .i64 0), (18, .int .i64 s.clocks.length), (2, .slice (some ⟨g1, 0, none⟩) s.clocks.length s.clocks.length), (0, .pointer (some ⟨L.t, 0, none⟩))] ?_
 refine XK.loop (fun m e R H => ∃ i : Nat, i ≤ s.clocks.length ∧ m = s.clocks.length - i ∧ e = [(19, .int .i64 i), (18, .int .i64 s.clocks.length), (2, .slice (some ⟨g1, 0, none⟩) s.clocks.length s.clocks.length), (0, .pointer (some ⟨L.t, 0, none⟩))] ∧ R = [⟨w, fun b => b < w.heap.size ∧ ¬ F b⟩] ∧ H = [HP.blk g1 4 (ranL s st i), TreeH L s st]) s.clocks.length ⟨0, by omega, rfl, rfl, rfl, rfl⟩ fun m e R H hI => ?_
 obtain ⟨i, hi, rfl, rfl, rfl, rfl⟩ := hI
 refine XK.go ?_
 refine XK.if_ rfl (fun hlt => ?_) (fun hge => ?_)
 ·have hlt : i < s.clocks.length := by omega
  have hgl : (ranL s st i).length = s.clocks.length := by simp [ranL]
  refine XK.go ?_
  refine kcall (fun w1 t => clkRunning_any L s st hH i w1 (t.treeR 1 rfl hfl hok)) ?_
  rw [show runI s st (i : Int) = runs s st i by simp [runI, inB, hlt]]
  refine kd (dat i i) ?_
  refine XK.go ?_
  rw [ranL_set]
  refine XK.envS [(19, .int .i64 (i + 1 : Nat)), (18, .int .i64 s.clocks.length), (2, .slice (some ⟨g1, 0, none⟩) s.clocks.length s.clocks.length), (0, .pointer (some ⟨L.t, 0, none⟩))] ?_
  exact XK.round (s.clocks.length - (i + 1)) (by omega) ⟨i + 1, hlt, rfl, rfl, rfl, rfl⟩
 ·obtain rfl : i = s.clocks.length := by omega
  have hrd2 : Rd w [⟨w, fun b => b < w.heap.size ∧ ¬ F b⟩] [HP.blk g1 4 (ranL s st s.clocks.length), TreeH L s st] L.t 0 (.slice L.A s.clocks.length L.c) := Rd.tree 1 rfl hfl hok
  refine XK.go ?_
  refine XK.envS [(34, .int .i64 0), (33, .int .i64 s.clocks.length), (2, .slice (some ⟨g1, 0, none⟩) s.clocks.length s.clocks.length), (0, .pointer (some ⟨L.t, 0, none⟩))] ?_
  refine XK.loop (fun m e R H => ∃ i : Nat, i ≤ s.clocks.length ∧ m = s.clocks.length - i ∧ e = [(34, .int .i64 i), (33, .int .i64 s.clocks.length), (2, .slice (some ⟨g1, 0, none⟩) s.clocks.length s.clocks.length), (0, .pointer (some ⟨L.t, 0, none⟩))] ∧ R = [⟨w, fun b => b < w.heap.size ∧ ¬ F b⟩] ∧ H = [HP.blk g1 4 (ranL s st s.clocks.length), TreeH L s (midC s st i)]) s.clocks.length ⟨0, by omega, rfl, rfl, rfl, by rw [midC_zero]⟩ fun m e R H hI => ?_
  obtain ⟨i, hi, rfl, rfl, rfl, rfl⟩ := hI
  refine XK.go ?_
  refine XK.if_ rfl (fun hlt => ?_) (fun hge => ?_)
  ·have hlt : i < s.clocks.length := by omega
   obtain ⟨c, hc⟩ := get_some hlt
   obtain ⟨a, ha⟩ := get_some (l := L.fa) (i := i) (by omega)
   obtain ⟨x, hx⟩ := get_some (l := st) (i := i) (by omega)
   have hok' := midC_ok hH hok hi
   have hml := midC_len hok hi
   have hgx : (midC s st i)[i]? = some x := by rw [midC_get hok hlt]; exact hx
   obtain ⟨hnl, hnr⟩ := nodesR_len hfl hok'
   have hlx := hok.left x (List.mem_of_getElem? hx)
   have hgl : (ranL s st s.clocks.length).length = s.clocks.length := by simp [ranL]
   have hpq : (nodesR s L.fa (midC s st i)).set i (nodeC c a (tickC1 s st c x)) = nodesR s L.fa (midC s st (i + 1)) := by rw [nodesR_set hc ha (by omega), midC_succ hok hc hx]
   refine XK.openTree 1 rfl (by omega) fun g cs hA h1 h2 h3 h4 => ?_
   dsimp only [List.set]
   rw [hA]
   have hs := flat_sub h2 hnl hnr (nodesR_get hc ha hgx)
   have hu := Upd.refl cs (i * 11) 11
   have hrd : Rd w [⟨w, fun b => b < w.heap.size ∧ ¬ F b⟩] [HP.blk g 227 cs, HP.blk g1 4 (ranL s st s.clocks.length), HP.many [HP.blk L.t 225 [.slice (some ⟨g, 0, none⟩) s.clocks.length L.c], HP.emp, HP.pic (FrmP s L.fa) (FrmP.le (s := s) (fa := L.fa))]] L.t 0 (.slice (some ⟨g, 0, none⟩) s.clocks.length L.c) := Rd.inMany 2 0 rfl rfl rfl
   refine XK.go ?_
   refine kd (dat i (i * 11)) ?_
   obtain ⟨hsrc, hfit⟩ := hH.t.clocks i c hc
   obtain ⟨kd, src, rate, mul, dv, lock⟩ := c
   obtain ⟨on, left⟩ := x
   dsimp only at hfit hsrc hlx
   dsimp only [nodeC] at hs
   have hstay : kd ≠ 112 ∨ on = false → nodesR s L.fa (midC s st i) = nodesR s L.fa (midC s st (i + 1)) := fun hh => by
    rw [← hpq]
    have : tickC1 s st ⟨kd, src, rate, mul, dv, lock⟩ ⟨on, left⟩ = ⟨on, left⟩ := by
     unfold tickC1
     rw [if_neg]
     rintro ⟨h1, h2⟩
     rcases hh with hh | hh
     ·exact hh h1
     ·rw [hh] at h2; cases h2
    rw [this, set_same (nodesR_get hc ha hgx)]
   rcases hfit with ⟨rfl, _⟩ | ⟨rfl, hsl, _⟩ | ⟨rfl, _⟩ | ⟨rfl, _⟩ | ⟨rfl, _⟩
   ·rw [hstay (.inl (by decide))] at h2
    refine XK.go ?_
    refine XK.drawQ ?_
    refine XQ.end_ ?_
    refine XK.go ?_
    refine XK.closeTree 1 hA h1 h2 h3 h4 rfl ?_
    refine XK.envS [(34, .int .i64 (i + 1 : Nat)), (33, .int .i64 s.clocks.length), (2, .slice (some ⟨g1, 0, none⟩) s.clocks.length s.clocks.length), (0, .pointer (some ⟨L.t, 0, none⟩))] ?_
    exact XK.round (s.clocks.length - (i + 1)) (by omega) ⟨i + 1, hlt, rfl, rfl, rfl, rfl⟩
   ·cases on
    ·rw [hstay (.inr rfl)] at h2
     refine XK.go ?_
     refine XK.drawQ ?_
     refine XQ.end_ ?_
     refine XK.go ?_
     refine XK.closeTree 1 hA h1 h2 h3 h4 rfl ?_
     refine XK.envS [(34, .int .i64 (i + 1 : Nat)), (33, .int .i64 s.clocks.length), (2, .slice (some ⟨g1, 0, none⟩) s.clocks.length s.clocks.length), (0, .pointer (some ⟨L.t, 0, none⟩))] ?_
     exact XK.round (s.clocks.length - (i + 1)) (by omega) ⟨i + 1, hlt, rfl, rfl, rfl, rfl⟩
    ·obtain ⟨f, fs, hf⟩ : ∃ (f : Nat) (fs : List Int), src = (f : Int) :: fs := by
      cases hs0 : src with
      | nil => rw [hs0] at hsl; simp at hsl
      | cons f fs => exact ⟨f.toNat, fs, by have := (hsrc f (by rw [hs0]; simp)).1; rw [Int.toNat_of_nonneg this]⟩
     have hfi : f < i := by have := (hsrc f (by rw [hf]; simp)).2; omega
     subst hf
     have hrun := ranL_get (s := s) (st := st) (j := f) (by omega)
     have hrr : Rd w [⟨w, fun b => b < w.heap.size ∧ ¬ F b⟩] [HP.blk g 227 cs, HP.blk g1 4 (ranL s st s.clocks.length), HP.many [HP.blk L.t 225 [.slice (some ⟨g, 0, none⟩) s.clocks.length L.c], HP.emp, HP.pic (FrmP s L.fa) (FrmP.le (s := s) (fa := L.fa))]] g1 f (.bool (runs s st f)) := Rd.blk 1 rfl hrun
     refine XK.go ?_
     refine kcall (fun w1 t => clkSource_any L s (midC s st i) i f _ fs w1 (t.treeO 0 2 rfl rfl hA h2 hfl hok') hc rfl) ?_
     refine XK.go ?_
     refine kd (dat f f) ?_
     have ht1 : tickC1 s st ⟨112, (f : Int) :: fs, rate, mul, dv, lock⟩ ⟨true, left⟩ = if runs s st f = false then ⟨true, lock⟩ else if 0 < left then ⟨true, left - 1⟩ else ⟨true, left⟩ := by
      simp [tickC1, srcF]
     rw [ht1] at hpq
     cases hrf : runs s st f
     ·rw [hrf] at hrr
      rw [if_pos hrf] at hpq
      have hs1 := hs.set 7 (.int .i64 lock) (by simp) (by omega)
      have hu1 := hu.set 7 (.int .i64 lock) (by decide)
      have hf1 := flat_upd (r' := nodeC ⟨112, (f : Int) :: fs, rate, mul, dv, lock⟩ a ⟨true, lock⟩) h2 hnl hnr hlt (by omega) rfl hs1 hu1
      rw [hpq] at hf1
      refine XK.go ?_
      refine XK.closeTree 1 hA (by simpa using h1) hf1 h3 h4 rfl ?_
      refine XK.envS [(34, .int .i64 (i + 1 : Nat)), (33, .int .i64 s.clocks.length), (2, .slice (some ⟨g1, 0, none⟩) s.clocks.length s.clocks.length), (0, .pointer (some ⟨L.t, 0, none⟩))] ?_
      exact XK.round (s.clocks.length - (i + 1)) (by omega) ⟨i + 1, hlt, rfl, rfl, rfl, rfl⟩
     ·rw [hrf] at hrr
      rw [if_neg (by rw [hrf]; decide)] at hpq
      refine XK.go ?_
      refine XK.if_ rfl (fun hp => ?_) (fun hp => ?_)
      ·rw [if_pos hp] at hpq
       have hs1 := hs.set 7 (.int .i64 (left - 1)) (by simp) (by omega)
       have hu1 := hu.set 7 (.int .i64 (left - 1)) (by decide)
       have hf1 := flat_upd (r' := nodeC ⟨112, (f : Int) :: fs, rate, mul, dv, lock⟩ a ⟨true, left - 1⟩) h2 hnl hnr hlt (by omega) rfl hs1 hu1
       rw [hpq] at hf1
       refine XK.go ?_
       refine XK.closeTree 1 hA (by simpa using h1) hf1 h3 h4 rfl ?_
       refine XK.envS [(34, .int .i64 (i + 1 : Nat)), (33, .int .i64 s.clocks.length), (2, .slice (some ⟨g1, 0, none⟩) s.clocks.length s.clocks.length), (0, .pointer (some ⟨L.t, 0, none⟩))] ?_
       exact XK.round (s.clocks.length - (i + 1)) (by omega) ⟨i + 1, hlt, rfl, rfl, rfl, rfl⟩
      ·rw [if_neg hp, set_same (nodesR_get hc ha hgx)] at hpq
       rw [hpq] at h2
       refine XK.go ?_
       refine XK.drawQ ?_
       refine XQ.end_ ?_
       refine XK.go ?_
       refine XK.closeTree 1 hA h1 h2 h3 h4 rfl ?_
       refine XK.envS [(34, .int .i64 (i + 1 : Nat)), (33, .int .i64 s.clocks.length), (2, .slice (some ⟨g1, 0, none⟩) s.clocks.length s.clocks.length), (0, .pointer (some ⟨L.t, 0, none⟩))] ?_
       exact XK.round (s.clocks.length - (i + 1)) (by omega) ⟨i + 1, hlt, rfl, rfl, rfl, rfl⟩
   ·rw [hstay (.inl (by decide))] at h2
    refine XK.go ?_
    refine XK.drawQ ?_
    refine XQ.end_ ?_
    refine XK.go ?_
    refine XK.closeTree 1 hA h1 h2 h3 h4 rfl ?_
    refine XK.envS [(34, .int .i64 (i + 1 : Nat)), (33, .int .i64 s.clocks.length), (2, .slice (some ⟨g1, 0, none⟩) s.clocks.length s.clocks.length), (0, .pointer (some ⟨L.t, 0, none⟩))] ?_
    exact XK.round (s.clocks.length - (i + 1)) (by omega) ⟨i + 1, hlt, rfl, rfl, rfl, rfl⟩
   ·rw [hstay (.inl (by decide))] at h2
    refine XK.go ?_
    refine XK.drawQ ?_
    refine XQ.end_ ?_
    refine XK.go ?_
    refine XK.closeTree 1 hA h1 h2 h3 h4 rfl ?_
    refine XK.envS [(34, .int .i64 (i + 1 : Nat)), (33, .int .i64 s.clocks.length), (2, .slice (some ⟨g1, 0, none⟩) s.clocks.length s.clocks.length), (0, .pointer (some ⟨L.t, 0, none⟩))] ?_
    exact XK.round (s.clocks.length - (i + 1)) (by omega) ⟨i + 1, hlt, rfl, rfl, rfl, rfl⟩
   ·rw [hstay (.inl (by decide))] at h2
    refine XK.go ?_
    refine XK.drawQ ?_
    refine XQ.end_ ?_
    refine XK.go ?_
    refine XK.closeTree 1 hA h1 h2 h3 h4 rfl ?_
    refine XK.envS [(34, .int .i64 (i + 1 : Nat)), (33, .int .i64 s.clocks.length), (2, .slice (some ⟨g1, 0, none⟩) s.clocks.length s.clocks.length), (0, .pointer (some ⟨L.t, 0, none⟩))] ?_
    exact XK.round (s.clocks.length - (i + 1)) (by omega) ⟨i + 1, hlt, rfl, rfl, rfl, rfl⟩
  ·obtain rfl : i = s.clocks.length := by omega
   rw [midC_all hok]
   refine XK.go ?_
   exact XK.ret0 (.inr rfl) rfl fun w1 t => ⟨rfl, t.turns hF (by simp) (i := 1) rfl⟩
end
section
set_option maxHeartbeats 4000000
set_option maxRecDepth 20000
section
variable {N : Frm} {w0 w : World} {e : Env} {R : List Piece} {H : List HP} {K : Act → World → Prop} {L : RL} {s : Soc} {st : List LnS}
theorem XK.openLines (i : Nat) (hi : H[i]? = some (LinesH L s st)) (h : XK N w0 K e R (HP.map L.g (lnL s st) :: HP.blk L.t 235 [.map (some L.g)] :: H.set i (HP.many [HP.emp, HP.emp]))) : XK N w0 K e R H := by
 have hlt := hlt_of hi
 refine XK.take i 0 hi rfl ?_
 refine XK.take (i + 1) 1 (by rw [List.getElem?_cons_succ, List.getElem?_set_self hlt]) rfl ?_
 simpa [List.set_cons_succ, List.set_set] using h
theorem XK.closeLines (i : Nat) (hi : H[i]? = some (HP.many [HP.emp, HP.emp])) (h : XK N w0 K e R (H.set i (LinesH L s st))) : XK N w0 K e R (HP.map L.g (lnL s st) :: HP.blk L.t 235 [.map (some L.g)] :: H) := by
 have hlt := hlt_of hi
 refine XK.give (i + 1) 1 (by rw [List.getElem?_cons_succ]; exact hi) rfl ?_
 dsimp only [List.set]
 refine XK.give i 0 (by rw [List.getElem?_set_self hlt]) rfl ?_
 simpa [List.set_set, LinesH] using h
end
theorem rstRelease_m (L : RL) (s : Soc) (st : List LnS) (hok : LnOk s st) (i : Int) (w : World) (F : Nat → Prop) (hp : (LinesH L s st).sat F w) (hF : ∀ b, F b → b < w.heap.size) :
  Calls Tryz.prog 248 #[.pointer (some ⟨L.t, 0, none⟩), .int .i64 i] w (fun y w' => y = .returned (.int .i64 (releaseF st i).1) ∧ ∃ F', (LinesH L s (releaseF st i).2).sat F' w' ∧ Turns w w' F F') := by
 have hl := hok.len
 cases hi : inB st.length i
 ·have hr : releaseF st i = (4, st) := by simp [releaseF, hi]
  have hv : findV s st i = lnV 0 ⟨0, false, false⟩ := by simp [findV, hi]
  rw [hr]
  refine XK.enterM (p := LinesH L s st) (F := F) (vs := [.pointer (some ⟨L.t, 0, none⟩), .int .i64 i]) Tryz.func248 rfl Tryz.ntmps248 (by simp) hp hF ?_
  refine XK.go ?_
  refine kcall (fun w1 t => rstFind_any L s st i w1 (t.linesR 0 rfl)) ?_
  rw [hi, hv]
  unfold lnV
  refine XK.go ?_
  refine xk_alloc (cs := [.int .i64 0, .int .i64 0, .bool false, .bool false]) (zeroB_of (by kernel_rfl)) (by decide) fun g1 => ?_
  refine XK.go ?_
  exact XK.ret1 rfl rfl fun w1 t => ⟨rfl, t.turns hF (by simp) (i := 1) rfl⟩
 ·obtain ⟨n, rfl⟩ : ∃ n : Nat, i = n := ⟨i.toNat, by have := of_decide_eq_true hi; omega⟩
  have hlt : n < st.length := by have := of_decide_eq_true hi; omega
  obtain ⟨r, hrr⟩ := get_some (l := s.resets) (i := n) (by omega)
  obtain ⟨x, hx⟩ := get_some hlt
  have hrd : s.resets.getD n 0 = r := by rw [List.getD_eq_getElem?_getD, hrr]; rfl
  have hr : releaseF st (n : Int) = if x.held = false then (6, st) else (0, st.set n ⟨x.left, x.held, true⟩) := by simp [releaseF, hi, hx]
  have hv : findV s st (n : Int) = lnV r x := by simp [findV, hi, List.getD_eq_getElem?_getD, hrr, hx]
  rw [hr]
  refine XK.enterM (p := LinesH L s st) (F := F) (vs := [.pointer (some ⟨L.t, 0, none⟩), .int .i64 (n : Int)]) Tryz.func248 rfl Tryz.ntmps248 (by simp) hp hF ?_
  refine XK.go ?_
  refine kcall (fun w1 t => rstFind_any L s st n w1 (t.linesR 0 rfl)) ?_
  rw [hi, hv]
  obtain ⟨left, held, wanted⟩ := x
  unfold lnV
  refine XK.go ?_
  refine xk_alloc (cs := [.int .i64 0, .int .i64 0, .bool false, .bool false]) (zeroB_of (by kernel_rfl)) (by decide) fun g1 => ?_
  cases held
  ·refine XK.go ?_
   exact XK.ret1 rfl rfl fun w1 t => ⟨rfl, t.turns hF (by simp) (i := 1) rfl⟩
  ·refine XK.go ?_
   refine XK.openLines 1 rfl ?_
   dsimp only [List.set]
   refine XK.draw 6 (by kernel_rfl) (by kernel_rfl) ?_
   refine XA.q 0 ?_
   refine XA.q 1 ?_
   refine XA.q 2 ?_
   refine XA.q 3 ?_
   refine XA.q 4 ?_
   refine XA.q 5 ?_
   refine XA.next 6 rfl (by kernel_rfl) ?_
   refine xk_mapUpdate (kt := 3) (et := 237) (kd := .i64) (l := lnL s st) (v := lnV r ⟨left, true, true⟩) 0 (by kernel_rfl) (by kernel_rfl) rfl rfl rfl rfl ?_
   rw [mset_ln hrd hlt]
   dsimp only [List.set]
   refine XA.bt ?_
   refine XA.done (by kernel_rfl) ?_
   refine XK.closeLines 1 rfl ?_
   refine XK.go ?_
   exact XK.ret1 rfl rfl fun w1 t => ⟨rfl, t.turns hF (by simp) (i := 1) rfl⟩
end
section
set_option maxHeartbeats 4000000
set_option maxRecDepth 20000
theorem map_same {α : Type} (f : α → α) (st : List α) {i : Nat} {x : α} (hx : st[i]? = some x) (hs : f x = x) : (st.map f).take i ++ st.drop i = (st.map f).take (i + 1) ++ st.drop (i + 1) := by
 have h1 := mid_succ f st hx
 rw [hs, set_same' (by rw [mid_get f st (List.getElem?_eq_some_iff.1 hx).1]; exact hx)] at h1
 exact h1
theorem rstTick_m (L : RL) (s : Soc) (st : List LnS) (hH : s.okH) (hok : LnOk s st) (w : World) (F : Nat → Prop) (hp : (LinesH L s st).sat F w) (hF : ∀ b, F b → b < w.heap.size) :
  Calls Tryz.prog 86 #[.pointer (some ⟨L.t, 0, none⟩)] w (fun y w' => ∃ a : Option Addr × Nat × Nat, y = .returned (.slice a.1 a.2.1 a.2.2) ∧ True ∧ ∃ F', (LinesH L s (tickL st)).sat F' w' ∧ Turns w w' F F') := by
 have hl := hok.len
 have hnr := hH.t.nr
 refine XK.enterM (p := LinesH L s st) (F := F) (vs := [.pointer (some ⟨L.t, 0, none⟩)]) Tryz.func86 rfl Tryz.ntmps86 (by simp) hp hF ?_
 have hrd0 : Rd w [⟨w, fun b => b < w.heap.size ∧ ¬ F b⟩] [LinesH L s st] L.t 0 (.map (some L.g)) := fun w1 t => (t.linesR 0 rfl).r0.2
 refine XK.go ?_
 refine kd (does_lenM (kt := 3) (et := 237) (l := lnL s st) (by kernel_rfl) rfl (fun w1 t => (t.linesR 0 rfl).m)) ?_
 rw [show (lnL s st).length = st.length by simp [lnL]]
 refine XK.go ?_
 refine XK.nilrow 3 1 ?_
 refine XK.envS [(14, .int .i64 0), (13, .int .i64 st.length), (3, .slice none 0 0), (0, .pointer (some ⟨L.t, 0, none⟩))] ?_
 refine XK.loop (fun m e R H => ∃ (i n : Nat) (A : Option Addr) (k : Nat) (xs : List Value), i ≤ st.length ∧ n ≤ i ∧ m = st.length - i ∧ e = [(14, .int .i64 i), (13, .int .i64 st.length), (3, .slice A n k), (0, .pointer (some ⟨L.t, 0, none⟩))] ∧ R = [⟨w, fun b => b < w.heap.size ∧ ¬ F b⟩] ∧ H = [HP.own 3 1 (.slice A n k) n xs, LinesH L s ((st.map tickL1).take i ++ st.drop i)]) st.length ⟨0, 0, none, 0, [], by omega, by omega, rfl, rfl, rfl, by simp⟩ fun m e R H hI => ?_
 obtain ⟨i, n, A, k, xs, hi, hni, rfl, rfl, rfl, rfl⟩ := hI
 refine XK.go ?_
 refine XK.if_ rfl (fun hlt => ?_) (fun hge => ?_)
 ·have hlt : i < st.length := by omega
  obtain ⟨r, hrr⟩ := get_some (l := s.resets) (i := i) (by omega)
  obtain ⟨x, hx⟩ := get_some hlt
  have hlx := hok.left x (List.mem_of_getElem? hx)
  have hrd : s.resets.getD i 0 = r := by rw [List.getD_eq_getElem?_getD, hrr]; rfl
  have hml : ((st.map tickL1).take i ++ st.drop i).length = st.length := by simp; omega
  have hgx : ((st.map tickL1).take i ++ st.drop i)[i]? = some x := by rw [mid_get _ st hlt]; exact hx
  have hin : inB ((st.map tickL1).take i ++ st.drop i).length (i : Int) = true := by rw [hml]; exact decide_eq_true (by omega)
  have hget : mget (lnL s ((st.map tickL1).take i ++ st.drop i)) (i : Int) = some (lnV r x) := by
   rw [mget_ln, if_pos hin, Int.toNat_natCast, hrd, List.getD_eq_getElem?_getD, hgx]; rfl
  have hset : mset (lnL s ((st.map tickL1).take i ++ st.drop i)) (i : Int) (lnV r (tickL1 x)) = lnL s ((st.map tickL1).take (i + 1) ++ st.drop (i + 1)) := by
   rw [mset_ln hrd (by omega), mid_succ tickL1 st hx]
  refine XK.openLines 1 rfl ?_
  dsimp only [List.set]
  refine XK.go ?_
  refine xk_lookup (kt := 3) (et := 237) (kd := .i64) (z := lnV 0 ⟨0, false, false⟩) (l := lnL s ((st.map tickL1).take i ++ st.drop i)) true (by kernel_rfl) (by kernel_rfl) line_zero rfl rfl (fun w1 t => t.map (i := 0) rfl) (by decide) ?_
  simp only [if_true, hget, Option.getD_some, Option.isSome_some]
  obtain ⟨left, held, wanted⟩ := x
  dsimp only at hlx
  dsimp only [lnV]
  refine XK.go ?_
  refine xk_alloc (cs := [.int .i64 0, .int .i64 0, .bool false, .bool false]) (zeroB_of (by kernel_rfl)) (by decide) fun g1 => ?_
  cases held
  ·have hsame : tickL1 ⟨left, false, wanted⟩ = ⟨left, false, wanted⟩ := rfl
   rw [map_same tickL1 st hx hsame]
   refine XK.go ?_
   refine XK.weak [1, 2, 3, 4] rfl (by decide) (fun _ h => h) ?_
   refine XK.closeLines 1 rfl ?_
   refine XK.envS [(14, .int .i64 (i + 1 : Nat)), (13, .int .i64 st.length), (3, .slice A n k), (0, .pointer (some ⟨L.t, 0, none⟩))] ?_
   exact XK.round (st.length - (i + 1)) (by omega) ⟨i + 1, n, A, k, xs, hlt, by omega, rfl, rfl, rfl, rfl⟩
  ·refine XK.go ?_
   refine XK.if_ rfl (fun hp => ?_) (fun hp => ?_)
   ·have ht1 : tickL1 ⟨left, true, wanted⟩ = ⟨left - 1, true, wanted⟩ := by simp [tickL1, hp]
    rw [ht1] at hset
    refine XK.go ?_
    refine XK.draw 6 (by kernel_rfl) (by kernel_rfl) ?_
    refine XA.q 0 ?_
    refine XA.q 1 ?_
    refine XA.q 2 ?_
    refine XA.q 3 ?_
    refine XA.q 4 ?_
    refine XA.q 5 ?_
    refine XA.next 6 rfl (by kernel_rfl) ?_
    refine xk_mapUpdate (kt := 3) (et := 237) (kd := .i64) (l := lnL s ((st.map tickL1).take i ++ st.drop i)) (v := lnV r ⟨left - 1, true, wanted⟩) 1 (by kernel_rfl) (by kernel_rfl) rfl rfl rfl rfl ?_
    rw [hset]
    dsimp only [List.set]
    refine XA.bt ?_
    refine XA.done (by kernel_rfl) ?_
    refine XK.go ?_
    refine XK.weak [1, 2, 3, 4] rfl (by decide) (fun _ h => h) ?_
    refine XK.closeLines 1 rfl ?_
    refine XK.envS [(14, .int .i64 (i + 1 : Nat)), (13, .int .i64 st.length), (3, .slice A n k), (0, .pointer (some ⟨L.t, 0, none⟩))] ?_
    exact XK.round (st.length - (i + 1)) (by omega) ⟨i + 1, n, A, k, xs, hlt, by omega, rfl, rfl, rfl, rfl⟩
   ·cases wanted
    ·have ht1 : tickL1 ⟨left, true, false⟩ = ⟨left, true, false⟩ := by simp [tickL1, hp]
     rw [ht1] at hset
     refine XK.go ?_
     refine XK.draw 6 (by kernel_rfl) (by kernel_rfl) ?_
     refine XA.q 0 ?_
     refine XA.q 1 ?_
     refine XA.q 2 ?_
     refine XA.q 3 ?_
     refine XA.q 4 ?_
     refine XA.q 5 ?_
     refine XA.next 6 rfl (by kernel_rfl) ?_
     refine xk_mapUpdate (kt := 3) (et := 237) (kd := .i64) (l := lnL s ((st.map tickL1).take i ++ st.drop i)) (v := lnV r ⟨left, true, false⟩) 1 (by kernel_rfl) (by kernel_rfl) rfl rfl rfl rfl ?_
     rw [hset]
     dsimp only [List.set]
     refine XA.bt ?_
     refine XA.done (by kernel_rfl) ?_
     refine XK.go ?_
     refine XK.weak [1, 2, 3, 4] rfl (by decide) (fun _ h => h) ?_
     refine XK.closeLines 1 rfl ?_
     refine XK.envS [(14, .int .i64 (i + 1 : Nat)), (13, .int .i64 st.length), (3, .slice A n k), (0, .pointer (some ⟨L.t, 0, none⟩))] ?_
     exact XK.round (st.length - (i + 1)) (by omega) ⟨i + 1, n, A, k, xs, hlt, by omega, rfl, rfl, rfl, rfl⟩
    ·have ht1 : tickL1 ⟨left, true, true⟩ = ⟨left, false, false⟩ := by simp [tickL1, hp]
     rw [ht1] at hset
     refine XK.go ?_
     refine xk_slice (el := 3) (sz := 1) (zs := [.int .i64 0]) (by kernel_rfl) (zeroB_of (by kernel_rfl)) (by kernel_rfl) rfl (by decide) (by decide) rfl (by simp [fillL, setN, Value.cells, List.range_succ, List.set]; rfl) (by decide) fun g2 => ?_
     refine xk_appendT 4 1 8 1 (el := 3) (by kernel_rfl) (by kernel_rfl) (by decide) rfl rfl rfl (sl_blk 0 rfl rfl) (by simp [Value.oneCell']) rfl (by omega) (by omega) (by decide) fun A' k' => ?_
     dsimp only [List.set]
     refine XK.go ?_
     refine XK.draw 6 (by kernel_rfl) (by kernel_rfl) ?_
     refine XA.q 0 ?_
     refine XA.q 1 ?_
     refine XA.q 2 ?_
     refine XA.q 3 ?_
     refine XA.q 4 ?_
     refine XA.q 5 ?_
     refine XA.next 6 rfl (by kernel_rfl) ?_
     refine xk_mapUpdate (kt := 3) (et := 237) (kd := .i64) (l := lnL s ((st.map tickL1).take i ++ st.drop i)) (v := lnV r ⟨left, false, false⟩) 2 (by kernel_rfl) (by kernel_rfl) rfl rfl rfl rfl ?_
     rw [hset]
     dsimp only [List.set]
     refine XA.bt ?_
     refine XA.done (by kernel_rfl) ?_
     refine XK.go ?_
     refine XK.weak [2, 3, 4, 5] rfl (by decide) (fun _ h => h) ?_
     refine XK.closeLines 1 rfl ?_
     refine XK.envS [(14, .int .i64 (i + 1 : Nat)), (13, .int .i64 st.length), (3, .slice A' (n + 1) k'), (0, .pointer (some ⟨L.t, 0, none⟩))] ?_
     exact XK.round (st.length - (i + 1)) (by omega) ⟨i + 1, n + 1, A', k', _, hlt, by omega, rfl, rfl, rfl, rfl⟩
 ·obtain rfl : i = st.length := by omega
  have hfin : (st.map tickL1).take st.length ++ st.drop st.length = tickL st := by
   rw [List.drop_eq_nil_of_le (by omega), List.append_nil, List.take_of_length_le (by simp)]
   rfl
  rw [hfin]
  refine XK.go ?_
  exact XK.ret1 rfl rfl fun w1 t => ⟨(A, n, k), rfl, trivial, t.turns hF (by simp) (i := 1) rfl⟩
end
section
set_option maxHeartbeats 4000000
set_option maxRecDepth 20000
section
variable {N : Frm} {w0 w : World} {e : Env} {R : List Piece} {H : List HP} {K : Act → World → Prop} {L : HL} {s : Soc} {x : HwS}
theorem Rd.hard (i : Nat) {o : Nat} {v : Value} (hi : H[i]? = some (HardH L s x)) (hv : (hdC L s.devs.length)[o]? = some v) : Rd w0 R H L.h o v := fun w t => by
 obtain ⟨F, ⟨G, g1, g2, _⟩, h2, _⟩ := t.chunk hi
 have := (blk_ron (g1 0 _ rfl).2).at_ (j := o) hv
 rw [Nat.zero_add] at this
 exact this.2
end
variable (L : HL) (s : Soc) (x : HwS) (w : World)
theorem hdGate_m (hH : s.okH) (hLo : HLOk L s) (hok : HwOk s x) (i : Int) (on : Bool) (F : Nat → Prop) (hp : (HardH L s x).sat F w) (hF : ∀ b, F b → b < w.heap.size) :
  Calls Tryz.prog 23 #[.pointer (some ⟨L.h, 0, none⟩), .int .i64 i, .bool on] w (fun y w' => y = .returned (.int .i64 (onF s x.ck i on).1) ∧ ∃ F', (HardH L s { x with ck := (onF s x.ck i on).2 }).sat F' w' ∧ Turns w w' F F') := by
 have hdm := hH.t.nd
 refine XK.enterM (p := HardH L s x) (F := F) (vs := [.pointer (some ⟨L.h, 0, none⟩), .int .i64 i, .bool on]) Tryz.func23 rfl Tryz.ntmps23 (by simp) hp hF ?_
 refine XK.go ?_
 refine kcall (fun w1 t => hdMade_any L s x w1 (t.hardR 0 rfl hLo hok)) ?_
 refine XK.go ?_
 refine kd (does_ld1 rfl (Rd.hard 0 rfl rfl)) ?_
 refine XK.go ?_
 refine XK.take 0 1 rfl rfl ?_
 dsimp only [List.set]
 refine kcallW 0 (TreeH L.T s (onF s x.ck i on).2) (fun w1 F1 t h1 h2 h3 => clkOn_m L.T s x.ck hLo.fa hok.ck i on w1 F1 h1 h2) ?_
 dsimp only [List.set]
 refine XK.go ?_
 refine XK.give 0 1 rfl rfl ?_
 dsimp only [List.set]
 exact XK.ret1 rfl rfl fun w1 t => ⟨rfl, t.turns hF (by simp) (i := 0) rfl⟩
theorem hdUp_m (hH : s.okH) (hLo : HLOk L s) (hok : HwOk s x) (i : Int) (F : Nat → Prop) (hp : (HardH L s x).sat F w) (hF : ∀ b, F b → b < w.heap.size) :
  Calls Tryz.prog 24 #[.pointer (some ⟨L.h, 0, none⟩), .int .i64 i] w (fun y w' => y = .returned (.int .i64 (upF s x.dm i).1) ∧ ∃ F', (HardH L s { x with dm := (upF s x.dm i).2 }).sat F' w' ∧ Turns w w' F F') := by
 have hdm := hH.t.nd
 refine XK.enterM (p := HardH L s x) (F := F) (vs := [.pointer (some ⟨L.h, 0, none⟩), .int .i64 i]) Tryz.func24 rfl Tryz.ntmps24 (by simp) hp hF ?_
 refine XK.go ?_
 refine kcall (fun w1 t => hdMade_any L s x w1 (t.hardR 0 rfl hLo hok)) ?_
 refine XK.go ?_
 refine kd (does_ld1 rfl (Rd.hard 0 rfl rfl)) ?_
 refine XK.go ?_
 refine XK.take 0 2 rfl rfl ?_
 dsimp only [List.set]
 refine kcallW 0 (GridH L.G s (upF s x.dm i).2) (fun w1 F1 t h1 h2 h3 => powUp_m L.G s x.dm hH hok.dm i w1 F1 h1 h2) ?_
 dsimp only [List.set]
 refine XK.go ?_
 refine XK.give 0 2 rfl rfl ?_
 dsimp only [List.set]
 exact XK.ret1 rfl rfl fun w1 t => ⟨rfl, t.turns hF (by simp) (i := 0) rfl⟩
theorem hdRelease_m (hH : s.okH) (hLo : HLOk L s) (hok : HwOk s x) (i : Int) (F : Nat → Prop) (hp : (HardH L s x).sat F w) (hF : ∀ b, F b → b < w.heap.size) :
  Calls Tryz.prog 223 #[.pointer (some ⟨L.h, 0, none⟩), .int .i64 i] w (fun y w' => y = .returned (.int .i64 (releaseF x.ln i).1) ∧ ∃ F', (HardH L s { x with ln := (releaseF x.ln i).2 }).sat F' w' ∧ Turns w w' F F') := by
 have hdm := hH.t.nd
 refine XK.enterM (p := HardH L s x) (F := F) (vs := [.pointer (some ⟨L.h, 0, none⟩), .int .i64 i]) Tryz.func223 rfl Tryz.ntmps223 (by simp) hp hF ?_
 refine XK.go ?_
 refine kcall (fun w1 t => hdMade_any L s x w1 (t.hardR 0 rfl hLo hok)) ?_
 refine XK.go ?_
 refine kd (does_ld1 rfl (Rd.hard 0 rfl rfl)) ?_
 refine XK.go ?_
 refine XK.take 0 3 rfl rfl ?_
 dsimp only [List.set]
 refine kcallW 0 (LinesH L.R s (releaseF x.ln i).2) (fun w1 F1 t h1 h2 h3 => rstRelease_m L.R s x.ln hok.ln i w1 F1 h1 h2) ?_
 dsimp only [List.set]
 refine XK.go ?_
 refine XK.give 0 3 rfl rfl ?_
 dsimp only [List.set]
 exact XK.ret1 rfl rfl fun w1 t => ⟨rfl, t.turns hF (by simp) (i := 0) rfl⟩
end
section
def denyB (deny : Int) (i : Nat) : Bool := decide (and32 (deny.fdiv (2 ^ min i 32)) 1 = 1)
def midQ (x : HwS) (deny : Int) (n : Nat) : List (FlS × QtS) := x.dv.mapIdx fun i p => if i < n then (p.1, tickQ p.2 (decide (0 < wtN x.wt i)) (denyB deny i)) else p
def deedF (k : Int) (d : Dev) (f : FlS) : FlS := if k = 115 then saveF d f else if k = 114 then restF d f else if k = 108 ∨ k = 110 then clearF d f else f
def deed1 (s : Soc) (e : Int × Nat) (i : Nat) (p : FlS × QtS) : FlS × QtS := match s.devs[i]? with
 | some d => if d.domain = (e.2 : Int) then (deedF e.1 d p.1, p.2) else p
 | none => p
def midE (s : Soc) (dv : List (FlS × QtS)) (e : Int × Nat) (n : Nat) : List (FlS × QtS) := dv.mapIdx fun i p => if i < n then deed1 s e i p else p
def dvE (s : Soc) (dv : List (FlS × QtS)) (e : Int × Nat) : List (FlS × QtS) := midE s dv e s.devs.length
def tickX (s : Soc) (x : HwS) (deny : Int) : HwS := ⟨tickC s x.ck, tickG x.dm, tickL x.ln, (evsD x.dm s.domains.length).foldl (dvE s) (midQ x deny s.devs.length), x.wt, x.posted⟩
theorem mapIdx_zero {α : Type} (l : List α) (f : Nat → α → α) : (l.mapIdx fun i p => if i < 0 then f i p else p) = l := by
 refine List.ext_getElem? fun i => ?_
 simp
theorem mapIdx_step {α : Type} {l : List α} {f : Nat → α → α} {n : Nat} {p : α} (hp : l[n]? = some p) : (l.mapIdx fun i p => if i < n then f i p else p).set n (f n p) = l.mapIdx fun i p => if i < n + 1 then f i p else p := by
 refine List.ext_getElem? fun i => ?_
 have hlt := (List.getElem?_eq_some_iff.1 hp).1
 rw [List.getElem?_set]
 by_cases he : n = i
 ·subst he
  rw [if_pos rfl, if_pos (by simpa using hlt), List.getElem?_mapIdx, hp]
  simp
 ·rw [if_neg he, List.getElem?_mapIdx, List.getElem?_mapIdx]
  cases l[i]? with
  | none => rfl
  | some q =>
   simp only [Option.map_some, Option.some.injEq]
   by_cases h : i < n
   ·rw [if_pos h, if_pos (by omega)]
   ·rw [if_neg h, if_neg (by omega)]
theorem mapIdx_at {α : Type} {l : List α} {f : Nat → α → α} {n : Nat} {p : α} (hp : l[n]? = some p) : (l.mapIdx fun i p => if i < n then f i p else p)[n]? = some p := by
 rw [List.getElem?_mapIdx, hp]
 simp
theorem dvHs_get {ds : List Dev} {ls : List (FL × Nat)} {xs : List (FlS × QtS)} {i : Nat} {d : Dev} {l : FL × Nat} {p : FlS × QtS} (hd : ds[i]? = some d) (hl : ls[i]? = some l) (hp : xs[i]? = some p) : (dvHs ds ls xs)[i]? = some (dvH1 d (l, p)) := by
 have hq : (ls.zip xs)[i]? = some (l, p) := List.getElem?_zip_eq_some.2 ⟨hl, hp⟩
 rw [dvHs, List.getElem?_zipWith, hd, hq]
theorem dvHs_set {ds : List Dev} {ls : List (FL × Nat)} {xs : List (FlS × QtS)} {i : Nat} {d : Dev} {l : FL × Nat} {p : FlS × QtS} (hd : ds[i]? = some d) (hl : ls[i]? = some l) (hp : xs[i]? = some p) (p' : FlS × QtS) : (dvHs ds ls xs).set i (dvH1 d (l, p')) = dvHs ds ls (xs.set i p') := by
 refine List.ext_getElem? fun j => ?_
 have hlt := (List.getElem?_eq_some_iff.1 (dvHs_get hd hl hp)).1
 rw [List.getElem?_set]
 by_cases he : i = j
 ·subst he
  rw [if_pos rfl, if_pos hlt]
  exact (dvHs_get hd hl (List.getElem?_set_self (List.getElem?_eq_some_iff.1 hp).1)).symm
 ·rw [if_neg he]
  simp only [dvHs, List.getElem?_zipWith, List.zip, List.getElem?_set_ne he]
theorem dvRows_get {ds : List Dev} {ls : List (FL × Nat)} {i : Nat} {d : Dev} {l : FL × Nat} (hd : ds[i]? = some d) (hl : ls[i]? = some l) : (dvRows ds ls)[i]? = some (dvC d l) := by
 rw [dvRows, List.getElem?_zipWith, hd, hl]
theorem dvRows_len {ds : List Dev} {ls : List (FL × Nat)} : ∀ r ∈ dvRows ds ls, r.length = 6 := fun r hr => by
 obtain ⟨i, hi⟩ := List.getElem?_of_mem hr
 rw [dvRows, List.getElem?_zipWith] at hi
 split at hi
 ·cases hi; rfl
 ·cases hi
theorem tickQ_ok {x : QtS} (h : QtOk x) (a b : Bool) : QtOk (tickQ x a b) := by
 unfold tickQ
 unfold QtOk at h ⊢
 split
 ·exact h
 ·split
  ·exact ⟨(by show (0 : Int) ≤ 3; omega), (by show (3 : Int) ≤ 3; omega)⟩
  ·split
   ·exact h
   ·exact ⟨(by show (0 : Int) ≤ 2; omega), (by show (2 : Int) ≤ 3; omega)⟩
theorem save1_bd {r : Rg} {p : Int × Int} (h1 : 0 ≤ p.1 ∧ p.1 < 4294967296) (h2 : 0 ≤ p.2 ∧ p.2 < 4294967296) : 0 ≤ save1 r p ∧ save1 r p < 4294967296 := by
 unfold save1
 split <;> assumption
theorem deedF_ok {d : Dev} {f : FlS} (k : Int) (hr : ∀ r ∈ d.regs, 0 ≤ r.reset ∧ r.reset ≤ 6) (h : FlOk d f) : FlOk d (deedF k d f) := by
 have hres : ∀ v ∈ d.regs.map (·.reset), 0 ≤ v ∧ v < 4294967296 := fun v hv => by
  obtain ⟨r, hr1, rfl⟩ := List.mem_map.1 hv
  have := hr r hr1
  omega
 have h1 := h.now
 have h2 := h.saved
 unfold deedF
 split
 ·refine ⟨h1, by simp [saveF]; omega, h.u.1, fun v hv => ?_⟩
  obtain ⟨i, hi⟩ := List.getElem?_of_mem hv
  simp only [saveF, List.getElem?_zipWith] at hi
  split at hi
  ·rename_i r p hr1 hp1
   cases hi
   obtain ⟨hp2, hp3⟩ := List.getElem?_zip_eq_some.1 hp1
   exact save1_bd (h.u.1 _ (List.mem_of_getElem? hp2)) (h.u.2 _ (List.mem_of_getElem? hp3))
  ·cases hi
 ·split
  ·refine ⟨by simp [restF]; omega, h2, fun v hv => ?_, h.u.2⟩
   obtain ⟨i, hi⟩ := List.getElem?_of_mem hv
   simp only [restF, List.getElem?_zipWith] at hi
   split at hi
   ·rename_i r p hr1 hp1
    cases hi
    unfold rest1
    split
    ·exact h.u.2 _ (List.mem_of_getElem? hp1)
    ·have := hr r (List.mem_of_getElem? hr1)
     omega
   ·cases hi
  ·split
   ·exact ⟨by simp [clearF], h2, hres, h.u.2⟩
   ·exact h
theorem okE {s : Soc} {x : HwS} (hH : s.okH) (hok : HwOk s x) {dv : List (FlS × QtS)} (hl : dv.length = x.dv.length) (h : ∀ (i : Nat) (d : Dev) (p : FlS × QtS), s.devs[i]? = some d → dv[i]? = some p → FlOk d p.1 ∧ QtOk p.2) : HwOk s { x with dv := dv } := ⟨hok.ck, hok.dm, hok.ln, hl.trans hok.dv, h, hok.wt⟩
theorem midQ_ok {s : Soc} {x : HwS} (hH : s.okH) (hok : HwOk s x) (deny : Int) (n : Nat) : HwOk s { x with dv := midQ x deny n } := okE hH hok (by simp [midQ]) fun i d p hd hp => by
 rw [midQ, List.getElem?_mapIdx] at hp
 cases hq : x.dv[i]? with
 | none => rw [hq] at hp; cases hp
 | some q =>
  rw [hq] at hp
  obtain ⟨h1, h2⟩ := hok.each i d q hd hq
  simp only [Option.map_some, Option.some.injEq] at hp
  subst hp
  split
  ·exact ⟨h1, tickQ_ok h2 _ _⟩
  ·exact ⟨h1, h2⟩
theorem midE_ok {s : Soc} {x : HwS} (hH : s.okH) (hok : HwOk s x) (e : Int × Nat) (n : Nat) : HwOk s { x with dv := midE s x.dv e n } := okE hH hok (by simp [midE]) fun i d p hd hp => by
 rw [midE, List.getElem?_mapIdx] at hp
 cases hq : x.dv[i]? with
 | none => rw [hq] at hp; cases hp
 | some q =>
  rw [hq] at hp
  obtain ⟨h1, h2⟩ := hok.each i d q hd hq
  simp only [Option.map_some, Option.some.injEq] at hp
  subst hp
  split
  ·unfold deed1
   rw [hd]
   dsimp only
   split
   ·exact ⟨deedF_ok _ (hH.t.devs i d hd).2.2.2.2.2.2.2.2.2.1 h1, h2⟩
   ·exact ⟨h1, h2⟩
  ·exact ⟨h1, h2⟩
theorem foldE_ok {s : Soc} (hH : s.okH) : ∀ (es : List (Int × Nat)) (x : HwS), HwOk s x → HwOk s { x with dv := es.foldl (dvE s) x.dv }
 | [], x, h => h
 | e :: es, x, h => foldE_ok hH es { x with dv := dvE s x.dv e } (midE_ok hH h e _)
theorem midE_none {s : Soc} {dv : List (FlS × QtS)} {e : Int × Nat} (h : ¬ (e.1 = 115 ∨ e.1 = 114 ∨ e.1 = 108 ∨ e.1 = 110)) : dvE s dv e = dv := by
 unfold dvE midE
 refine List.ext_getElem? fun i => ?_
 rw [List.getElem?_mapIdx]
 cases dv[i]? with
 | none => rfl
 | some p =>
  simp only [Option.map_some, Option.some.injEq]
  split
  ·unfold deed1
   split
   ·split
    ·have : deedF e.1 (by assumption) p.1 = p.1 := by
      unfold deedF
      rw [if_neg (by omega), if_neg (by omega), if_neg (by omega)]
     rw [this]
    ·rfl
   ·rfl
  ·rfl
theorem tickL_ok {s : Soc} {st : List LnS} (h : LnOk s st) : LnOk s (tickL st) := by
 refine ⟨by simp [tickL, h.len], fun x hx => ?_⟩
 obtain ⟨y, hy, rfl⟩ := List.mem_map.1 hx
 have := h.left y hy
 unfold tickL1
 split
 ·exact this
 ·split
  ·dsimp only; omega
  ·split
   ·exact this
   ·exact this
theorem tickX_ok {s : Soc} {x : HwS} (hH : s.okH) (hok : HwOk s x) (deny : Int) : HwOk s (tickX s x deny) := by
 have h1 := foldE_ok hH (evsD x.dm s.domains.length) _ (midQ_ok hH hok deny s.devs.length)
 exact ⟨tickC_ok hH hok.ck, tickG_ok hok.dm, tickL_ok hok.ln, h1.dv, h1.each, hok.wt⟩
section
variable {N : Frm} {w0 w : World} {e : Env} {R : List Piece} {H : List HP} {K : Act → World → Prop} {L : HL} {s : Soc} {x : HwS}
def hdHoles (L : HL) (s : Soc) (x : HwS) : HP := HP.many [HP.blk L.h 134 (hdC L s.devs.length), TreeH L.T s x.ck, GridH L.G s x.dm, LinesH L.R s x.ln, BusH L.B (msF s) x.wt x.posted, HP.own 141 6 (.slice L.A s.devs.length L.c) s.devs.length (dvRows s.devs L.ds).flatten, HP.emp]
def dvHole (L : HL) (s : Soc) (x : HwS) (i : Nat) : HP := HP.many ((dvHs s.devs L.ds x.dv).set i HP.emp)
theorem XK.openDv (j i : Nat) {d : Dev} {l : FL × Nat} {p : FlS × QtS} (hj : H[j]? = some (HardH L s x)) (hd : s.devs[i]? = some d) (hl : L.ds[i]? = some l) (hp : x.dv[i]? = some p)
  (k : XK N w0 K e R (HP.many [FileH l.1 d p.1, QtH l.2 p.2] :: dvHole L s x i :: H.set j (hdHoles L s x))) : XK N w0 K e R H := by
 refine XK.take j 6 hj rfl ?_
 refine XK.take 0 i rfl (dvHs_get hd hl hp) ?_
 exact k
theorem XK.closeDv (j i : Nat) {d : Dev} {l : FL × Nat} {p p' : FlS × QtS} (hj : H[j]? = some (hdHoles L s x)) (hd : s.devs[i]? = some d) (hl : L.ds[i]? = some l) (hp : x.dv[i]? = some p)
  (k : XK N w0 K e R (H.set j (HardH L s { x with dv := x.dv.set i p' }))) : XK N w0 K e R (HP.many [FileH l.1 d p'.1, QtH l.2 p'.2] :: dvHole L s x i :: H) := by
 have hlt := (List.getElem?_eq_some_iff.1 (dvHs_get hd hl hp)).1
 refine XK.give 0 i rfl (by rw [List.getElem?_set_self (by simpa using hlt)]) ?_
 dsimp only [List.set]
 refine XK.give j 6 hj rfl ?_
 rw [List.set_set, show HP.many [FileH l.1 d p'.1, QtH l.2 p'.2] = dvH1 d (l, p') from rfl, dvHs_set hd hl hp p']
 exact k
theorem XK.rows (j : Nat) (hj : H[j]? = some (HardH L s x)) (hLo : HLOk L s) (hok : HwOk s x) (hn : 0 < s.devs.length) (k : ∀ b off, L.A = some ⟨b, off, none⟩ → XK N w0 K e R H) : XK N w0 K e R H := fun a w hr st => by
 obtain ⟨b, off, hA, _⟩ := (st.hardR j hj hLo hok).rows.2 hn
 exact k b off hA a w hr st
theorem RdN.dev (j : Nat) {i b off o : Nat} {d : Dev} {l : FL × Nat} (hj : H[j]? = some (HardH L s x)) (hLo : HLOk L s) (hok : HwOk s x) (hA : L.A = some ⟨b, off, none⟩) (hd : s.devs[i]? = some d) (hl : L.ds[i]? = some l) (ho : o = off + i * 6) : RdN w0 R H b o (dvC d l) := .of fun k v hv w st => by
 obtain ⟨b', off', hA', hr⟩ := SlS.row (st.hardR j hj hLo hok).rows (rows := dvRows s.devs L.ds) (fun r hr => dvRows_len r hr) (dvRows_get hd hl) (List.getElem?_eq_some_iff.1 hd).1
 rw [hA] at hA'
 cases hA'
 subst ho
 exact (hr.2 k v hv)
end
end
section
set_option maxHeartbeats 4000000
set_option maxRecDepth 20000
section
variable {P : Program} {N : Frm} {w0 : World} {e : Env} {R : List Piece} {H : List HP} {d : Nat} {ty : TypeId} {pos : String} {aft : Array Edge}
def funB (P : Program) (t : TypeId) : Bool := match P.underlying t with
 | some (.func ..) => true
 | _ => false
theorem run_eqN (w : World) (n : Nat) (t : TypeId) {f1 f2 : Array TypeId} {f3 : Bool} (hu : P.underlying t = some (.func f1 f2 f3)) : (Op.equalIn (n + 1) t .nilFunc .nilFunc).run P w = .ok true w := by simp [Op.equalIn, run_underlying hu]
theorem run_eqF (w : World) (n : Nat) (t : TypeId) {f1 f2 : Array TypeId} {f3 : Bool} (f : Fn) (fi ca : Array Value) (hu : P.underlying t = some (.func f1 f2 f3)) : (Op.equalIn (n + 1) t (.func f fi ca) .nilFunc).run P w = .ok false w := by simp [Op.equalIn, run_underlying hu]
theorem does_fN {x : Operand} {t u : TypeId} {v : Value} {b : Bool} (hx : e.ev x = some v) (hv : (v = .nilFunc ∧ b = true) ∨ (∃ f a c, v = .func f a c) ∧ b = false) (ht : funB P t = true := by kernel_rfl) : Does P N w0 e R H ⟨some d, .binOp .eql t x (.const .nilFunc) u, ty, pos, aft, none⟩ (.bool b) := does_of fun a w hr => by
 have h2 := hr.ev (show e.ev (.const .nilFunc) = some .nilFunc from rfl)
 unfold funB at ht
 split at ht
 ·rename_i f1 f2 f3 hu
  rcases hv with ⟨rfl, rfl⟩ | ⟨⟨f, fi, ca, rfl⟩, rfl⟩
  ·have h4 : (Op.equal t .nilFunc .nilFunc).run P w = .ok true w := run_eqN w 9999 t hu
   simp [execOp, hr.ev hx, h2, eqGuard, binOp, h4]
  ·have h4 : (Op.equal t (.func f fi ca) .nilFunc).run P w = .ok false w := run_eqF w 9999 t f fi ca hu
   simp [execOp, hr.ev hx, h2, eqGuard, binOp, h4]
 ·cases ht
end
def deedV (k : Int) : Value := if k = 115 then .func (.func 169) #[] #[] else if k = 114 then .func (.func 170) #[] #[] else if k = 108 ∨ k = 110 then .func (.func 142) #[] #[] else .nilFunc
theorem hdDeed_any (k : Int) (w : World) : Calls Tryz.prog 85 #[.int .u8 k] w (Rt (deedV k) w) := by
 refine XK.enter (vs := [.int .u8 k]) Tryz.func85 rfl Tryz.ntmps85 (by simp) ?_
 refine XK.go ?_
 refine XK.if_ rfl (fun h1 => ?_) (fun h1 => ?_)
 ·refine XK.go ?_
  exact XK.retE (by simp) (by rw [deedV, if_pos h1])
 refine XK.go ?_
 refine XK.if_ rfl (fun h2 => ?_) (fun h2 => ?_)
 ·refine XK.go ?_
  exact XK.retE (by simp) (by rw [deedV, if_neg h1, if_pos h2])
 refine XK.go ?_
 refine XK.if_ rfl (fun h3 => ?_) (fun h3 => ?_)
 ·refine XK.go ?_
  refine XK.if_ rfl (fun _ => ?_) (fun h => absurd h3 h)
  refine XK.go ?_
  exact XK.retE (by simp) (by rw [deedV, if_neg h1, if_neg h2, if_pos (.inl h3)])
 ·refine XK.go ?_
  refine XK.if_ rfl (fun h4 => ?_) (fun h4 => ?_)
  ·refine XK.go ?_
   exact XK.retE (by simp) (by rw [deedV, if_neg h1, if_neg h2, if_pos (.inr h4)])
  ·refine XK.go ?_
   exact XK.retE (by simp) (by rw [deedV, if_neg h1, if_neg h2, if_neg (by omega)])
theorem deed_ok {k : Int} (hk : k = 115 ∨ k = 114 ∨ k = 108 ∨ k = 110) : ∃ f : FuncId, deedV k = .func (.func f) #[] #[] ∧ callB Tryz.prog f = true ∧ ∀ (L : FL) (d : Dev) (x : FlS) (hrl : d.regs.length ≤ 100) (hok : FlOk d x) (w : World) (F : Nat → Prop) (hp : (FileH L d x).sat F w) (hF : ∀ b, F b → b < w.heap.size),
  Calls Tryz.prog f #[.pointer (some ⟨L.f, 0, none⟩)] w (fun y w' => y = .returned (.tuple #[]) ∧ ∃ F', (FileH L d (deedF k d x)).sat F' w' ∧ Turns w w' F F') := by
 rcases hk with rfl | rfl | rfl | rfl
 ·exact ⟨_, rfl, (by kernel_rfl), regsSave_m⟩
 ·exact ⟨_, rfl, (by kernel_rfl), regsRestore_m⟩
 ·exact ⟨_, rfl, (by kernel_rfl), regsClear_m⟩
 ·exact ⟨_, rfl, (by kernel_rfl), regsClear_m⟩
theorem busTake0_any (L : BL) (ms : List Int) (ws : List (Option Txn)) (posted : Int) (i : Nat) (hi : i < ms.length) (h0 : wtN ws i = 0) (w : World) (hR : BusR w L ms ws posted) :
  Calls Tryz.prog 163 #[.pointer (some ⟨L.b, 0, none⟩), .int .i64 (i : Int)] w (Rt (.tuple #[.agg #[.int .i64 0, .bool false, .int .i64 0, .int .u32 0], .bool false]) w) := by
 have k1 := hR.r0.at_ (j := 1) rfl
 obtain ⟨A, c, k2⟩ := hR.wt i hi
 rw [h0] at k2
 have hin : inB ms.length (i : Int) = true := decide_eq_true (by omega)
 refine XK.enter (vs := [.pointer (some ⟨L.b, 0, none⟩), .int .i64 (i : Int)]) Tryz.func163 rfl Tryz.ntmps163 (by simp) ?_
 refine XK.go ?_
 refine xk_alloc (cs := [.int .i64 0, .bool false, .int .i64 0, .int .u32 0]) (zeroB_of (by kernel_rfl)) (by decide) fun g1 => ?_
 refine XK.go ?_
 refine kcall (fun w1 t => busHas_any L ms ws posted i w1 (hR.below (t.below (by simp)))) ?_
 rw [hin]
 refine XK.go ?_
 refine kd (dat i i) ?_
 refine XK.go ?_
 refine xk_buildS (zs := [.int .i64 0, .bool false, .int .i64 0, .int .u32 0]) (L := [(0, 1), (1, 1), (2, 1), (3, 1)]) (zeroB_of (by kernel_rfl)) (by kernel_rfl) rfl (by simp [fillL, setN, Value.cells]; rfl) (by decide) ?_
 refine XK.go ?_
 exact XK.retCT (vs := [.int .i64 0, .bool false, .int .i64 0, .int .u32 0]) rfl (by kernel_rfl) rfl rfl (RdN.whole 0 rfl) rfl fun w1 t => ⟨rfl, t.below (by simp)⟩
theorem hdAnswer0_any (L : HL) (s : Soc) (x : HwS) (i : Nat) (hi : i < s.devs.length) (h0 : wtN x.wt i = 0) (w : World) (hR : HardR w L s x) :
  Calls Tryz.prog 80 #[.pointer (some ⟨L.h, 0, none⟩), .int .i64 (i : Int)] w (Rt (.tuple #[.agg #[.int .i64 0, .int .i64 0, .bool false, .int .u32 0], .bool false]) w) := by
 have k3 := hR.r0.at_ (j := 3) rfl
 refine XK.enter (vs := [.pointer (some ⟨L.h, 0, none⟩), .int .i64 (i : Int)]) Tryz.func80 rfl Tryz.ntmps80 (by simp) ?_
 refine XK.go ?_
 refine xk_alloc (cs := [.int .i64 0, .int .i64 0, .bool false, .int .u32 0]) (zeroB_of (by kernel_rfl)) (by decide) fun g1 => ?_
 refine XK.go ?_
 refine kcall (fun w1 t => busTake0_any L.B (msF s) x.wt x.posted i (by rw [msF_len]; exact hi) h0 w1 (hR.bus.below (t.below (by simp)))) ?_
 refine XK.go ?_
 refine xk_alloc (cs := [.int .i64 0, .bool false, .int .i64 0, .int .u32 0]) (zeroB_of (by kernel_rfl)) (by decide) fun g2 => ?_
 refine XK.go ?_
 refine xk_buildS (zs := [.int .i64 0, .int .i64 0, .bool false, .int .u32 0]) (L := [(0, 1), (1, 1), (2, 1), (3, 1)]) (zeroB_of (by kernel_rfl)) (by kernel_rfl) rfl (by simp [fillL, setN, Value.cells]; rfl) (by decide) ?_
 refine XK.go ?_
 exact XK.retCT (vs := [.int .i64 0, .int .i64 0, .bool false, .int .u32 0]) rfl (by kernel_rfl) rfl rfl (RdN.whole 1 rfl) rfl fun w1 t => ⟨rfl, t.below (by simp)⟩
end
section
set_option maxHeartbeats 4000000
set_option maxRecDepth 20000
def aliveF (s : Soc) (x : HwS) (i : Nat) : Bool := match s.devs[i]? with
 | some d => runI s x.ck d.clock && (decide (phaseF x.dm d.domain = 49) && !heldF x.ln d.reset)
 | none => false
def stateF (x : HwS) (i : Nat) : Int := ((x.dv[i]?).map fun p => letF p.2.at_).getD 0
theorem Rd.ofN {w0 : World} {R : List Piece} {H : List HP} {b o : Nat} {vs : List Value} {v : Value} (j : Nat) (h : RdN w0 R H b o vs) (hv : vs[j]? = some v) : Rd w0 R H b (o + j) v := fun w st => h w st j v hv
section
variable (L : HL) (s : Soc) (x : HwS) (w : World)
theorem hdRunning_any (hH : s.okH) (i : Int) (hR : HardR w L s x) : Calls Tryz.prog 222 #[.pointer (some ⟨L.h, 0, none⟩), .int .i64 i] w (Rt (.bool (runI s x.ck i)) w) := by
 have k0 := hR.r0.at_ (j := 0) rfl
 refine XK.enter (vs := [.pointer (some ⟨L.h, 0, none⟩), .int .i64 i]) Tryz.func222 rfl Tryz.ntmps222 (by simp) ?_
 refine XK.go ?_
 refine kcall (fun w1 t => hdMade_any L s x w1 (hR.below (t.below (by simp)))) ?_
 refine XK.go ?_
 refine kcall (fun w1 t => clkRunning_any L.T s x.ck hH i w1 (hR.tree.below (t.below (by simp)))) ?_
 refine XK.go ?_
 exact XK.retE (by simp) rfl
theorem hdAlive_any (hH : s.okH) (hLo : HLOk L s) (hok : HwOk s x) (i : Nat) (hi : i < s.devs.length) (hR : HardR w L s x) : Calls Tryz.prog 30 #[.pointer (some ⟨L.h, 0, none⟩), .int .i64 (i : Int)] w (Rt (.bool (aliveF s x i)) w) := by
 have k0 := hR.r0.at_ (j := 0) rfl
 have k1 := hR.r0.at_ (j := 1) rfl
 have k2 := hR.r0.at_ (j := 2) rfl
 have k4 := hR.r0.at_ (j := 4) rfl
 have hls := hLo.ds
 obtain ⟨d, hd1⟩ := get_some hi
 obtain ⟨l, hl1⟩ := get_some (l := L.ds) (i := i) (by omega)
 obtain ⟨b, off, hA, hr⟩ := SlS.row hR.rows (rows := dvRows s.devs L.ds) (fun r hr => dvRows_len r hr) (dvRows_get hd1 hl1) hi
 have hin : inB s.devs.length (i : Int) = true := decide_eq_true (by omega)
 have hal : aliveF s x i = (runI s x.ck d.clock && (decide (phaseF x.dm d.domain = 49) && !heldF x.ln d.reset)) := by
  unfold aliveF
  rw [hd1]
 rw [hal]
 refine XK.enter (vs := [.pointer (some ⟨L.h, 0, none⟩), .int .i64 (i : Int)]) Tryz.func30 rfl Tryz.ntmps30 (by simp) ?_
 refine XK.go ?_
 refine kcall (fun w1 t => hdHas_any L s x w1 i (hR.below (t.below (by simp)))) ?_
 rw [hin]
 refine XK.go ?_
 refine kd (dat i (off + i * 6) (hx := by rw [← hA]; rfl)) ?_
 refine kd (does_ldA (vs := dvC d l) rfl (RdN.roc (by simp) hr)) ?_
 refine xk_alloc (cs := [.int .i64 0, .int .i64 0, .int .i64 0, .int .u32 0, .pointer none, .pointer none]) (zeroB_of (by kernel_rfl)) (by decide) fun g1 => ?_
 refine XK.go ?_
 refine XK.drawQ ?_
 refine XQ.go ?_
 refine XQ.call (fun w1 t => clkRunning_any L.T s x.ck hH d.clock w1 (hR.tree.below (t.below (by simp)))) ?_
 cases hrun : runI s x.ck d.clock
 ·refine XQ.end_ ?_
  refine XK.go ?_
  exact XK.retE (by simp) rfl
 ·refine XQ.go ?_
  refine XQ.call (fun w1 t => powPhase_any L.G s x.dm hok.dm d.domain w1 (RowR.below hR.grid (t.below (by simp)))) ?_
  refine XQ.go ?_
  refine XQ.split 32 rfl (fun hp => ?_) (fun hp => ?_)
  ·rw [decide_eq_true hp]
   refine XQ.go ?_
   refine XQ.call (fun w1 t => rstHeld_any L.R s x.ln d.reset w1 (hR.lines.below (t.below (by simp)))) ?_
   refine XQ.end_ ?_
   refine XK.go ?_
   exact XK.retE (by simp) rfl
  ·rw [decide_eq_false hp]
   refine XQ.end_ ?_
   refine XK.go ?_
   exact XK.retE (by simp) rfl
theorem hdState_any (hLo : HLOk L s) (hok : HwOk s x) (i : Nat) (hi : i < s.devs.length) (hLt : Letters w) (hR : HardR w L s x) : Calls Tryz.prog 31 #[.pointer (some ⟨L.h, 0, none⟩), .int .i64 (i : Int)] w (Rt (.int .u8 (stateF x i)) w) := by
 have k4 := hR.r0.at_ (j := 4) rfl
 have hls := hLo.ds
 have hdl := hok.dv
 obtain ⟨d, hd1⟩ := get_some hi
 obtain ⟨l, hl1⟩ := get_some (l := L.ds) (i := i) (by omega)
 obtain ⟨p, hp1⟩ := get_some (l := x.dv) (i := i) (by omega)
 obtain ⟨b, off, hA, hr⟩ := SlS.row hR.rows (rows := dvRows s.devs L.ds) (fun r hr => dvRows_len r hr) (dvRows_get hd1 hl1) hi
 have k5 := hr.at_ (j := 5) rfl
 have hin : inB s.devs.length (i : Int) = true := decide_eq_true (by omega)
 have hst : stateF x i = letF p.2.at_ := by
  unfold stateF
  rw [hp1]
  rfl
 rw [hst]
 refine XK.enter (vs := [.pointer (some ⟨L.h, 0, none⟩), .int .i64 (i : Int)]) Tryz.func31 rfl Tryz.ntmps31 (by simp) ?_
 refine XK.go ?_
 refine kcall (fun w1 t => hdHas_any L s x w1 i (hR.below (t.below (by simp)))) ?_
 rw [hin]
 refine XK.go ?_
 refine kd (dat i (off + i * 6) (hx := by rw [← hA]; rfl)) ?_
 refine XK.go ?_
 refine kcall (fun w1 t => qtState_any l.2 p.2 (hok.each i d p hd1 hp1).2 w1 (hLt.below (t.below (by simp))) ((hR.below (t.below (by simp))).each i d l p hd1 hl1 hp1).2) ?_
 refine XK.go ?_
 exact XK.retE (by simp) rfl
def leaveX (x : HwS) (i : Nat) : HwS := { x with dv := match x.dv[i]? with | some p => x.dv.set i (p.1, (leaveQ p.2).2) | none => x.dv }
theorem hdLeave_m (hH : s.okH) (hLo : HLOk L s) (hok : HwOk s x) (i : Nat) (hi : i < s.devs.length) (F : Nat → Prop) (hp : (HardH L s x).sat F w) (hF : ∀ b, F b → b < w.heap.size) :
  Calls Tryz.prog 219 #[.pointer (some ⟨L.h, 0, none⟩), .int .i64 (i : Int)] w (fun y w' => ∃ r : Int, y = .returned (.int .i64 r) ∧ True ∧ ∃ F', (HardH L s (leaveX x i)).sat F' w' ∧ Turns w w' F F') := by
 have hls := hLo.ds
 have hdl := hok.dv
 obtain ⟨d, hd1⟩ := get_some hi
 obtain ⟨l, hl1⟩ := get_some (l := L.ds) (i := i) (by omega)
 obtain ⟨p, hp1⟩ := get_some (l := x.dv) (i := i) (by omega)
 have hin : inB s.devs.length (i : Int) = true := decide_eq_true (by omega)
 have hX : leaveX x i = { x with dv := x.dv.set i (p.1, (leaveQ p.2).2) } := by
  unfold leaveX
  rw [hp1]
 rw [hX]
 refine XK.enterM (p := HardH L s x) (F := F) (vs := [.pointer (some ⟨L.h, 0, none⟩), .int .i64 (i : Int)]) Tryz.func219 rfl Tryz.ntmps219 (by simp) hp hF ?_
 refine XK.go ?_
 refine kcall (fun w1 t => hdHas_any L s x w1 i (t.hardR 0 rfl hLo hok)) ?_
 rw [hin]
 refine XK.go ?_
 refine kd (does_ld1 rfl (Rd.hard 0 rfl rfl)) ?_
 refine XK.rows 0 rfl hLo hok (by omega) fun b off hA => ?_
 refine XK.go ?_
 refine kd (dat i (off + i * 6) (hx := by rw [← hA]; rfl)) ?_
 refine XK.go ?_
 refine kd (does_ld1 rfl (Rd.ofN (vs := dvC d l) 5 (RdN.dev 0 rfl hLo hok hA hd1 hl1 rfl) rfl)) ?_
 refine XK.openDv 0 i rfl hd1 hl1 hp1 ?_
 dsimp only [List.set]
 refine XK.take 0 1 rfl rfl ?_
 dsimp only [List.set]
 refine kcallW 0 (QtH l.2 (leaveQ p.2).2) (fun w1 F1 t h1 h2 h3 => qtLeave_m h1 h2) ?_
 dsimp only [List.set]
 refine XK.give 0 1 rfl rfl ?_
 dsimp only [List.set]
 refine XK.closeDv 0 i rfl hd1 hl1 hp1 (p' := (p.1, (leaveQ p.2).2)) ?_
 dsimp only [List.set]
 refine XK.go ?_
 exact XK.ret1 rfl rfl fun w1 t => ⟨_, rfl, trivial, t.turns hF (by simp) (i := 0) rfl⟩
end
end
section
section
variable {s : Soc} {x : HwS} {l : Int} {b : Nat} {m a : List Int}
end
theorem onF_ok {s : Soc} {st : List CkS} (hH : s.okH) (h : CkOk s st) (i : Int) (b : Bool) : CkOk s (onF s st i b).2 := by
 unfold onF
 split
 ·exact h
 ·split
  ·rename_i c x hc hx
   split
   ·exact h
   ·refine ⟨by simp [h.len], fun y hy => ?_⟩
    rcases List.mem_or_eq_of_mem_set hy with hy | rfl
    ·exact h.left y hy
    ·have h1 := (hH.t.clocks i.toNat c hc).2
     have h2 := h.left x (List.mem_of_getElem? hx)
     unfold onC
     dsimp only
     split
     ·omega
     ·exact h2
  ·exact h
theorem upF_ok {s : Soc} {st : List DmS} (hH : s.okH) (h : DmOk s st) (i : Int) : DmOk s (upF s st i).2 := by
 unfold upF
 split
 ·exact h
 ·split
  ·rename_i c x hc hx
   split
   ·exact h
   ·have h1 := (hH.domains i.toNat c hc).2
    refine ⟨by simp [h.len], fun y hy => ?_, fun y hy => ?_⟩
    ·rcases List.mem_or_eq_of_mem_set hy with hy | rfl
     ·exact h.left y hy
     ·exact h1
    ·rcases List.mem_or_eq_of_mem_set hy with hy | rfl
     ·exact h.phase y hy
     ·exact ⟨by show (0 : Int) ≤ 114; omega, by show (114 : Int) < 256; omega⟩
  ·exact h
end
section
set_option maxHeartbeats 4000000
set_option maxRecDepth 20000
def LetP (p : Piece) : Prop := ∀ (i : Nat) (v : Int), [(114 : Int), 97, 115, 100][i]? = some v → p.Z 0 ∧ p.w.cell? ⟨0, i, none⟩ = some (.int .u8 v)
theorem LetP.at_ {p : Piece} {w : World} (h : LetP p) (hl : p.Le (all w)) : Letters w := fun i v hv => by
 obtain ⟨h1, h2⟩ := h i v hv
 obtain ⟨h3, h4⟩ := hl 0 h1
 refine ⟨h3, ?_⟩
 rw [← h2]
 exact World.cell?_of_block h4
theorem LetP.le {p q : Piece} (h : LetP p) (hl : p.Le q) : LetP q := fun i v hv => by
 obtain ⟨h1, h2⟩ := h i v hv
 obtain ⟨h3, h4⟩ := hl 0 h1
 exact ⟨h3, (World.cell?_of_block h4).trans h2⟩
def leave1 (s : Soc) (d : Int) (k : Nat) (p : FlS × QtS) : FlS × QtS := match s.devs[k]? with
 | some dv => if dv.domain = d then (p.1, (leaveQ p.2).2) else p
 | none => p
def leaveN (s : Soc) (x : HwS) (d : Int) (n : Nat) : List (FlS × QtS) := x.dv.mapIdx fun k p => if k < n then leave1 s d k p else p
def powOnF (s : Soc) (x : HwS) (d : Int) : HwS × Bool :=
 if phaseF x.dm d = 48 ∨ phaseF x.dm d = 116 then ({ x with dm := (upF s x.dm d).2 }, false)
 else if phaseF x.dm d = 49 then ({ x with dv := leaveN s x d s.devs.length }, true) else (x, false)
def clkOnF (s : Soc) (x : HwS) (c : Nat) : HwS × Bool :=
 ({ x with ck := (onF s x.ck c true).2 }, runI s (onF s x.ck c true).2 c || (decide ((chainL s c).length < 2) || !runI s (onF s x.ck c true).2 ((chainL s c).getD 1 0 : Nat)))
def relF (x : HwS) (i : Int) : HwS × Bool := if heldF x.ln i then ({ x with ln := (releaseF x.ln i).2 }, false) else (x, true)
theorem leaveQ_ok {x : QtS} (h : QtOk x) : QtOk (leaveQ x).2 := by
 unfold leaveQ
 split
 ·exact h
 ·exact ⟨by show (0 : Int) ≤ 0; omega, by show (0 : Int) ≤ 3; omega⟩
theorem leaveN_ok {s : Soc} {x : HwS} (hH : s.okH) (hok : HwOk s x) (d : Int) (n : Nat) : HwOk s { x with dv := leaveN s x d n } := okE hH hok (by simp [leaveN]) fun i e p hd hp => by
 rw [leaveN, List.getElem?_mapIdx] at hp
 cases hq : x.dv[i]? with
 | none => rw [hq] at hp; cases hp
 | some q =>
  rw [hq] at hp
  obtain ⟨h1, h2⟩ := hok.each i e q hd hq
  simp only [Option.map_some, Option.some.injEq] at hp
  subst hp
  split
  ·unfold leave1
   rw [hd]
   dsimp only
   split
   ·exact ⟨h1, leaveQ_ok h2⟩
   ·exact ⟨h1, h2⟩
  ·exact ⟨h1, h2⟩
section
variable {N : Frm} {w0 w : World} {e : Env} {R : List Piece} {H : List HP} {Q : Exit → Act → World → Prop} {ops : Array Oper} {rest : List Oper} {K : Act → World → Prop}
variable {d : Nat} {ty : TypeId} {pos : String} {aft : Array Edge} {f h : Nat} {L : FmL} {s : Soc} {z : FmS}
theorem xk_ldP (n : Nat) (Φ : List Value → Prop) {x : Operand} {t : TypeId} {b o : Nat} [hT : RwT t n] (hx : e.ev x = some (.pointer (some ⟨b, o, none⟩))) (h : ∀ w, St w0 R H w → ∃ vs, ROn w b o vs ∧ vs.length = n ∧ Φ vs) (k : ∀ vs, Φ vs → XK N w0 (wpList Tryz.prog ops Q rest) ((d, .agg vs.toArray) :: e) R H) (hd : d < N.n := by decide) :
  XK N w0 (wpList Tryz.prog ops Q (⟨some d, .load t x, ty, pos, aft, none⟩ :: rest)) e R H := xk_run rfl fun a w hr st => by
 obtain ⟨vs, h1, h2, h3⟩ := h w st
 exact ⟨.agg vs.toArray, w, does_loadN (N := N) (w0 := w) (R := [all w]) (H := []) (d := d) (ty := ty) (pos := pos) (aft := aft) n hT.h hx (RdN.roc (by simp) h1) h2 a w hr (St.start w), k vs h3 _ _ (hr.put hd _) st⟩
theorem XK.socDev (j : Nat) (hj : H[j]? = some (FirmH f h L s z)) (hn : 0 < s.devs.length) (k : ∀ b off, L.a4.1 = some ⟨b, off, none⟩ → XK N w0 K e R H) : XK N w0 K e R H := fun a w hr st => by
 obtain ⟨b, off, r, hA, _⟩ := RsR.row (st.firmR j hj).so.dev (List.getElem?_eq_getElem hn)
 exact k b off hA a w hr st
def DevV (d : Dev) (vs : List Value) : Prop := ∃ A n k A' n' k', vs = [.int .i64 d.clock, .int .i64 d.domain, .int .i64 d.reset, .int .u32 d.clamp, .slice A n k, .slice A' n' k']
theorem firm_dev {i b off : Nat} {d : Dev} (kf : FirmR w f h L s z) (hA : L.a4.1 = some ⟨b, off, none⟩) (hd : s.devs[i]? = some d) : ∃ vs, ROn w b (off + i * 6) vs ∧ vs.length = 6 ∧ DevV d vs := by
 obtain ⟨b', off', r, hA', hl, ⟨A, n, k, A', n', k', he, _⟩, hro⟩ := RsR.row kf.so.dev hd
 rw [hA] at hA'
 cases hA'
 exact ⟨r, hro, hl, A, n, k, A', n', k', he⟩
end
variable (f : Nat) (hL : HL) (s : Soc) (z : FmS) (x : HwS) (w : World)
theorem fmPowerOn_m (hH : s.okH) (hLo : HLOk hL s) (hok : HwOk s x) (d : Int) (F : Nat → Prop) (hp : (MachH f hL s z x).sat F w) (hF : ∀ b, F b → b < w.heap.size) (hLt : LetP ⟨w, fun b => b < w.heap.size ∧ ¬ F b⟩) :
  Calls Tryz.prog 152 #[.pointer (some ⟨f, 0, none⟩), .int .i64 d] w (fun y w' => y = .returned (.bool (powOnF s x d).2) ∧ ∃ F', (MachH f hL s z (powOnF s x d).1).sat F' w' ∧ Turns w w' F F') := by
 have hnv := hH.t.nv
 have hdl := hok.dv
 refine XK.enterM (p := MachH f hL s z x) (F := F) (vs := [.pointer (some ⟨f, 0, none⟩), .int .i64 d]) Tryz.func152 rfl Tryz.ntmps152 (by simp) hp hF ?_
 generalize hR0 : (⟨w, fun b => b < w.heap.size ∧ ¬ F b⟩ : Piece) = R0 at hLt ⊢
 refine XK.take 0 0 rfl rfl ?_
 dsimp only [List.set]
 refine XK.openEx 0 rfl fun L => ?_
 dsimp only [List.set]
 refine XK.take 1 1 rfl rfl ?_
 dsimp only [List.set]
 refine XK.go ?_
 refine kd (does_ld1 rfl (Rd.firm 1 rfl rfl)) ?_
 refine XK.go ?_
 refine kcall (fun w1 t => hdPhase_any hL s x w1 hok.dm d (t.hardR 0 rfl hLo hok)) ?_
 unfold powOnF
 generalize hph : phaseF x.dm d = ph
 by_cases h48 : ph = 48
 ·subst h48
  rw [if_pos (.inl rfl)]
  refine XK.go ?_
  refine kd (does_ld1 rfl (Rd.firm 1 rfl rfl)) ?_
  refine XK.go ?_
  refine kcallW 0 (HardH hL s { x with dm := (upF s x.dm d).2 }) (fun w1 F1 t h1 h2 h3 => hdUp_m hL s x w1 hH hLo hok d F1 h1 h2) ?_
  dsimp only [List.set]
  refine XK.go ?_
  refine XK.give 1 1 rfl rfl ?_
  dsimp only [List.set]
  refine XK.toEx 0 (f := fun L : FmL => FirmH f hL.h L s z) L rfl ?_
  dsimp only [List.set]
  refine XK.give 0 0 rfl rfl ?_
  dsimp only [List.set]
  subst hR0
  exact XK.ret1 rfl rfl fun w1 t => ⟨rfl, t.turns hF (by simp) (i := 0) rfl⟩
 by_cases h116 : ph = 116
 ·subst h116
  rw [if_pos (.inr rfl)]
  refine XK.go ?_
  refine kd (does_ld1 rfl (Rd.firm 1 rfl rfl)) ?_
  refine XK.go ?_
  refine kcallW 0 (HardH hL s { x with dm := (upF s x.dm d).2 }) (fun w1 F1 t h1 h2 h3 => hdUp_m hL s x w1 hH hLo hok d F1 h1 h2) ?_
  dsimp only [List.set]
  refine XK.go ?_
  refine XK.give 1 1 rfl rfl ?_
  dsimp only [List.set]
  refine XK.toEx 0 (f := fun L : FmL => FirmH f hL.h L s z) L rfl ?_
  dsimp only [List.set]
  refine XK.give 0 0 rfl rfl ?_
  dsimp only [List.set]
  subst hR0
  exact XK.ret1 rfl rfl fun w1 t => ⟨rfl, t.turns hF (by simp) (i := 0) rfl⟩
 rw [if_neg (by omega)]
 by_cases h49 : ph = 49
 ·subst h49
  rw [if_pos rfl]
  refine XK.go ?_
  refine kd (does_ld1 rfl (Rd.firm 1 rfl rfl)) ?_
  refine XK.go ?_
  have hm0 : leaveN s x d 0 = x.dv := mapIdx_zero _ _
  refine XK.envS [(31, .int .i64 (0)), (30, .int .i64 s.devs.length), (29, .slice L.a4.1 s.devs.length L.a4.2), (0, .pointer (some ⟨f, 0, none⟩)), (1, .int .i64 d)] ?_
  refine XK.loop (fun m e R H => ∃ i : Nat, i ≤ s.devs.length ∧ m = s.devs.length - i ∧ e = [(31, .int .i64 (i : Int)), (30, .int .i64 s.devs.length), (29, .slice L.a4.1 s.devs.length L.a4.2), (0, .pointer (some ⟨f, 0, none⟩)), (1, .int .i64 d)] ∧ R = [R0] ∧ H = [HardH hL s { x with dv := leaveN s x d i }, FirmH f hL.h L s z, HP.many [HP.emp, HP.emp]]) s.devs.length ⟨0, by omega, rfl, rfl, rfl, by rw [hm0]⟩ fun m e R H hI => ?_
  obtain ⟨i, hi, rfl, rfl, rfl, rfl⟩ := hI
  have hokm := leaveN_ok hH hok d i
  refine XK.go ?_
  refine XK.if_ rfl (fun hlt => ?_) (fun hge => ?_)
  ·have hlt : i < s.devs.length := by omega
   obtain ⟨dv, hd1⟩ := get_some hlt
   obtain ⟨p, hp1⟩ := get_some (l := x.dv) (i := i) (by omega)
   have hpm : (leaveN s x d i)[i]? = some p := mapIdx_at hp1
   have hstep : (leaveN s x d i).set i (leave1 s d i p) = leaveN s x d (i + 1) := mapIdx_step (f := leave1 s d) hp1
   obtain ⟨q1, q2⟩ := (hokm.each i dv p hd1 hpm).2
   refine XK.socDev 1 rfl (by omega) fun b off hA => ?_
   refine XK.go ?_
   refine kd (dat i (off + i * 6) (hx := by rw [← hA]; rfl)) ?_
   refine xk_ldP 6 (DevV dv) rfl (fun w1 t => firm_dev (t.firmR 1 rfl) hA hd1) ?_
   rintro _ ⟨A, n, k, A', n', k', rfl⟩
   refine xk_alloc (cs := [.int .i64 0, .int .i64 0, .int .i64 0, .int .u32 0, .slice none 0 0, .slice none 0 0]) (zeroB_of (by kernel_rfl)) (by decide) fun g1 => ?_
   refine XK.go ?_
   refine XK.if_ rfl (fun he => ?_) (fun he => ?_)
   ·have hd3 : leave1 s d i p = p := by
     unfold leave1
     rw [hd1]
     exact if_neg he
    rw [hd3, set_same hpm] at hstep
    rw [hstep]
    refine XK.go ?_
    refine XK.weak [1, 2, 3] rfl (by decide) (fun _ h => h) ?_
    refine XK.envS [(31, .int .i64 ((i + 1 : Nat) : Int)), (30, .int .i64 s.devs.length), (29, .slice L.a4.1 s.devs.length L.a4.2), (0, .pointer (some ⟨f, 0, none⟩)), (1, .int .i64 d)] ?_
    exact XK.round (s.devs.length - (i + 1)) (by omega) ⟨i + 1, hlt, rfl, rfl, rfl, rfl⟩
   ·have he : dv.domain = d := by simpa using he
    have hd3 : leave1 s d i p = (p.1, (leaveQ p.2).2) := by
     unfold leave1
     rw [hd1]
     exact if_pos he
    have hst : stateF { x with dv := leaveN s x d i } i = letF p.2.at_ := by
     unfold stateF
     dsimp only
     rw [hpm]
     rfl
    refine XK.go ?_
    refine kd (does_ld1 rfl (Rd.firm 2 rfl rfl)) ?_
    refine XK.go ?_
    refine kcall (fun w1 t => hdState_any hL s _ w1 hLo hokm i hlt (hLt.at_ (t.le (by simp))) (t.hardR 1 rfl hLo hokm)) ?_
    rw [hst]
    by_cases ha : p.2.at_ = 2 ∨ p.2.at_ = 3
    ·have hlf : letF p.2.at_ = 115 ∨ letF p.2.at_ = 100 := by
      rcases ha with ha | ha <;> rw [ha]
      ·exact .inl rfl
      ·exact .inr rfl
     rcases hlf with hlf | hlf <;> rw [hlf]
     all_goals
      refine XK.go ?_
      refine kd (does_ld1 rfl (Rd.firm 2 rfl rfl)) ?_
      refine XK.go ?_
      refine xk_callMV (α := Int) 1 (f := 219) (fi := []) (ca := []) (fun r => .int .i64 r) (fun _ => HardH hL s (leaveX { x with dv := leaveN s x d i } i)) (fun _ => True) (by kernel_rfl) rfl rfl rfl (by decide) (fun w1 F1 t h1 h2 h3 => hdLeave_m hL s _ w1 hH hLo hokm i hlt F1 h1 h2) ?_
      rintro _ _
      dsimp only [List.set]
      have hX : leaveX { x with dv := leaveN s x d i } i = { x with dv := leaveN s x d (i + 1) } := by
       unfold leaveX
       dsimp only
       rw [hpm, ← hstep, hd3]
      rw [hX]
      refine XK.go ?_
      refine XK.weak [1, 2, 3] rfl (by decide) (fun _ h => h) ?_
      refine XK.envS [(31, .int .i64 ((i + 1 : Nat) : Int)), (30, .int .i64 s.devs.length), (29, .slice L.a4.1 s.devs.length L.a4.2), (0, .pointer (some ⟨f, 0, none⟩)), (1, .int .i64 d)] ?_
      exact XK.round (s.devs.length - (i + 1)) (by omega) ⟨i + 1, hlt, rfl, rfl, rfl, rfl⟩
    ·have hq : (leaveQ p.2).2 = p.2 := by
      unfold leaveQ
      rw [if_pos (by omega)]
     have hlf : letF p.2.at_ = 114 ∨ letF p.2.at_ = 97 := by
      have : p.2.at_ = 0 ∨ p.2.at_ = 1 := by omega
      rcases this with ha | ha <;> rw [ha]
      ·exact .inl rfl
      ·exact .inr rfl
     rw [hd3, hq, set_same hpm] at hstep
     rcases hlf with hlf | hlf <;> rw [hlf, hstep]
     all_goals
      refine XK.go ?_
      refine XK.weak [1, 2, 3] rfl (by decide) (fun _ h => h) ?_
      refine XK.envS [(31, .int .i64 ((i + 1 : Nat) : Int)), (30, .int .i64 s.devs.length), (29, .slice L.a4.1 s.devs.length L.a4.2), (0, .pointer (some ⟨f, 0, none⟩)), (1, .int .i64 d)] ?_
      exact XK.round (s.devs.length - (i + 1)) (by omega) ⟨i + 1, hlt, rfl, rfl, rfl, rfl⟩
  obtain rfl : i = s.devs.length := by omega
  refine XK.go ?_
  refine XK.give 1 1 rfl rfl ?_
  dsimp only [List.set]
  refine XK.toEx 0 (f := fun L : FmL => FirmH f hL.h L s z) L rfl ?_
  dsimp only [List.set]
  refine XK.give 0 0 rfl rfl ?_
  dsimp only [List.set]
  subst hR0
  exact XK.ret1 rfl rfl fun w1 t => ⟨rfl, t.turns hF (by simp) (i := 0) rfl⟩
 ·rw [if_neg h49]
  refine XK.go ?_
  refine XK.if_ rfl (fun h => absurd h h48) (fun _ => ?_)
  refine XK.go ?_
  refine XK.if_ rfl (fun h => absurd h h116) (fun _ => ?_)
  refine XK.go ?_
  refine XK.if_ rfl (fun h => absurd h h49) (fun _ => ?_)
  refine XK.go ?_
  refine XK.give 1 1 rfl rfl ?_
  dsimp only [List.set]
  refine XK.toEx 0 (f := fun L : FmL => FirmH f hL.h L s z) L rfl ?_
  dsimp only [List.set]
  refine XK.give 0 0 rfl rfl ?_
  dsimp only [List.set]
  subst hR0
  exact XK.ret1 rfl rfl fun w1 t => ⟨rfl, t.turns hF (by simp) (i := 0) rfl⟩
theorem fmRelease_m (hH : s.okH) (hLo : HLOk hL s) (hok : HwOk s x) (i : Int) (F : Nat → Prop) (hp : (MachH f hL s z x).sat F w) (hF : ∀ b, F b → b < w.heap.size) :
  Calls Tryz.prog 156 #[.pointer (some ⟨f, 0, none⟩), .int .i64 i] w (fun y w' => y = .returned (.bool (relF x i).2) ∧ ∃ F', (MachH f hL s z (relF x i).1).sat F' w' ∧ Turns w w' F F') := by
 refine XK.enterM (p := MachH f hL s z x) (F := F) (vs := [.pointer (some ⟨f, 0, none⟩), .int .i64 i]) Tryz.func156 rfl Tryz.ntmps156 (by simp) hp hF ?_
 generalize hR0 : (⟨w, fun b => b < w.heap.size ∧ ¬ F b⟩ : Piece) = R0
 refine XK.take 0 0 rfl rfl ?_
 dsimp only [List.set]
 refine XK.openEx 0 rfl fun L => ?_
 dsimp only [List.set]
 refine XK.take 1 1 rfl rfl ?_
 dsimp only [List.set]
 refine XK.go ?_
 refine kd (does_ld1 rfl (Rd.firm 1 rfl rfl)) ?_
 refine XK.go ?_
 refine kcall (fun w1 t => hdHeld_any hL s x w1 i (t.hardR 0 rfl hLo hok)) ?_
 unfold relF
 cases hh : heldF x.ln i
 ·refine XK.go ?_
  refine XK.give 1 1 rfl rfl ?_
  dsimp only [List.set]
  refine XK.toEx 0 (f := fun L : FmL => FirmH f hL.h L s z) L rfl ?_
  dsimp only [List.set]
  refine XK.give 0 0 rfl rfl ?_
  dsimp only [List.set]
  subst hR0
  exact XK.ret1 rfl rfl fun w1 t => ⟨rfl, t.turns hF (by simp) (i := 0) rfl⟩
 ·refine XK.go ?_
  refine kd (does_ld1 rfl (Rd.firm 1 rfl rfl)) ?_
  refine XK.go ?_
  refine kcallW 0 (HardH hL s { x with ln := (releaseF x.ln i).2 }) (fun w1 F1 t h1 h2 h3 => hdRelease_m hL s x w1 hH hLo hok i F1 h1 h2) ?_
  dsimp only [List.set]
  refine XK.go ?_
  refine XK.give 1 1 rfl rfl ?_
  dsimp only [List.set]
  refine XK.toEx 0 (f := fun L : FmL => FirmH f hL.h L s z) L rfl ?_
  dsimp only [List.set]
  refine XK.give 0 0 rfl rfl ?_
  dsimp only [List.set]
  subst hR0
  exact XK.ret1 rfl rfl fun w1 t => ⟨rfl, t.turns hF (by simp) (i := 0) rfl⟩
theorem fmClockOn_m (hH : s.okH) (hLo : HLOk hL s) (hok : HwOk s x) (c : Nat) (hc : c < s.clocks.length) (F : Nat → Prop) (hp : (MachH f hL s z x).sat F w) (hF : ∀ b, F b → b < w.heap.size) :
  Calls Tryz.prog 154 #[.pointer (some ⟨f, 0, none⟩), .int .i64 (c : Int)] w (fun y w' => y = .returned (.bool (clkOnF s x c).2) ∧ ∃ F', (MachH f hL s z (clkOnF s x c).1).sat F' w' ∧ Turns w w' F F') := by
 refine XK.enterM (p := MachH f hL s z x) (F := F) (vs := [.pointer (some ⟨f, 0, none⟩), .int .i64 (c : Int)]) Tryz.func154 rfl Tryz.ntmps154 (by simp) hp hF ?_
 generalize hR0 : (⟨w, fun b => b < w.heap.size ∧ ¬ F b⟩ : Piece) = R0
 refine XK.take 0 0 rfl rfl ?_
 dsimp only [List.set]
 refine XK.openEx 0 rfl fun L => ?_
 dsimp only [List.set]
 refine XK.take 1 1 rfl rfl ?_
 dsimp only [List.set]
 refine XK.go ?_
 refine kd (does_ld1 rfl (Rd.firm 1 rfl rfl)) ?_
 refine XK.go ?_
 refine kcallW 0 (HardH hL s { x with ck := (onF s x.ck c true).2 }) (fun w1 F1 t h1 h2 h3 => hdGate_m hL s x w1 hH hLo hok c true F1 h1 h2) ?_
 dsimp only [List.set]
 have hok2 : HwOk s { x with ck := (onF s x.ck c true).2 } := ⟨onF_ok hH hok.ck _ _, hok.dm, hok.ln, hok.dv, hok.each, hok.wt⟩
 unfold clkOnF
 generalize hx2 : ({ x with ck := (onF s x.ck c true).2 } : HwS) = x2 at hok2 ⊢
 have hck : (onF s x.ck c true).2 = x2.ck := by rw [← hx2]
 rw [hck]
 refine XK.go ?_
 refine kd (does_ld1 rfl (Rd.firm 1 rfl rfl)) ?_
 refine XK.go ?_
 refine kcall (fun w1 t => hdRunning_any hL s x2 w1 hH c (t.hardR 0 rfl hLo hok2)) ?_
 cases hr : runI s x2.ck c
 ·refine XK.go ?_
  refine kd (does_ldA rfl (RdN.firm 1 rfl (vs := [.slice L.a1.1 s.clocks.length L.a1.2, .slice L.a2.1 s.domains.length L.a2.2, .slice L.a3.1 s.resets.length L.a3.2, .slice L.a4.1 s.devs.length L.a4.2]) rfl)) ?_
  refine XK.go ?_
  refine xk_call [] (f := 89) (fi := []) (ca := []) (by kernel_rfl) rfl rfl (by decide) (by simp) (IntsOk (chainL s c)) (fun w1 t => chain_any (all w1) s _ _ _ _ _ L.a1.2 _ L.a2.2 _ L.a3.2 _ L.a4.2 c w1 (t.firmR 1 rfl).so hH.t (Piece.Le.refl _) hc) ?_
  rintro _ w1 qm ⟨Ac, cc, rfl, hcl⟩ hf _ _
  have hcl := hcl.le hf
  clear hf
  refine XK.go ?_
  rcases hch : chainL s c with _ | ⟨c0, _ | ⟨c1, cr⟩⟩
  ·refine XK.drawQ ?_
   refine XQ.end_ ?_
   refine XK.go ?_
   refine XK.give 1 1 rfl rfl ?_
   dsimp only [List.set]
   refine XK.toEx 0 (f := fun L : FmL => FirmH f hL.h L s z) L rfl ?_
   dsimp only [List.set]
   refine XK.give 0 0 rfl rfl ?_
   dsimp only [List.set]
   subst hR0
   exact XK.ret1 rfl rfl fun w1 t => ⟨rfl, t.turns hF (by simp) (i := 0) rfl⟩
  ·refine XK.drawQ ?_
   refine XQ.end_ ?_
   refine XK.go ?_
   refine XK.give 1 1 rfl rfl ?_
   dsimp only [List.set]
   refine XK.toEx 0 (f := fun L : FmL => FirmH f hL.h L s z) L rfl ?_
   dsimp only [List.set]
   refine XK.give 0 0 rfl rfl ?_
   dsimp only [List.set]
   subst hR0
   exact XK.ret1 rfl rfl fun w1 t => ⟨rfl, t.turns hF (by simp) (i := 0) rfl⟩
  ·rw [hch] at hcl
   obtain ⟨b, off, hA, hb, hc2⟩ := hcl.2 (by simp)
   have r1 : Rd w [qm, R0] [HardH hL s x2, FirmH f hL.h L s z, HP.many [HP.emp, HP.emp]] b (off + 1) (.int .i64 (c1 : Int)) := Rd.ro (p := qm) (by simp) hb (hc2 1 _ rfl)
   have hlen : decide ((c0 :: c1 :: cr).length < 2) = false := by simp
   rw [hlen]
   refine XK.drawQ ?_
   refine XQ.go ?_
   refine XQ.split 27 rfl (fun h => absurd h (by simp; omega)) (fun _ => ?_)
   refine XQ.go ?_
   refine XQ.kd (does_ld1 rfl (Rd.firm 1 rfl rfl)) ?_
   refine XQ.go ?_
   refine XQ.kd (dat 1 (off + 1) (hx := by rw [← hA]; rfl) (hlt := by simp)) ?_
   refine XQ.go ?_
   refine XQ.call (fun w1 t => hdRunning_any hL s x2 w1 hH c1 (t.hardR 0 rfl hLo hok2)) ?_
   refine XQ.end_ ?_
   refine XK.go ?_
   refine XK.give 1 1 rfl rfl ?_
   dsimp only [List.set]
   refine XK.toEx 0 (f := fun L : FmL => FirmH f hL.h L s z) L rfl ?_
   dsimp only [List.set]
   refine XK.give 0 0 rfl rfl ?_
   dsimp only [List.set]
   subst hR0
   exact XK.ret1 rfl rfl fun w1 t => ⟨rfl, t.turns hF (by simp) (i := 0) rfl⟩
 ·refine XK.go ?_
  refine XK.give 1 1 rfl rfl ?_
  dsimp only [List.set]
  refine XK.toEx 0 (f := fun L : FmL => FirmH f hL.h L s z) L rfl ?_
  dsimp only [List.set]
  refine XK.give 0 0 rfl rfl ?_
  dsimp only [List.set]
  subst hR0
  exact XK.ret1 rfl rfl fun w1 t => ⟨rfl, t.turns hF (by simp) (i := 0) rfl⟩
end
section
set_option maxHeartbeats 4000000
set_option maxRecDepth 20000
def doV (k : Int) : Value :=
 if k = 117 then .func (.func 152) #[] #[] else if k = 100 ∨ k = 107 then .func (.func 153) #[] #[]
 else if k = 99 then .func (.func 154) #[] #[] else if k = 111 then .func (.func 155) #[] #[]
 else if k = 114 then .func (.func 156) #[] #[] else .func (.func 157) #[] #[]
theorem doing_any (k : Int) (w : World) : Calls Tryz.prog 75 #[.int .u8 k] w (Rt (doV k) w) := by
 refine XK.enter (vs := [.int .u8 k]) Tryz.func75 rfl Tryz.ntmps75 (by simp) ?_
 refine XK.go ?_
 refine XK.if_ rfl (fun h1 => ?_) (fun h1 => ?_)
 ·refine XK.go ?_
  exact XK.retE (by simp) (by rw [doV, if_pos h1])
 refine XK.go ?_
 refine XK.if_ rfl (fun h2 => ?_) (fun h2 => ?_)
 ·refine XK.go ?_
  refine XK.if_ rfl (fun _ => ?_) (fun h => absurd h2 h)
  refine XK.go ?_
  exact XK.retE (by simp) (by rw [doV, if_neg h1, if_pos (.inl h2)])
 refine XK.go ?_
 refine XK.if_ rfl (fun h3 => ?_) (fun h3 => ?_)
 ·refine XK.go ?_
  exact XK.retE (by simp) (by rw [doV, if_neg h1, if_pos (.inr h3)])
 have h23 : ¬ (k = 100 ∨ k = 107) := by omega
 refine XK.go ?_
 refine XK.if_ rfl (fun h4 => ?_) (fun h4 => ?_)
 ·refine XK.go ?_
  exact XK.retE (by simp) (by rw [doV, if_neg h1, if_neg h23, if_pos h4])
 refine XK.go ?_
 refine XK.if_ rfl (fun h5 => ?_) (fun h5 => ?_)
 ·refine XK.go ?_
  exact XK.retE (by simp) (by rw [doV, if_neg h1, if_neg h23, if_neg h4, if_pos h5])
 refine XK.go ?_
 refine XK.if_ rfl (fun h6 => ?_) (fun h6 => ?_)
 ·refine XK.go ?_
  exact XK.retE (by simp) (by rw [doV, if_neg h1, if_neg h23, if_neg h4, if_neg h5, if_pos h6])
 refine XK.go ?_
 exact XK.retE (by simp) (by rw [doV, if_neg h1, if_neg h23, if_neg h4, if_neg h5, if_neg h6])
theorem leaves_tmps {P : Program} {fn : Func} {R : Ending → World → Prop} (hr : fn.results = #[]) {t1 t2 : Array Value} : ∀ (ds : List Deferred) (u : FrameMode) (w : World), Leaves P fn t1 R ds u w → Leaves P fn t2 R ds u w
 | [], .returning, w, h => by
  obtain ⟨v, h1, h2⟩ := h
  rw [results_none hr] at h1
  cases h1
  exact ⟨_, results_none hr _ _ _, h2⟩
 | [], .panicking _, _, h => h
 | [], .run, _, h => h
 | d :: ds, u, w, h => by
  obtain ⟨h1, fv, cap, f, args, h2, h3, h4⟩ := h
  refine ⟨h1, fv, cap, f, args, h2, h3, h4.mono fun y u' w' hy => ?_⟩
  cases y with
  | returned v => exact leaves_tmps hr ds _ _ hy
  | panicked c => exact leaves_tmps hr ds _ _ hy
  | outgrown => exact hy
theorem putD {P : Program} {fn : Func} {R : Ending → World → Prop} {c : List PanicEntry} {a : Act} {d : Option Nat} {v : Value} {w : World} (hr : fn.results = #[]) (h : bodyPostD P fn R (.panic c) (a.put d v) w) : bodyPostD P fn R (.panic c) a w := by
 have hd : (a.put d v).defers = a.defers := by cases d <;> rfl
 have h2 : Leaves P fn (a.put d v).tmps R (a.put d v).defers (.panicking c) w := h
 rw [hd] at h2
 exact leaves_tmps hr _ _ _ h2
def ActC (f : Nat) (hL : HL) (s : Soc) (z : FmS) (x : HwS) (r : HwS × Bool) : Prop :=
 ∃ fn : FuncId, doV z.kind = .func (.func fn) #[] #[] ∧ callB Tryz.prog fn = true ∧ HwOk s r.1 ∧ ∀ (w : World) (F : Nat → Prop), (MachH f hL s z x).sat F w → (∀ b, F b → b < w.heap.size) → LetP ⟨w, fun b => b < w.heap.size ∧ ¬ F b⟩ →
  Calls Tryz.prog fn #[.pointer (some ⟨f, 0, none⟩), .int .i64 z.id] w (fun y w' => y = .returned (.bool r.2) ∧ ∃ F', (MachH f hL s z r.1).sat F' w' ∧ Turns w w' F F')
def endF (s : Soc) (z : FmS) (r : HwS × Bool) : FmS := if r.2 then replyF s r.1 { z with at_ := -1 } z.at_.toNat 0 else z
section
variable (f : Nat) (hL : HL) (s : Soc) (z : FmS) (x : HwS) (w : World)
theorem fmStep_go (hH : s.okH) (hLo : HLOk hL s) (hok : HwOk s x) (hz : FmOk s z) (a : Nat) (ha : z.at_ = (a : Int)) (ha2 : a < 2) (r : HwS × Bool) (hact : ActC f hL s z x r) (hrep : ReplyOk (boxW z a)) (F : Nat → Prop) (hp : (MachH f hL s z x).sat F w) (hF : ∀ b, F b → b < w.heap.size) (hLt : LetP ⟨w, fun b => b < w.heap.size ∧ ¬ F b⟩) :
  Calls Tryz.prog 20 #[.pointer (some ⟨f, 0, none⟩)] w (fun y w' => y = .returned (.tuple #[]) ∧ ∃ F', (MachH f hL s (endF s z r) r.1).sat F' w' ∧ Turns w w' F F') := by
 obtain ⟨fn, hdo, hcb, hokr, hcall⟩ := hact
 refine XK.enterDM (vs := [.pointer (some ⟨f, 0, none⟩)]) (p := MachH f hL s z x) Tryz.func20 rfl Tryz.ntmps20 (by simp) hp hF ?_
 generalize hR0 : (⟨w, fun b => b < w.heap.size ∧ ¬ F b⟩ : Piece) = R0 at hLt ⊢
 refine XK.go ?_
 refine xk_defer (f := 73) (fi := []) (ca := []) rfl ?_
 refine XK.go ?_
 refine kd (does_ld1 rfl (Rd.mach 0 rfl fun _ => rfl)) ?_
 refine XK.go ?_
 refine xk_split (t := 8) rfl (fun h => absurd h (by omega)) (fun _ => ?_)
 refine XK.go ?_
 refine XK.drawB [1, 2, 3, 4, 8, 9, 10, 11] ?_
 refine XB.mv 0 ?_ (hQ := fun _ _ _ h => putD rfl h)
 refine XB.mv 6 ?_ (hQ := fun _ _ _ h => putD rfl h)
 refine XB.mv 7 ?_ (hQ := fun _ _ _ h => putD rfl h)
 refine XB.q 1 ?_ (hQ := fun _ _ _ h => putD rfl h)
 refine XB.q 2 ?_ (hQ := fun _ _ _ h => putD rfl h)
 refine XB.q 3 ?_ (hQ := fun _ _ _ h => putD rfl h)
 refine XB.q 4 ?_ (hQ := fun _ _ _ h => putD rfl h) (hdo := does_ld1 rfl (Rd.mach 0 rfl fun _ => rfl))
 refine XB.q 8 ?_ (hQ := fun _ _ _ h => putD rfl h)
 refine XB.q 9 ?_ (hQ := fun _ _ _ h => putD rfl h)
 refine XB.q 10 ?_ (hQ := fun _ _ _ h => putD rfl h)
 refine XB.q 11 ?_ (hQ := fun _ _ _ h => putD rfl h) (hdo := does_ld1 rfl (Rd.mach 0 rfl fun _ => rfl))
 refine XB.next 5 rfl (by kernel_rfl) ?_
 refine kcall (fun w1 t => doing_any z.kind w1) ?_
 rw [hdo]
 refine XB.bk ?_
 refine XB.next 12 rfl (by kernel_rfl) ?_
 refine kcallWC 0 (fi := []) (ca := []) (MachH f hL s z r.1) (fun w1 F1 t h1 h2 h3 => by simpa using hcall w1 F1 h1 h2 (LetP.le hLt (h3 _ (by simp)))) ?_ (hf := hcb)
 dsimp only [List.set]
 refine XB.bt ?_
 refine XB.done (by kernel_rfl) ?_
 refine XK.go ?_
 obtain ⟨x', b⟩ := r
 dsimp only at hokr ⊢
 cases b
 ·refine XK.go ?_
  subst hR0
  exact XK.leave0 (.inr rfl) (by kernel_rfl) fmRec_idle rfl fun w1 t => ⟨rfl, t.turns hF (by simp) (i := 0) rfl⟩
 ·refine XK.go ?_
  refine kd (does_ld1 rfl (Rd.mach 0 rfl fun _ => rfl)) ?_
  refine XK.go ?_
  refine XK.take 0 0 rfl rfl ?_
  dsimp only [List.set]
  refine XK.openEx 0 rfl fun L => ?_
  dsimp only [List.set]
  refine XK.take 0 0 rfl rfl ?_
  dsimp only [List.set]
  refine kst rfl rfl ?_ (hs := StoreAt.mk 0 rfl OneT.h rfl (by simp [fmC]))
  dsimp only [List.set]
  rw [show (fmC hL.h L s z).set (0 + 16) (.int .i64 (-1)) = fmC hL.h L s { z with at_ := -1 } from rfl]
  refine XK.give 0 0 rfl rfl ?_
  dsimp only [List.set]
  refine XK.toEx 0 (f := fun L : FmL => FirmH f hL.h L s { z with at_ := -1 }) L rfl ?_
  dsimp only [List.set]
  refine XK.give 0 0 rfl rfl ?_
  dsimp only [List.set]
  refine XK.go ?_
  rw [ha]
  refine kcallW 0 (MachH f hL s (replyF s x' { z with at_ := -1 } a 0) x') (fun w1 F1 t h1 h2 h3 => fmReply_m f hL s { z with at_ := -1 } x' hH hLo hokr a ha2 0 (fun _ => hrep) w1 F1 h1 h2) ?_
  dsimp only [List.set]
  refine XK.go ?_
  have hend : endF s z (x', true) = replyF s x' { z with at_ := -1 } a 0 := by
   unfold endF
   rw [if_pos rfl, ha]
   rfl
  rw [hend]
  subst hR0
  exact XK.leave0 (.inr rfl) (by kernel_rfl) fmRec_idle rfl fun w1 t => ⟨rfl, t.turns hF (by simp) (i := 0) rfl⟩
end
end
section
set_option maxHeartbeats 4000000
set_option maxRecDepth 20000
def actF (s : Soc) (x : HwS) (k id : Int) : HwS × Bool := if k = 117 then powOnF s x id else if k = 99 then clkOnF s x id.toNat else if k = 114 then relF x id else (x, false)
structure KindOk (s : Soc) (k id : Int) : Prop where
 kd : k = 117 ∨ k = 99 ∨ k = 114
 c : k = 99 → 0 ≤ id ∧ id < (s.clocks.length : Int)
theorem releaseF_ok {s : Soc} {st : List LnS} (h : LnOk s st) (i : Int) : LnOk s (releaseF st i).2 := by
 unfold releaseF
 split
 ·exact h
 ·split
  ·rename_i x hx
   split
   ·exact h
   ·refine ⟨by simp [h.len], fun y hy => ?_⟩
    rcases List.mem_or_eq_of_mem_set hy with hy | rfl
    ·exact h.left y hy
    ·exact h.left x (List.mem_of_getElem? hx)
  ·exact h
theorem actF_ok {s : Soc} {x : HwS} (hH : s.okH) (hok : HwOk s x) (k id : Int) : HwOk s (actF s x k id).1 := by
 unfold actF
 split
 ·unfold powOnF
  split
  ·exact ⟨hok.ck, upF_ok hH hok.dm _, hok.ln, hok.dv, hok.each, hok.wt⟩
  ·split
   ·exact leaveN_ok hH hok _ _
   ·exact hok
 ·split
  ·exact ⟨onF_ok hH hok.ck _ _, hok.dm, hok.ln, hok.dv, hok.each, hok.wt⟩
  ·split
   ·unfold relF
    split
    ·exact ⟨hok.ck, hok.dm, releaseF_ok hok.ln _, hok.dv, hok.each, hok.wt⟩
    ·exact hok
   ·exact hok
section
variable (f : Nat) (hL : HL) (s : Soc) (z : FmS) (x : HwS) (w : World)
theorem act_ok (hH : s.okH) (hLo : HLOk hL s) (hok : HwOk s x) (hk : KindOk s z.kind z.id) : ActC f hL s z x (actF s x z.kind z.id) := by
 have hok2 := actF_ok hH hok z.kind z.id
 rcases hk.kd with h | h | h
 ·refine ⟨_, by rw [h]; rfl, (by kernel_rfl), hok2, fun w F hp hF hLt => ?_⟩
  rw [h]
  exact fmPowerOn_m f hL s z x w hH hLo hok z.id F hp hF hLt
 ·refine ⟨_, by rw [h]; rfl, (by kernel_rfl), hok2, fun w F hp hF hLt => ?_⟩
  obtain ⟨h0, h1⟩ := hk.c h
  obtain ⟨c, hc⟩ : ∃ c : Nat, z.id = c := ⟨z.id.toNat, by omega⟩
  rw [h, hc]
  exact fmClockOn_m f hL s z x w hH hLo hok c (by omega) F hp hF
 ·refine ⟨_, by rw [h]; rfl, (by kernel_rfl), hok2, fun w F hp hF hLt => ?_⟩
  rw [h]
  exact fmRelease_m f hL s z x w hH hLo hok z.id F hp hF
theorem fmStep_new (z0 : FmS) (hH : s.okH) (hLo : HLOk hL s) (hok : HwOk s x) (hz : FmOk s z0) (hat : z0.at_ < 0) (htk : takeF s x z0 = (z, true)) (hst : ∀ a, nextF z0 = some a → (decZ s x z0 a).2.1 = 0 → (decZ s x z0 a).1 = 0 → ReplyOk (boxW z0 a)) (a : Nat) (ha : z.at_ = (a : Int)) (ha2 : a < 2) (r : HwS × Bool) (hact : ActC f hL s z x r) (hrep : ReplyOk (boxW z a)) (F : Nat → Prop) (hp : (MachH f hL s z0 x).sat F w) (hF : ∀ b, F b → b < w.heap.size) (hLt : LetP ⟨w, fun b => b < w.heap.size ∧ ¬ F b⟩) :
  Calls Tryz.prog 20 #[.pointer (some ⟨f, 0, none⟩)] w (fun y w' => y = .returned (.tuple #[]) ∧ ∃ F', (MachH f hL s (endF s z r) r.1).sat F' w' ∧ Turns w w' F F') := by
 obtain ⟨fn, hdo, hcb, hokr, hcall⟩ := hact
 refine XK.enterDM (vs := [.pointer (some ⟨f, 0, none⟩)]) (p := MachH f hL s z0 x) Tryz.func20 rfl Tryz.ntmps20 (by simp) hp hF ?_
 generalize hR0 : (⟨w, fun b => b < w.heap.size ∧ ¬ F b⟩ : Piece) = R0 at hLt ⊢
 refine XK.go ?_
 refine xk_defer (f := 73) (fi := []) (ca := []) rfl ?_
 refine XK.go ?_
 refine kd (does_ld1 rfl (Rd.mach 0 rfl fun _ => rfl)) ?_
 refine XK.go ?_
 refine xk_split (t := 8) rfl (fun _ => ?_) (fun h => absurd hat h)
 refine XK.go ?_
 refine kcallW 0 (MachH f hL s z x) (fun w1 F1 t h1 h2 h3 => by
  have := fmTake_m f hL s z0 x hH hLo hok hz hst w1 F1 h1 h2
  rw [htk] at this
  exact this) ?_
 dsimp only [List.set]
 refine XK.go ?_
 refine XK.drawB [1, 2, 3, 4, 8, 9, 10, 11] ?_
 refine XB.mv 0 ?_ (hQ := fun _ _ _ h => putD rfl h)
 refine XB.mv 6 ?_ (hQ := fun _ _ _ h => putD rfl h)
 refine XB.mv 7 ?_ (hQ := fun _ _ _ h => putD rfl h)
 refine XB.q 1 ?_ (hQ := fun _ _ _ h => putD rfl h)
 refine XB.q 2 ?_ (hQ := fun _ _ _ h => putD rfl h)
 refine XB.q 3 ?_ (hQ := fun _ _ _ h => putD rfl h)
 refine XB.q 4 ?_ (hQ := fun _ _ _ h => putD rfl h) (hdo := does_ld1 rfl (Rd.mach 0 rfl fun _ => rfl))
 refine XB.q 8 ?_ (hQ := fun _ _ _ h => putD rfl h)
 refine XB.q 9 ?_ (hQ := fun _ _ _ h => putD rfl h)
 refine XB.q 10 ?_ (hQ := fun _ _ _ h => putD rfl h)
 refine XB.q 11 ?_ (hQ := fun _ _ _ h => putD rfl h) (hdo := does_ld1 rfl (Rd.mach 0 rfl fun _ => rfl))
 refine XB.next 5 rfl (by kernel_rfl) ?_
 refine kcall (fun w1 t => doing_any z.kind w1) ?_
 rw [hdo]
 refine XB.bk ?_
 refine XB.next 12 rfl (by kernel_rfl) ?_
 refine kcallWC 0 (fi := []) (ca := []) (MachH f hL s z r.1) (fun w1 F1 t h1 h2 h3 => by simpa using hcall w1 F1 h1 h2 (LetP.le hLt (h3 _ (by simp)))) ?_ (hf := hcb)
 dsimp only [List.set]
 refine XB.bt ?_
 refine XB.done (by kernel_rfl) ?_
 refine XK.go ?_
 obtain ⟨x', b⟩ := r
 dsimp only at hokr ⊢
 cases b
 ·refine XK.go ?_
  subst hR0
  exact XK.leave0 (.inr rfl) (by kernel_rfl) fmRec_idle rfl fun w1 t => ⟨rfl, t.turns hF (by simp) (i := 0) rfl⟩
 ·refine XK.go ?_
  refine kd (does_ld1 rfl (Rd.mach 0 rfl fun _ => rfl)) ?_
  refine XK.go ?_
  refine XK.take 0 0 rfl rfl ?_
  dsimp only [List.set]
  refine XK.openEx 0 rfl fun L => ?_
  dsimp only [List.set]
  refine XK.take 0 0 rfl rfl ?_
  dsimp only [List.set]
  refine kst rfl rfl ?_ (hs := StoreAt.mk 0 rfl OneT.h rfl (by simp [fmC]))
  dsimp only [List.set]
  rw [show (fmC hL.h L s z).set (0 + 16) (.int .i64 (-1)) = fmC hL.h L s { z with at_ := -1 } from rfl]
  refine XK.give 0 0 rfl rfl ?_
  dsimp only [List.set]
  refine XK.toEx 0 (f := fun L : FmL => FirmH f hL.h L s { z with at_ := -1 }) L rfl ?_
  dsimp only [List.set]
  refine XK.give 0 0 rfl rfl ?_
  dsimp only [List.set]
  refine XK.go ?_
  rw [ha]
  refine kcallW 0 (MachH f hL s (replyF s x' { z with at_ := -1 } a 0) x') (fun w1 F1 t h1 h2 h3 => fmReply_m f hL s { z with at_ := -1 } x' hH hLo hokr a ha2 0 (fun _ => hrep) w1 F1 h1 h2) ?_
  dsimp only [List.set]
  refine XK.go ?_
  have hend : endF s z (x', true) = replyF s x' { z with at_ := -1 } a 0 := by
   unfold endF
   rw [if_pos rfl, ha]
   rfl
  rw [hend]
  subst hR0
  exact XK.leave0 (.inr rfl) (by kernel_rfl) fmRec_idle rfl fun w1 t => ⟨rfl, t.turns hF (by simp) (i := 0) rfl⟩
def stepF (s : Soc) (x : HwS) (z : FmS) : FmS × HwS :=
 let t := takeF s x z
 let z1 := if z.at_ < 0 then t.1 else z
 if z.at_ < 0 ∧ t.2 = false then (t.1, x) else (endF s z1 (actF s x z1.kind z1.id), (actF s x z1.kind z1.id).1)
structure StepOk (s : Soc) (x : HwS) (z : FmS) : Prop where
 hok : HwOk s x
 fm : FmOk s z
 at_ : z.at_ < 0 ∨ (∃ a : Nat, z.at_ = (a : Int) ∧ a < 2 ∧ KindOk s z.kind z.id ∧ ReplyOk (boxW z a))
 ask : z.at_ < 0 → ∀ a, nextF z = some a → (decZ s x z a).2.1 = 0 → (decZ s x z a).1 = 0 → ReplyOk (boxW z a)
 new : z.at_ < 0 → ∀ a, nextF z = some a → (decZ s x z a).2.1 ≠ 0 → KindOk s (decZ s x z a).2.1 (decZ s x z a).2.2 ∧ ReplyOk (boxW z a)
theorem nextF_lt {z : FmS} {a : Nat} (h : z.last = 0 ∨ z.last = 1) (hn : nextF z = some a) : a < 2 := by
 unfold nextF at hn
 split at hn
 ·cases hn; omega
 ·split at hn
  ·cases hn; omega
  ·cases hn
theorem fmStep_m (hH : s.okH) (hLo : HLOk hL s) (h : StepOk s x z) (F : Nat → Prop) (hp : (MachH f hL s z x).sat F w) (hF : ∀ b, F b → b < w.heap.size) (hLt : LetP ⟨w, fun b => b < w.heap.size ∧ ¬ F b⟩) :
  Calls Tryz.prog 20 #[.pointer (some ⟨f, 0, none⟩)] w (fun y w' => y = .returned (.tuple #[]) ∧ ∃ F', (MachH f hL s (stepF s x z).1 (stepF s x z).2).sat F' w' ∧ Turns w w' F F') := by
 unfold stepF
 dsimp only
 by_cases hat : z.at_ < 0
 ·cases htk : (takeF s x z).2
  ·rw [if_pos ⟨hat, rfl⟩]
   exact fmStep_ask f hL s z x hH hLo h.hok h.fm (h.ask hat) hat htk w F hp hF
  ·rw [if_neg (by simp), if_pos hat]
   have hz1 : takeF s x z = ((takeF s x z).1, true) := Prod.ext rfl htk
   have hcase : ∃ a, nextF z = some a ∧ (decZ s x z a).2.1 ≠ 0 ∧ (takeF s x z).1 = (takeA s x z a).1 := by
    unfold takeF at htk ⊢
    cases hn : nextF z with
    | none => rw [hn] at htk; cases htk
    | some a =>
     rw [hn] at htk
     refine ⟨a, rfl, fun h0 => ?_, rfl⟩
     unfold takeA at htk
     dsimp only at htk
     rw [if_pos h0] at htk
     cases htk
   obtain ⟨a, hn, hd, he⟩ := hcase
   have ha := nextF_lt h.fm.la hn
   obtain ⟨hk, hrep⟩ := h.new hat a hn hd
   have e : (takeA s x z a).1 = { z with last := a, x := doneX z.x a (decZ s x z a).2.1 (decZ s x z a).2.2, y := doneY z.y a (decZ s x z a).2.1 (decZ s x z a).2.2, at_ := a, kind := (decZ s x z a).2.1, id := (decZ s x z a).2.2 } := by
    unfold takeA
    dsimp only
    rw [if_neg hd]
   rw [e] at he
   have hb : boxW (takeF s x z).1 a = boxW z a := by rw [he]; rfl
   have h1 : (takeF s x z).1.at_ = (a : Int) := by rw [he]
   have h2 : (takeF s x z).1.kind = (decZ s x z a).2.1 := by rw [he]
   have h3 : (takeF s x z).1.id = (decZ s x z a).2.2 := by rw [he]
   exact fmStep_new f hL s (takeF s x z).1 x w z hH hLo h.hok h.fm hat hz1 (h.ask hat) a h1 ha _ (act_ok f hL s (takeF s x z).1 x hH hLo h.hok (by rw [h2, h3]; exact hk)) (by rw [hb]; exact hrep) F hp hF hLt
 ·rw [if_neg (fun hh => hat hh.1), if_neg hat]
  rcases h.at_ with h1 | ⟨a, ha, ha2, hk, hrep⟩
  ·exact absurd h1 hat
  ·exact fmStep_go f hL s z x w hH hLo h.hok h.fm a ha ha2 _ (act_ok f hL s z x hH hLo h.hok hk) hrep F hp hF hLt
end
end
end Go.Proofs.YticjkhagldkejaaGreatDoor
