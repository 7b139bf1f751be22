/- package table: what the words of a message alone tell. -/
import Derived.Test.YticjkhagldkejaaGreatDoorFirmWakesK4
namespace Go.Proofs.YticjkhagldkejaaGreatDoor
set_option linter.all false
open Go.RowKit
section
theorem number_S (s : Soc) (A1 A2 A3 A4 : Option Addr) (n1 k1 n2 k2 n3 k3 n4 k4 : Nat) (p : Int) {w0 : World} (w : World) (hS : SocW w0 s A1 n1 A2 n2 A3 n3 A4 n4) : Calls Tryz.prog 177 #[.agg #[.slice A1 n1 k1, .slice A2 n2 k2, .slice A3 n3 k3, .slice A4 n4 k4], .int .i64 p] w (Rt (.int .i64 (numF s p)) w) := by
 obtain ⟨h1, h2, h3, h4⟩ := And.intro hS.len1 (And.intro hS.len2 (And.intro hS.len3 hS.len4))
 subst h1 h2 h3 h4
 exact number_any s A1 A2 A3 A4 k1 k2 k3 k4 p w
theorem read_any (s : Soc) (A1 A2 A3 A4 : Option Addr) (n1 k1 n2 k2 n3 k3 n4 k4 : Nat) (A : Option Addr) (n c : Nat) (l : List Int) (w : World) (hS : SocW w s A1 n1 A2 n2 A3 n3 A4 n4) (hl : SlS (all w) 1 A n (u32Cells l)) (hn : n = l.length) (hn2 : n ≤ 1000000) (hu : U32s l) :
  Calls Tryz.prog 94 #[.agg #[.slice A1 n1 k1, .slice A2 n2 k2, .slice A3 n3 k3, .slice A4 n4 k4], .slice A n c] w (Rt (actV (readF s l)) w) := by
 refine XK.enter (vs := [.agg #[.slice A1 n1 k1, .slice A2 n2 k2, .slice A3 n3 k3, .slice A4 n4 k4], .slice A n c]) Tryz.func94 rfl Tryz.ntmps94 (by simp) ?_
 refine XK.seq ?_
 refine XK.region ?_
 refine xk_box rfl (by decide) fun g1 => ?_
 refine xk_assign rfl (by decide) ?_
 refine xk_alloc (cs := [.int .u8 0, .int .i64 0]) (zeroB_of (by kernel_rfl)) (by decide) fun g2 => ?_
 refine XK.nilN ?_
 refine XK.seq ?_
 refine XK.seq ?_
 refine XK.region ?_
 refine xk_move rfl (by decide) ?_
 refine xk_len (el := 44) (by kernel_rfl) rfl (by decide) ?_
 refine xk_eql rfl rfl (by decide) ?_
 refine XK.nilN ?_
 refine XK.if_ rfl (fun h => ?_) (fun h => ?_)
 ·
  refine XK.seq ?_
  refine XK.region ?_
  refine xk_buildS (zs := [.int .u8 0, .int .i64 0]) (L := [(0, 1), (1, 1)]) (zeroB_of (by kernel_rfl)) (by kernel_rfl) rfl (by simp [fillL, setN, Value.cells]; rfl) (by decide) ?_
  refine xk_assign rfl (by decide) ?_
  refine xk_stN rfl rfl ?_; simp only [putN, Value.cells, List.set, List.take, List.drop, List.nil_append, List.append_nil, List.length_cons, List.length_nil, List.cons_append, Nat.reduceAdd]
  refine XK.nilN ?_
  refine XK.ret ?_
  refine XK.norm ?_
  have hn0 : l = [] := List.eq_nil_of_length_eq_zero (by have h' : (n : Int) = 0 := h; omega)
  subst hn0
  exact XK.retTC (n := 2) (vs := [.int .u8 0, .int .i64 0]) rfl (by kernel_rfl) rfl rfl (by first | assumption | exact RdN.whole 0 rfl | exact RdN.whole 1 rfl | exact RdN.whole 2 rfl | exact RdN.whole 3 rfl | exact RdN.whole 4 rfl | exact RdN.whole 5 rfl | exact RdN.whole 6 rfl | exact RdN.whole 7 rfl | exact RdN.whole 8 rfl | exact RdN.roc (by simp) (by assumption)) rfl fun w9 st => ⟨rfl, st.below (by simp)⟩
 ·
  obtain ⟨b, off, rfl, hcell⟩ := hl.u32 (show 0 < n by have h' : ¬ (n : Int) = 0 := h; omega)
  obtain ⟨w1, r, rfl⟩ : ∃ x r, l = x :: r := by
   cases l with
   | nil => exact absurd (by simpa using hn) (show ¬ n = 0 by have h' : ¬ (n : Int) = 0 := h; omega)
   | cons x r => exact ⟨x, r, rfl⟩
  have hw1 := hcell 0 w1 rfl
  have hlen : n = r.length + 1 := by simpa using hn
  refine XK.skip ?_
  refine XK.norm ?_
  refine XK.seq ?_
  refine XK.region ?_
  refine xk_move rfl (by decide) ?_
  refine xk_at 0 off (el := 44) (sz := 1) (by kernel_rfl) (by kernel_rfl) rfl rfl (by rfl) (by omega) (by omega) (by decide) ?_
  refine xk_ld rfl ?_
  refine xk_callR (f := 175) (fi := []) (ca := []) (by kernel_rfl) rfl rfl (by decide) (v0 := .tuple #[.agg #[.int .i64 (hMsg w1), .int .i64 (hTyp w1), .int .i64 (hPro w1), .int .i64 (hTok w1)], .int .i64 (unpackE w1)]) (fun w2 st => (unpack_any w1 w2).mono fun x w3 hx => Rt.conv hx (by rw [unpackH_eq]; rfl)) ?_
  refine xk_move rfl (by decide) ?_
  refine xk_extract rfl rfl (by decide) ?_
  refine xk_extract rfl rfl (by decide) ?_
  refine xk_alloc (cs := [.int .i64 0, .int .i64 0, .int .i64 0, .int .i64 0]) (zeroB_of (by kernel_rfl)) (by decide) fun g3 => ?_
  refine xk_stN rfl rfl ?_; simp only [putN, Value.cells, List.set, List.take, List.drop, List.nil_append, List.append_nil, List.length_cons, List.length_nil, List.cons_append, Nat.reduceAdd]
  refine xk_assign rfl (by decide) ?_
  refine XK.nilN ?_
  refine XK.seq ?_
  refine XK.cutB 30 (unpackE w1 ≠ 0 ∨ hTyp w1 ≠ 0) ?_ ?_
  ·skip
   refine XK.region ?_
   refine xk_move rfl (by decide) ?_
   refine xk_neq rfl rfl (by decide) ?_
   refine xk_move rfl (by decide) ?_
   (first | refine xk_split (t := 26) rfl (fun hg => ?_) (fun hg => ?_) | refine xk_splitB (t := 26) rfl (fun hg => ?_) (fun hg => ?_))
   ·
    refine xk_guardF rfl rfl rfl (by decide) ?_
    refine xk_guardF rfl rfl rfl (by decide) ?_
    refine xk_guardF rfl rfl rfl (by decide) ?_
    (first | refine xk_pickT rfl rfl (by decide) ?_ | refine xk_pickF rfl rfl (by decide) ?_)
    refine XK.nilN ?_
    exact XK.meetB (by repeat (first | exact trivial | refine ⟨rfl, ?_⟩)) (by first | exact get_iff rfl (by simp_all [notF, swit]) | exact get_false rfl (by simp_all [notF, swit]) | exact get_true rfl (by simp_all [notF, swit]))
   ·
    refine xk_guardT rfl rfl ?_; refine xk_field (off := 1) (by kernel_rfl) rfl (by decide) ?_
    refine xk_guardT rfl rfl ?_; refine xk_ld rfl ?_
    refine xk_guardT rfl rfl ?_; refine xk_neq rfl rfl (by decide) ?_
    (first | refine xk_pickT rfl rfl (by decide) ?_ | refine xk_pickF rfl rfl (by decide) ?_)
    refine XK.nilN ?_
    exact XK.meetB (by repeat (first | exact trivial | refine ⟨rfl, ?_⟩)) (by first | exact get_iff rfl (by simp_all [notF, swit]) | exact get_false rfl (by simp_all [notF, swit]) | exact get_true rfl (by simp_all [notF, swit]))
  refine XK.if_ rfl (fun h4 => ?_) (fun h4 => ?_)
  ·
   refine XK.seq ?_
   refine XK.region ?_
   refine xk_buildS (zs := [.int .u8 0, .int .i64 0]) (L := [(0, 1), (1, 1)]) (zeroB_of (by kernel_rfl)) (by kernel_rfl) rfl (by simp [fillL, setN, Value.cells]; rfl) (by decide) ?_
   refine xk_assign rfl (by decide) ?_
   refine xk_stN rfl rfl ?_; simp only [putN, Value.cells, List.set, List.take, List.drop, List.nil_append, List.append_nil, List.length_cons, List.length_nil, List.cons_append, Nat.reduceAdd]
   refine XK.nilN ?_
   refine XK.ret ?_
   refine XK.norm ?_
   exact XK.retTC (n := 2) (vs := [.int .u8 0, .int .i64 0]) rfl (by kernel_rfl) rfl rfl (by first | assumption | exact RdN.whole 0 rfl | exact RdN.whole 1 rfl | exact RdN.whole 2 rfl | exact RdN.whole 3 rfl | exact RdN.whole 4 rfl | exact RdN.whole 5 rfl | exact RdN.whole 6 rfl | exact RdN.whole 7 rfl | exact RdN.whole 8 rfl | exact RdN.roc (by simp) (by assumption)) rfl fun w9 st => ⟨by
    rw [readF, if_pos h4]; rfl, st.below (by simp)⟩
  ·
   refine XK.skip ?_
   refine XK.norm ?_
   refine XK.cut (fun e R H => ∃ g4, e = [(9, .bool (frmOf (hPro w1) (hMsg w1)).isSome), (8, .pointer (some ⟨g4, 0, none⟩)), (7, .int .i64 (unpackE w1)), (6, .pointer (some ⟨g3, 0, none⟩)), (5, .pointer (some ⟨g2, 0, none⟩)), (2, .pointer (some ⟨g1, 0, none⟩)), (1, .slice (some ⟨b, off, none⟩) n c)] ∧ R = [all w] ∧ H = [HP.blk g4 275 [.int .i64 (frmD (hPro w1) (hMsg w1)).n, .int .i64 (frmD (hPro w1) (hMsg w1)).m, .int .u8 (frmD (hPro w1) (hMsg w1)).a, .int .u8 (frmD (hPro w1) (hMsg w1)).b, .int .u8 (frmD (hPro w1) (hMsg w1)).c], HP.blk g3 43 [.int .i64 (hMsg w1), .int .i64 (hTyp w1), .int .i64 (hPro w1), .int .i64 (hTok w1)], HP.blk g2 63 [.int .u8 0, .int .i64 0], HP.blk g1 29 [.slice A1 n1 k1, .slice A2 n2 k2, .slice A3 n3 k3, .slice A4 n4 k4]]) ?_ ?_
   ·
    refine XK.draw 12 (by kernel_rfl) (by kernel_rfl) ?_
    refine XA.dA 1 rfl rfl rfl (does_field (off := 2) (by kernel_rfl) rfl) ?_
    refine XA.dA 2 rfl rfl rfl (does_ld rfl) ?_
    refine XA.dA 3 rfl rfl rfl (does_field (off := 0) (by kernel_rfl) rfl) ?_
    refine XA.dA 4 rfl rfl rfl (does_ld rfl) ?_
    refine XA.dA 5 rfl rfl rfl (does_buildS (zs := [.int .i64 0, .int .i64 0]) (L := [(0, 1), (1, 1)]) (zeroB_of (by kernel_rfl)) (by kernel_rfl) rfl (by simp [fillL, setN, Value.cells]; rfl)) ?_
    refine XA.either 0 10 rfl rfl (by kernel_rfl) ?_ ?_
    ·refine xk_callN (f := 176) (fi := []) (ca := []) (by kernel_rfl) rfl rfl (by decide) FormsOk (fun w2 _ => forms_any w2) ?_
     rintro _ _ q1 ⟨gm, sub, rfl, hsub, rfl⟩ _
     simp only [List.cons_append, List.nil_append]
     refine XK.nil ?_; refine XK.thenN ?_; refine XA.back (fun _ h => h.tailR.tail) ?_
     refine XA.either 6 10 rfl rfl (by kernel_rfl) ?_ ?_
     ·refine xk_lookupT (v := .agg #[.int .i64 (frmD (hPro w1) (hMsg w1)).n, .int .i64 (frmD (hPro w1) (hMsg w1)).m, .int .u8 (frmD (hPro w1) (hMsg w1)).a, .int .u8 (frmD (hPro w1) (hMsg w1)).b, .int .u8 (frmD (hPro w1) (hMsg w1)).c]) (et := 275) (l := sub.reverse.map frmE) Tryz.underlying277 msgK (z := frm 0 0 0 0 0) (by kernel_rfl) rfl (k := (hPro w1, hMsg w1)) rfl (fun w2 st => st.mapV (i := 0) rfl) (frm_look hsub _ _).1 (frm_look hsub _ _).2 (by decide) ?_
      refine XK.nil ?_; refine XK.thenN ?_; refine XA.back (fun _ h => h.tailR.tail) ?_
      refine XA.do_ 7 rfl rfl rfl (by decide) (does_move rfl) (by kernel_rfl) (fun _ _ _ h => h) (fun _ h => h.tailR.tail) ?_
      refine XA.do_ 8 rfl rfl rfl (by decide) (does_extract rfl rfl) (by kernel_rfl) (fun _ _ _ h => h) (fun _ h => h.tailR.tail) ?_
      refine XA.do_ 9 rfl rfl rfl (by decide) (does_extract rfl rfl) (by kernel_rfl) (fun _ _ _ h => h) (fun _ h => h.tailR.tail) ?_
      refine XA.next 10 rfl (by kernel_rfl) ?_
      refine xk_alloc (cs := [.int .i64 0, .int .i64 0, .int .u8 0, .int .u8 0, .int .u8 0]) (zeroB_of (by kernel_rfl)) (by decide) fun g4 => ?_
      refine XK.nil ?_; refine XK.thenN ?_; refine XA.back (fun _ h => h.tailR.tail.tail) ?_
      refine XA.next 11 rfl (by kernel_rfl) ?_
      refine xk_stN rfl rfl ?_; simp only [putN, Value.cells, List.set, List.take, List.drop, List.nil_append, List.append_nil, List.length_cons, List.length_nil, List.cons_append, Nat.reduceAdd]
      refine XK.nil ?_; refine XK.thenN ?_; refine XA.back (fun _ h => h.tailR.tail.tail) ?_
      refine XA.next 12 rfl (by kernel_rfl) ?_
      refine xk_assign rfl (by decide) ?_
      refine XA.bt ?_
      refine XA.done (by kernel_rfl) ?_
      refine XK.norm ?_
      exact XK.weak [0, 2, 3, 4] rfl (by decide) (by simp) (XK.envS [(9, .bool (frmOf (hPro w1) (hMsg w1)).isSome), (8, .pointer (some ⟨g4, 0, none⟩)), (7, .int .i64 (unpackE w1)), (6, .pointer (some ⟨g3, 0, none⟩)), (5, .pointer (some ⟨g2, 0, none⟩)), (2, .pointer (some ⟨g1, 0, none⟩)), (1, .slice (some ⟨b, off, none⟩) n c)] (XK.meet ⟨g4, rfl, rfl, rfl⟩))
     ·refine xk_alloc (cs := [.int .i64 0, .int .i64 0, .int .u8 0, .int .u8 0, .int .u8 0]) (zeroB_of (by kernel_rfl)) (by decide) fun g4 => ?_
      refine XK.nil ?_; refine XK.thenN ?_; refine XA.back (fun _ h => h.tailR.tail.tail) ?_
      refine XA.next 6 rfl (by kernel_rfl) ?_
      refine xk_lookupT (v := .agg #[.int .i64 (frmD (hPro w1) (hMsg w1)).n, .int .i64 (frmD (hPro w1) (hMsg w1)).m, .int .u8 (frmD (hPro w1) (hMsg w1)).a, .int .u8 (frmD (hPro w1) (hMsg w1)).b, .int .u8 (frmD (hPro w1) (hMsg w1)).c]) (et := 275) (l := sub.reverse.map frmE) Tryz.underlying277 msgK (z := frm 0 0 0 0 0) (by kernel_rfl) rfl (k := (hPro w1, hMsg w1)) rfl (fun w2 st => st.mapV (i := 1) rfl) (frm_look hsub _ _).1 (frm_look hsub _ _).2 (by decide) ?_
      refine XK.nil ?_; refine XK.thenN ?_; refine XA.back (fun _ h => h.tailR.tail.tail) ?_
      refine XA.do_ 7 rfl rfl rfl (by decide) (does_move rfl) (by kernel_rfl) (fun _ _ _ h => h) (fun _ h => h.tailR.tail.tail) ?_
      refine XA.do_ 8 rfl rfl rfl (by decide) (does_extract rfl rfl) (by kernel_rfl) (fun _ _ _ h => h) (fun _ h => h.tailR.tail.tail) ?_
      refine XA.do_ 9 rfl rfl rfl (by decide) (does_extract rfl rfl) (by kernel_rfl) (fun _ _ _ h => h) (fun _ h => h.tailR.tail.tail) ?_
      refine XA.next 11 rfl (by kernel_rfl) ?_
      refine xk_stN rfl rfl ?_; simp only [putN, Value.cells, List.set, List.take, List.drop, List.nil_append, List.append_nil, List.length_cons, List.length_nil, List.cons_append, Nat.reduceAdd]
      refine XK.nil ?_; refine XK.thenN ?_; refine XA.back (fun _ h => h.tailR.tail.tail) ?_
      refine XA.next 12 rfl (by kernel_rfl) ?_
      refine xk_assign rfl (by decide) ?_
      refine XA.bt ?_
      refine XA.done (by kernel_rfl) ?_
      refine XK.norm ?_
      exact XK.weak [0, 2, 3, 4] rfl (by decide) (by simp) (XK.envS [(9, .bool (frmOf (hPro w1) (hMsg w1)).isSome), (8, .pointer (some ⟨g4, 0, none⟩)), (7, .int .i64 (unpackE w1)), (6, .pointer (some ⟨g3, 0, none⟩)), (5, .pointer (some ⟨g2, 0, none⟩)), (2, .pointer (some ⟨g1, 0, none⟩)), (1, .slice (some ⟨b, off, none⟩) n c)] (XK.meet ⟨g4, rfl, rfl, rfl⟩))
    ·refine xk_alloc (cs := [.int .i64 0, .int .i64 0, .int .u8 0, .int .u8 0, .int .u8 0]) (zeroB_of (by kernel_rfl)) (by decide) fun g4 => ?_
     refine XK.nil ?_; refine XK.thenN ?_; refine XA.back (fun _ h => h.tail) ?_
     refine XA.next 0 rfl (by kernel_rfl) ?_
     refine xk_callN (f := 176) (fi := []) (ca := []) (by kernel_rfl) rfl rfl (by decide) FormsOk (fun w2 _ => forms_any w2) ?_
     rintro _ _ q1 ⟨gm, sub, rfl, hsub, rfl⟩ _
     simp only [List.cons_append, List.nil_append]
     refine XK.nil ?_; refine XK.thenN ?_; refine XA.back (fun _ h => h.tailR.tail.tail) ?_
     refine XA.next 6 rfl (by kernel_rfl) ?_
     refine xk_lookupT (v := .agg #[.int .i64 (frmD (hPro w1) (hMsg w1)).n, .int .i64 (frmD (hPro w1) (hMsg w1)).m, .int .u8 (frmD (hPro w1) (hMsg w1)).a, .int .u8 (frmD (hPro w1) (hMsg w1)).b, .int .u8 (frmD (hPro w1) (hMsg w1)).c]) (et := 275) (l := sub.reverse.map frmE) Tryz.underlying277 msgK (z := frm 0 0 0 0 0) (by kernel_rfl) rfl (k := (hPro w1, hMsg w1)) rfl (fun w2 st => st.mapV (i := 0) rfl) (frm_look hsub _ _).1 (frm_look hsub _ _).2 (by decide) ?_
     refine XK.nil ?_; refine XK.thenN ?_; refine XA.back (fun _ h => h.tailR.tail.tail) ?_
     refine XA.do_ 7 rfl rfl rfl (by decide) (does_move rfl) (by kernel_rfl) (fun _ _ _ h => h) (fun _ h => h.tailR.tail.tail) ?_
     refine XA.do_ 8 rfl rfl rfl (by decide) (does_extract rfl rfl) (by kernel_rfl) (fun _ _ _ h => h) (fun _ h => h.tailR.tail.tail) ?_
     refine XA.do_ 9 rfl rfl rfl (by decide) (does_extract rfl rfl) (by kernel_rfl) (fun _ _ _ h => h) (fun _ h => h.tailR.tail.tail) ?_
     refine XA.next 11 rfl (by kernel_rfl) ?_
     refine xk_stN rfl rfl ?_; simp only [putN, Value.cells, List.set, List.take, List.drop, List.nil_append, List.append_nil, List.length_cons, List.length_nil, List.cons_append, Nat.reduceAdd]
     refine XK.nil ?_; refine XK.thenN ?_; refine XA.back (fun _ h => h.tailR.tail.tail) ?_
     refine XA.next 12 rfl (by kernel_rfl) ?_
     refine xk_assign rfl (by decide) ?_
     refine XA.bt ?_
     refine XA.done (by kernel_rfl) ?_
     refine XK.norm ?_
     exact XK.weak [1, 2, 3, 4] rfl (by decide) (by simp) (XK.envS [(9, .bool (frmOf (hPro w1) (hMsg w1)).isSome), (8, .pointer (some ⟨g4, 0, none⟩)), (7, .int .i64 (unpackE w1)), (6, .pointer (some ⟨g3, 0, none⟩)), (5, .pointer (some ⟨g2, 0, none⟩)), (2, .pointer (some ⟨g1, 0, none⟩)), (1, .slice (some ⟨b, off, none⟩) n c)] (XK.meet ⟨g4, rfl, rfl, rfl⟩))
   rintro _ _ _ ⟨g4, rfl, rfl, rfl⟩
   obtain ⟨hF1, hF2, hF3, hF4, hF5⟩ := frm_ok (hPro w1) (hMsg w1)
   refine XK.seq ?_
   refine XK.seq ?_
   refine XK.region ?_
   refine xk_move rfl (by decide) ?_
   (first | refine xk_notD rfl (by decide) ?_ | refine xk_not rfl (by decide) ?_)
   refine XK.nilN ?_
   refine XK.cond rfl (fun h7 => ?_) (fun h7 => ?_)
   ·
    refine XK.seq ?_
    refine XK.region ?_
    refine xk_buildS (zs := [.int .u8 0, .int .i64 0]) (L := [(0, 1), (1, 1)]) (zeroB_of (by kernel_rfl)) (by kernel_rfl) rfl (by simp [fillL, setN, Value.cells]; rfl) (by decide) ?_
    refine xk_assign rfl (by decide) ?_
    refine xk_stN rfl rfl ?_; simp only [putN, Value.cells, List.set, List.take, List.drop, List.nil_append, List.append_nil, List.length_cons, List.length_nil, List.cons_append, Nat.reduceAdd]
    refine XK.nilN ?_
    refine XK.ret ?_
    refine XK.norm ?_
    exact XK.retTC (n := 2) (vs := [.int .u8 0, .int .i64 0]) rfl (by kernel_rfl) rfl rfl (by first | assumption | exact RdN.whole 0 rfl | exact RdN.whole 1 rfl | exact RdN.whole 2 rfl | exact RdN.whole 3 rfl | exact RdN.whole 4 rfl | exact RdN.whole 5 rfl | exact RdN.whole 6 rfl | exact RdN.whole 7 rfl | exact RdN.whole 8 rfl | exact RdN.roc (by simp) (by assumption)) rfl fun w9 st => ⟨by
     rw [readF, if_neg h4, if_pos (by revert h7; cases (frmOf (hPro w1) (hMsg w1)).isSome <;> simp)]; rfl, st.below (by simp)⟩
   ·
    have h7' : ¬ (frmOf (hPro w1) (hMsg w1)).isSome = false := by revert h7; cases (frmOf (hPro w1) (hMsg w1)).isSome <;> simp
    refine XK.skip ?_
    refine XK.norm ?_
    refine XK.seq ?_
    refine XK.seq ?_
    refine XK.region ?_
    refine xk_move rfl (by decide) ?_
    refine xk_len (el := 44) (by kernel_rfl) rfl (by decide) ?_
    refine xk_sub rfl rfl (wrap_in (by omega)) (by decide) ?_
    refine xk_field (off := 0) (by kernel_rfl) rfl (by decide) ?_
    refine xk_ld rfl ?_
    refine xk_neq rfl rfl (by decide) ?_
    refine XK.nilN ?_
    refine XK.if_ rfl (fun h9 => ?_) (fun h9 => ?_)
    ·
     refine XK.seq ?_
     refine XK.region ?_
     refine xk_buildS (zs := [.int .u8 0, .int .i64 0]) (L := [(0, 1), (1, 1)]) (zeroB_of (by kernel_rfl)) (by kernel_rfl) rfl (by simp [fillL, setN, Value.cells]; rfl) (by decide) ?_
     refine xk_assign rfl (by decide) ?_
     refine xk_stN rfl rfl ?_; simp only [putN, Value.cells, List.set, List.take, List.drop, List.nil_append, List.append_nil, List.length_cons, List.length_nil, List.cons_append, Nat.reduceAdd]
     refine XK.nilN ?_
     refine XK.ret ?_
     refine XK.norm ?_
     exact XK.retTC (n := 2) (vs := [.int .u8 0, .int .i64 0]) rfl (by kernel_rfl) rfl rfl (by first | assumption | exact RdN.whole 0 rfl | exact RdN.whole 1 rfl | exact RdN.whole 2 rfl | exact RdN.whole 3 rfl | exact RdN.whole 4 rfl | exact RdN.whole 5 rfl | exact RdN.whole 6 rfl | exact RdN.whole 7 rfl | exact RdN.whole 8 rfl | exact RdN.roc (by simp) (by assumption)) rfl fun w9 st => ⟨by
      rw [readF, if_neg h4, if_neg h7', if_pos (by omega)]; rfl, st.below (by simp)⟩
    ·
     have h9' : ¬ (r.length : Int) ≠ (frmD (hPro w1) (hMsg w1)).n := by omega
     refine XK.skip ?_
     refine XK.norm ?_
     refine XK.seq ?_
     refine XK.seq ?_
     refine XK.region ?_
     refine xk_field (off := 0) (by kernel_rfl) rfl (by decide) ?_
     refine xk_ld rfl ?_
     refine xk_eql rfl rfl (by decide) ?_
     refine XK.nilN ?_
     refine XK.if_ rfl (fun h11 => ?_) (fun h11 => ?_)
     ·
      refine XK.seq ?_
      refine XK.region ?_
      refine xk_buildS (zs := [.int .u8 0, .int .i64 0]) (L := [(0, 1), (1, 1)]) (zeroB_of (by kernel_rfl)) (by kernel_rfl) rfl (by simp [fillL, setN, Value.cells]; rfl) (by decide) ?_
      refine xk_assign rfl (by decide) ?_
      refine xk_stN rfl rfl ?_; simp only [putN, Value.cells, List.set, List.take, List.drop, List.nil_append, List.append_nil, List.length_cons, List.length_nil, List.cons_append, Nat.reduceAdd]
      refine XK.nilN ?_
      refine XK.ret ?_
      refine XK.norm ?_
      exact XK.retTC (n := 2) (vs := [.int .u8 0, .int .i64 0]) rfl (by kernel_rfl) rfl rfl (by first | assumption | exact RdN.whole 0 rfl | exact RdN.whole 1 rfl | exact RdN.whole 2 rfl | exact RdN.whole 3 rfl | exact RdN.whole 4 rfl | exact RdN.whole 5 rfl | exact RdN.whole 6 rfl | exact RdN.whole 7 rfl | exact RdN.whole 8 rfl | exact RdN.roc (by simp) (by assumption)) rfl fun w9 st => ⟨by
       rw [readF, if_neg h4, if_neg h7', if_neg h9', if_pos h11]; rfl, st.below (by simp)⟩
     ·
      obtain ⟨id, hid⟩ : ∃ x, r[0]? = some x := ⟨r[0]'(by omega), List.getElem?_eq_getElem _⟩
      obtain ⟨v, hv⟩ : ∃ x, r[(frmD (hPro w1) (hMsg w1)).n.toNat - 1]? = some x := ⟨r[(frmD (hPro w1) (hMsg w1)).n.toNat - 1]'(by omega), List.getElem?_eq_getElem _⟩
      have hid' : r.getD 0 0 = id := by rw [List.getD_eq_getElem?_getD, hid]; rfl
      have hv' : r.getD ((frmD (hPro w1) (hMsg w1)).n.toNat - 1) 0 = v := by rw [List.getD_eq_getElem?_getD, hv]; rfl
      have hbid := hu id (List.mem_cons_of_mem _ (List.mem_of_getElem? hid))
      have hbv := hu v (List.mem_cons_of_mem _ (List.mem_of_getElem? hv))
      have hcid := hcell 1 id (by simpa using hid)
      have hcv := hcell (frmD (hPro w1) (hMsg w1)).n.toNat v (by
       obtain ⟨t, ht⟩ : ∃ t, (frmD (hPro w1) (hMsg w1)).n.toNat = t + 1 := ⟨(frmD (hPro w1) (hMsg w1)).n.toNat - 1, by omega⟩
       rw [ht] at hv ⊢; simpa using hv)
      have hread : readF s (w1 :: r) = askF s (hPro w1) (frmD (hPro w1) (hMsg w1)) id v := by rw [readF, if_neg h4, if_neg h7', if_neg h9', if_neg h11, hid', hv']
      refine XK.skip ?_
      refine XK.norm ?_
      refine XK.seq ?_
      refine XK.region ?_
      refine xk_move rfl (by decide) ?_
      refine xk_at 1 (off + 1) (el := 44) (sz := 1) (by kernel_rfl) (by kernel_rfl) rfl rfl (by rfl) (by omega) (by omega) (by decide) ?_
      refine xk_ld rfl ?_
      refine xk_conv (ds := .int .u32) (by kernel_rfl) (by kernel_rfl) rfl (wrap_in (by omega)) (by decide) ?_
      refine xk_assign rfl (by decide) ?_
      refine XK.nilN ?_
      refine XK.seq ?_
      refine XK.seq ?_
      refine XK.region ?_
      refine xk_move rfl (by decide) ?_
      refine xk_ldN 4 rfl ?_
      refine xk_field (off := 2) (by kernel_rfl) rfl (by decide) ?_
      refine xk_ld rfl ?_
      refine xk_callR (f := 177) (fi := []) (ca := []) (by kernel_rfl) rfl rfl (by decide) (fun w2 st => number_S s A1 A2 A3 A4 n1 k1 n2 k2 n3 k3 n4 k4 (hPro w1) w2 hS) ?_
      refine xk_geq rfl rfl (by decide) ?_
      refine XK.nilN ?_
      refine XK.if_ rfl (fun h14 => ?_) (fun h14 => ?_)
      ·
       refine XK.seq ?_
       refine XK.region ?_
       refine xk_buildS (zs := [.int .u8 0, .int .i64 0]) (L := [(0, 1), (1, 1)]) (zeroB_of (by kernel_rfl)) (by kernel_rfl) rfl (by simp [fillL, setN, Value.cells]; rfl) (by decide) ?_
       refine xk_assign rfl (by decide) ?_
       refine xk_stN rfl rfl ?_; simp only [putN, Value.cells, List.set, List.take, List.drop, List.nil_append, List.append_nil, List.length_cons, List.length_nil, List.cons_append, Nat.reduceAdd]
       refine XK.nilN ?_
       refine XK.ret ?_
       refine XK.norm ?_
       exact XK.retTC (n := 2) (vs := [.int .u8 0, .int .i64 0]) rfl (by kernel_rfl) rfl rfl (by first | assumption | exact RdN.whole 0 rfl | exact RdN.whole 1 rfl | exact RdN.whole 2 rfl | exact RdN.whole 3 rfl | exact RdN.whole 4 rfl | exact RdN.whole 5 rfl | exact RdN.whole 6 rfl | exact RdN.whole 7 rfl | exact RdN.whole 8 rfl | exact RdN.roc (by simp) (by assumption)) rfl fun w9 st => ⟨by
        rw [hread, askF, if_pos h14]; rfl, st.below (by simp)⟩
      ·
       refine XK.skip ?_
       refine XK.norm ?_
       refine XK.seq ?_
       refine XK.seq ?_
       refine XK.region ?_
       refine xk_field (off := 1) (by kernel_rfl) rfl (by decide) ?_
       refine xk_ld rfl ?_
       refine xk_eql rfl rfl (by decide) ?_
       refine XK.nilN ?_
       refine XK.if_ rfl (fun h16 => ?_) (fun h16 => ?_)
       ·
        refine XK.seq ?_
        refine XK.region ?_
        refine xk_buildS (zs := [.int .u8 0, .int .i64 0]) (L := [(0, 1), (1, 1)]) (zeroB_of (by kernel_rfl)) (by kernel_rfl) rfl (by simp [fillL, setN, Value.cells]; rfl) (by decide) ?_
        refine xk_assign rfl (by decide) ?_
        refine xk_stN rfl rfl ?_; simp only [putN, Value.cells, List.set, List.take, List.drop, List.nil_append, List.append_nil, List.length_cons, List.length_nil, List.cons_append, Nat.reduceAdd]
        refine XK.nilN ?_
        refine XK.ret ?_
        refine XK.norm ?_
        exact XK.retTC (n := 2) (vs := [.int .u8 0, .int .i64 0]) rfl (by kernel_rfl) rfl rfl (by first | assumption | exact RdN.whole 0 rfl | exact RdN.whole 1 rfl | exact RdN.whole 2 rfl | exact RdN.whole 3 rfl | exact RdN.whole 4 rfl | exact RdN.whole 5 rfl | exact RdN.whole 6 rfl | exact RdN.whole 7 rfl | exact RdN.whole 8 rfl | exact RdN.roc (by simp) (by assumption)) rfl fun w9 st => ⟨by
         rw [hread, askF, if_neg h14, if_pos h16]; rfl, st.below (by simp)⟩
       ·
        refine XK.skip ?_
        refine XK.norm ?_
        refine XK.seq ?_
        refine XK.region ?_
        refine xk_move rfl (by decide) ?_
        refine xk_field (off := 0) (by kernel_rfl) rfl (by decide) ?_
        refine xk_ld rfl ?_
        refine xk_at (frmD (hPro w1) (hMsg w1)).n.toNat (off + (frmD (hPro w1) (hMsg w1)).n.toNat) (el := 44) (sz := 1) (by kernel_rfl) (by kernel_rfl) rfl rfl (by omega) (by omega) (by omega) (by decide) ?_
        refine xk_ld rfl ?_
        refine xk_conv (ds := .int .u32) (by kernel_rfl) (by kernel_rfl) rfl (wrap_in (by omega)) (by decide) ?_
        refine xk_assign rfl (by decide) ?_
        refine XK.nilN ?_
        refine XK.seq ?_
        refine XK.seq ?_
        refine XK.region ?_
        refine xk_move rfl (by decide) ?_
        refine xk_field (off := 1) (by kernel_rfl) rfl (by decide) ?_
        refine xk_ld rfl ?_
        refine xk_geq rfl rfl (by decide) ?_
        refine XK.nilN ?_
        refine XK.if_ rfl (fun h19 => ?_) (fun h19 => ?_)
        ·
         refine XK.seq ?_
         refine XK.region ?_
         refine xk_buildS (zs := [.int .u8 0, .int .i64 0]) (L := [(0, 1), (1, 1)]) (zeroB_of (by kernel_rfl)) (by kernel_rfl) rfl (by simp [fillL, setN, Value.cells]; rfl) (by decide) ?_
         refine xk_assign rfl (by decide) ?_
         refine xk_stN rfl rfl ?_; simp only [putN, Value.cells, List.set, List.take, List.drop, List.nil_append, List.append_nil, List.length_cons, List.length_nil, List.cons_append, Nat.reduceAdd]
         refine XK.nilN ?_
         refine XK.ret ?_
         refine XK.norm ?_
         exact XK.retTC (n := 2) (vs := [.int .u8 0, .int .i64 0]) rfl (by kernel_rfl) rfl rfl (by first | assumption | exact RdN.whole 0 rfl | exact RdN.whole 1 rfl | exact RdN.whole 2 rfl | exact RdN.whole 3 rfl | exact RdN.whole 4 rfl | exact RdN.whole 5 rfl | exact RdN.whole 6 rfl | exact RdN.whole 7 rfl | exact RdN.whole 8 rfl | exact RdN.roc (by simp) (by assumption)) rfl fun w9 st => ⟨by
          rw [hread, askF, if_neg h14, if_neg h16, if_pos h19]; rfl, st.below (by simp)⟩
        ·
         have hact : ([.int .i64 (frmD (hPro w1) (hMsg w1)).n, .int .i64 (frmD (hPro w1) (hMsg w1)).m, .int .u8 (frmD (hPro w1) (hMsg w1)).a, .int .u8 (frmD (hPro w1) (hMsg w1)).b, .int .u8 (frmD (hPro w1) (hMsg w1)).c] : List Value)[2 + v.toNat]? = some (.int .u8 ((frmD (hPro w1) (hMsg w1)).act v)) := by
          unfold FrmT.act
          rcases (by omega : v = 0 ∨ v = 1 ∨ v = 2) with rfl | rfl | rfl <;> rfl
         have hp17 := hF4 v hbv.1 (by omega)
         generalize hk : (frmD (hPro w1) (hMsg w1)).act v = k at *
         refine XK.skip ?_
         refine XK.norm ?_
         refine XK.seq ?_
         refine XK.region ?_
         refine xk_move rfl (by decide) ?_
         refine xk_field (off := 2) (by kernel_rfl) rfl (by decide) ?_
         refine xk_atA v.toNat (2 + v.toNat) (n := 3) (el := 5) (sz := 1) (by kernel_rfl) (by kernel_rfl) rfl rfl (by omega) (by omega) (by omega) (by decide) ?_
         refine xk_load (by kernel_rfl) rfl (Rd.blk 0 rfl hact) (by decide) ?_
         refine xk_move rfl (by decide) ?_
         refine xk_buildS (zs := [.int .u8 0, .int .i64 0]) (L := [(0, 1), (1, 1)]) (zeroB_of (by kernel_rfl)) (by kernel_rfl) rfl (by simp [fillL, setN, Value.cells]; rfl) (by decide) ?_
         refine xk_alloc (cs := [.int .u8 0, .int .i64 0]) (zeroB_of (by kernel_rfl)) (by decide) fun g5 => ?_
         refine xk_stN rfl rfl ?_; simp only [putN, Value.cells, List.set, List.take, List.drop, List.nil_append, List.append_nil, List.length_cons, List.length_nil, List.cons_append, Nat.reduceAdd]
         refine XK.nilN ?_
         refine XK.seq ?_
         refine XK.cutB 113 (notF s (hPro w1) ((frmD (hPro w1) (hMsg w1)).act v) id.toNat) ?_ ?_
         ·skip
          refine XK.region ?_
          refine xk_field (off := 0) (by kernel_rfl) rfl (by decide) ?_
          refine xk_ld rfl ?_
          refine xk_eql rfl rfl (by decide) ?_
          refine xk_move rfl (by decide) ?_
          (first | refine xk_split (t := 91) rfl (fun hg => ?_) (fun hg => ?_) | refine xk_splitB (t := 91) rfl (fun hg => ?_) (fun hg => ?_))
          ·
           have hp := hp17 (by simpa using hg)
           obtain ⟨dm, hdm⟩ : ∃ d, s.domains[id.toNat]? = some d := ⟨s.domains[id.toNat]'(by rw [hp] at h14; simp only [numF, if_true] at h14; omega), List.getElem?_eq_getElem _⟩
           obtain ⟨bD, oD, rD, rfl, _, rfl, hRD⟩ := hS.dom.row hdm
           have hret : retOf s id.toNat = dm.ret := by rw [retOf, hdm]; rfl
           have hlD := hS.len2
           have hltD := (List.getElem?_eq_some_iff.1 hdm).1
           have hcD := hRD.at_ (j := 2) rfl
           refine xk_guardT rfl rfl ?_; refine xk_field (off := 1) (by kernel_rfl) rfl (by decide) ?_
           refine xk_guardT rfl rfl ?_; refine xk_ld rfl ?_
           refine xk_guardT rfl rfl ?_; refine xk_move rfl (by decide) ?_
           refine xk_guardT rfl rfl ?_; refine xk_at id.toNat (oD + id.toNat * 3) (el := 75) (sz := 3) (by kernel_rfl) (by kernel_rfl) rfl rfl (by omega) (by omega) (by omega) (by decide) ?_
           refine xk_guardT rfl rfl ?_; refine xk_field (off := 2) (by kernel_rfl) rfl (by decide) ?_
           refine xk_guardT rfl rfl ?_; refine xk_ld rfl ?_
           refine xk_guardT rfl rfl ?_; (first | refine xk_notD rfl (by decide) ?_ | refine xk_not rfl (by decide) ?_)
           (first | refine xk_pickT rfl rfl (by decide) ?_ | refine xk_pickF rfl rfl (by decide) ?_)
           refine xk_move rfl (by decide) ?_
           (first | refine xk_split (t := 100) rfl (fun hg => ?_) (fun hg => ?_) | refine xk_splitB (t := 100) rfl (fun hg => ?_) (fun hg => ?_))
           ·
            refine xk_guardF rfl rfl rfl (by decide) ?_
            refine xk_guardF rfl rfl rfl (by decide) ?_
            refine xk_guardF rfl rfl rfl (by decide) ?_
            refine xk_guardF rfl rfl rfl (by decide) ?_
            refine xk_guardU rfl rfl (by decide) ?_
            refine xk_guardU rfl rfl (by decide) ?_
            refine xk_guardU rfl rfl (by decide) ?_
            refine xk_guardU rfl rfl (by decide) ?_
            refine xk_guardU rfl rfl (by decide) ?_
            refine xk_guardU rfl rfl (by decide) ?_
            refine xk_guardU rfl rfl (by decide) ?_
            refine xk_guardF rfl rfl rfl (by decide) ?_
            (first | refine xk_pickT rfl rfl (by decide) ?_ | refine xk_pickF rfl rfl (by decide) ?_)
            refine XK.nilN ?_
            exact XK.meetB (by repeat (first | exact trivial | refine ⟨rfl, ?_⟩)) (by first | exact get_iff rfl (by simp_all [notF, swit]) | exact get_false rfl (by simp_all [notF, swit]) | exact get_true rfl (by simp_all [notF, swit]))
           ·
            refine xk_guardT rfl rfl ?_; refine xk_field (off := 2) (by kernel_rfl) rfl (by decide) ?_
            refine xk_guardT rfl rfl ?_; refine xk_ld rfl ?_
            refine xk_guardT rfl rfl ?_; refine xk_eql rfl rfl (by decide) ?_
            refine xk_guardT rfl rfl ?_; refine xk_move rfl (by decide) ?_
            (first | refine xk_split (t := 104) rfl (fun hg => ?_) (fun hg => ?_) | refine xk_splitB (t := 104) rfl (fun hg => ?_) (fun hg => ?_))
            ·
             have hp : hPro w1 = 20 := by simpa using hg
             obtain ⟨ck, hck⟩ : ∃ d, s.clocks[id.toNat]? = some d := ⟨s.clocks[id.toNat]'(by rw [hp] at h14; simp only [numF, if_true] at h14; simp at h14; omega), List.getElem?_eq_getElem _⟩
             obtain ⟨bC, oC, rC, rfl, _, hRC, hC⟩ := hS.clk.row hck
             obtain ⟨cA, cn, ccap, hrow, _⟩ := hRC
             have hkind : kindOf s id.toNat = ck.kind := by rw [kindOf, hck]; rfl
             have hlC := hS.len1
             have hltC := (List.getElem?_eq_some_iff.1 hck).1
             subst hrow
             refine xk_guardT rfl rfl ?_; refine xk_field (off := 0) (by kernel_rfl) rfl (by decide) ?_
             refine xk_guardT rfl rfl ?_; refine xk_ld rfl ?_
             refine xk_guardT rfl rfl ?_; refine xk_move rfl (by decide) ?_
             refine xk_guardT rfl rfl ?_; refine xk_at id.toNat (oC + id.toNat * 6) (el := 118) (sz := 6) (by kernel_rfl) (by kernel_rfl) rfl rfl (by omega) (by omega) (by omega) (by decide) ?_
             refine xk_guardT rfl rfl ?_; refine xk_ldN 6 rfl ?_
             refine xk_guardT rfl rfl ?_; refine xk_callR (f := 178) (fi := []) (ca := []) (by kernel_rfl) rfl rfl (by decide) (fun w2 st => switched_any ck.kind _ _ _ _ _ _ _ w2) ?_
             refine xk_guardT rfl rfl ?_; (first | refine xk_notD rfl (by decide) ?_ | refine xk_not rfl (by decide) ?_)
             refine xk_guardT rfl rfl ?_; (first | refine xk_pickT rfl rfl (by decide) ?_ | refine xk_pickF rfl rfl (by decide) ?_)
             (first | refine xk_pickT rfl rfl (by decide) ?_ | refine xk_pickF rfl rfl (by decide) ?_)
             refine XK.nilN ?_
             exact XK.meetB (by repeat (first | exact trivial | refine ⟨rfl, ?_⟩)) (by first | exact get_iff rfl (by simp_all [notF, swit]) | exact get_false rfl (by simp_all [notF, swit]) | exact get_true rfl (by simp_all [notF, swit]))
            ·
             refine xk_guardF rfl rfl rfl (by decide) ?_
             refine xk_guardF rfl rfl rfl (by decide) ?_
             refine xk_guardF rfl rfl rfl (by decide) ?_
             refine xk_guardF rfl rfl rfl (by decide) ?_
             refine xk_guardF rfl rfl rfl (by decide) ?_
             refine xk_guardF rfl rfl rfl (by decide) ?_
             refine xk_guardF rfl rfl rfl (by decide) ?_
             refine xk_guardT rfl rfl ?_; (first | refine xk_pickT rfl rfl (by decide) ?_ | refine xk_pickF rfl rfl (by decide) ?_)
             (first | refine xk_pickT rfl rfl (by decide) ?_ | refine xk_pickF rfl rfl (by decide) ?_)
             refine XK.nilN ?_
             exact XK.meetB (by repeat (first | exact trivial | refine ⟨rfl, ?_⟩)) (by first | exact get_iff rfl (by simp_all [notF, swit]) | exact get_false rfl (by simp_all [notF, swit]) | exact get_true rfl (by simp_all [notF, swit]))
          ·
           refine xk_guardF rfl rfl rfl (by decide) ?_
           refine xk_guardF rfl rfl rfl (by decide) ?_
           refine xk_guardF rfl rfl rfl (by decide) ?_
           refine xk_guardF rfl rfl rfl (by decide) ?_
           refine xk_guardF rfl rfl rfl (by decide) ?_
           refine xk_guardF rfl rfl rfl (by decide) ?_
           refine xk_guardF rfl rfl rfl (by decide) ?_
           (first | refine xk_pickT rfl rfl (by decide) ?_ | refine xk_pickF rfl rfl (by decide) ?_)
           refine xk_move rfl (by decide) ?_
           refine xk_guardT rfl rfl ?_; refine xk_field (off := 2) (by kernel_rfl) rfl (by decide) ?_
           refine xk_guardT rfl rfl ?_; refine xk_ld rfl ?_
           refine xk_guardT rfl rfl ?_; refine xk_eql rfl rfl (by decide) ?_
           refine xk_guardT rfl rfl ?_; refine xk_move rfl (by decide) ?_
           (first | refine xk_split (t := 104) rfl (fun hg => ?_) (fun hg => ?_) | refine xk_splitB (t := 104) rfl (fun hg => ?_) (fun hg => ?_))
           ·
            have hp : hPro w1 = 20 := by simpa using hg
            obtain ⟨ck, hck⟩ : ∃ d, s.clocks[id.toNat]? = some d := ⟨s.clocks[id.toNat]'(by rw [hp] at h14; simp only [numF, if_true] at h14; simp at h14; omega), List.getElem?_eq_getElem _⟩
            obtain ⟨bC, oC, rC, rfl, _, hRC, hC⟩ := hS.clk.row hck
            obtain ⟨cA, cn, ccap, hrow, _⟩ := hRC
            have hkind : kindOf s id.toNat = ck.kind := by rw [kindOf, hck]; rfl
            have hlC := hS.len1
            have hltC := (List.getElem?_eq_some_iff.1 hck).1
            subst hrow
            refine xk_guardT rfl rfl ?_; refine xk_field (off := 0) (by kernel_rfl) rfl (by decide) ?_
            refine xk_guardT rfl rfl ?_; refine xk_ld rfl ?_
            refine xk_guardT rfl rfl ?_; refine xk_move rfl (by decide) ?_
            refine xk_guardT rfl rfl ?_; refine xk_at id.toNat (oC + id.toNat * 6) (el := 118) (sz := 6) (by kernel_rfl) (by kernel_rfl) rfl rfl (by omega) (by omega) (by omega) (by decide) ?_
            refine xk_guardT rfl rfl ?_; refine xk_ldN 6 rfl ?_
            refine xk_guardT rfl rfl ?_; refine xk_callR (f := 178) (fi := []) (ca := []) (by kernel_rfl) rfl rfl (by decide) (fun w2 st => switched_any ck.kind _ _ _ _ _ _ _ w2) ?_
            refine xk_guardT rfl rfl ?_; (first | refine xk_notD rfl (by decide) ?_ | refine xk_not rfl (by decide) ?_)
            refine xk_guardT rfl rfl ?_; (first | refine xk_pickT rfl rfl (by decide) ?_ | refine xk_pickF rfl rfl (by decide) ?_)
            (first | refine xk_pickT rfl rfl (by decide) ?_ | refine xk_pickF rfl rfl (by decide) ?_)
            refine XK.nilN ?_
            exact XK.meetB (by repeat (first | exact trivial | refine ⟨rfl, ?_⟩)) (by first | exact get_iff rfl (by simp_all [notF, swit]) | exact get_false rfl (by simp_all [notF, swit]) | exact get_true rfl (by simp_all [notF, swit]))
           ·
            refine xk_guardF rfl rfl rfl (by decide) ?_
            refine xk_guardF rfl rfl rfl (by decide) ?_
            refine xk_guardF rfl rfl rfl (by decide) ?_
            refine xk_guardF rfl rfl rfl (by decide) ?_
            refine xk_guardF rfl rfl rfl (by decide) ?_
            refine xk_guardF rfl rfl rfl (by decide) ?_
            refine xk_guardF rfl rfl rfl (by decide) ?_
            refine xk_guardT rfl rfl ?_; (first | refine xk_pickT rfl rfl (by decide) ?_ | refine xk_pickF rfl rfl (by decide) ?_)
            (first | refine xk_pickT rfl rfl (by decide) ?_ | refine xk_pickF rfl rfl (by decide) ?_)
            refine XK.nilN ?_
            exact XK.meetB (by repeat (first | exact trivial | refine ⟨rfl, ?_⟩)) (by first | exact get_iff rfl (by simp_all [notF, swit]) | exact get_false rfl (by simp_all [notF, swit]) | exact get_true rfl (by simp_all [notF, swit]))
         refine XK.if_ rfl (fun h22 => ?_) (fun h22 => ?_)
         ·
          refine XK.seq ?_
          refine XK.region ?_
          refine xk_buildS (zs := [.int .u8 0, .int .i64 0]) (L := [(0, 1), (1, 1)]) (zeroB_of (by kernel_rfl)) (by kernel_rfl) rfl (by simp [fillL, setN, Value.cells]; rfl) (by decide) ?_
          refine xk_assign rfl (by decide) ?_
          refine xk_stN rfl rfl ?_; simp only [putN, Value.cells, List.set, List.take, List.drop, List.nil_append, List.append_nil, List.length_cons, List.length_nil, List.cons_append, Nat.reduceAdd]
          refine XK.nilN ?_
          refine XK.ret ?_
          refine XK.norm ?_
          exact XK.retTC (n := 2) (vs := [.int .u8 0, .int .i64 0]) rfl (by kernel_rfl) rfl rfl (by first | assumption | exact RdN.whole 0 rfl | exact RdN.whole 1 rfl | exact RdN.whole 2 rfl | exact RdN.whole 3 rfl | exact RdN.whole 4 rfl | exact RdN.whole 5 rfl | exact RdN.whole 6 rfl | exact RdN.whole 7 rfl | exact RdN.whole 8 rfl | exact RdN.roc (by simp) (by assumption)) rfl fun w9 st => ⟨by
           rw [hread, askF, if_neg h14, if_neg h16, if_neg h19, if_pos h22]; rfl, st.below (by simp)⟩
         ·
          refine XK.skip ?_
          refine XK.norm ?_
          refine XK.seq ?_
          refine XK.draw 2 (by kernel_rfl) (by kernel_rfl) ?_
          refine XA.dA 0 rfl rfl rfl (does_ldN 2 rfl) ?_
          refine XA.dA 1 rfl rfl rfl (does_assign rfl) ?_
          refine XA.next 2 rfl (by kernel_rfl) ?_
          refine xk_stN rfl rfl ?_; simp only [putN, Value.cells, List.set, List.take, List.drop, List.nil_append, List.append_nil, List.length_cons, List.length_nil, List.cons_append, Nat.reduceAdd]
          refine XA.bt ?_
          refine XA.done (by kernel_rfl) ?_
          refine XK.norm ?_
          refine XK.ret ?_
          refine XK.norm ?_
          exact XK.retTC (n := 2) (vs := [.int .u8 k, .int .i64 id]) rfl (by kernel_rfl) rfl rfl (by first | assumption | exact RdN.whole 0 rfl | exact RdN.whole 1 rfl | exact RdN.whole 2 rfl | exact RdN.whole 3 rfl | exact RdN.whole 4 rfl | exact RdN.whole 5 rfl | exact RdN.whole 6 rfl | exact RdN.whole 7 rfl | exact RdN.whole 8 rfl | exact RdN.roc (by simp) (by assumption)) rfl fun w9 st => ⟨by
           rw [hread, askF, if_neg h14, if_neg h16, if_neg h19, if_neg h22, hk]; rfl, st.below (by simp)⟩
end
section
def IntsOk (l : List Nat) (v : Value) (w w' : World) : Prop := ∃ A c, v = .slice A l.length c ∧ SlS (fresh w w') 1 A l.length (intCells (natI l))
theorem chain_any (q : Piece) (s : Soc) (A1 A2 A3 A4 : Option Addr) (n1 k1 n2 k2 n3 k3 n4 k4 : Nat) (c : Nat) (w : World) (hSP : SocP q s A1 n1 A2 n2 A3 n3 A4 n4) (hm : s.okT) (hq : q.Le (all w)) (hc : c < s.clocks.length) :
  Calls Tryz.prog 89 #[.agg #[.slice A1 n1 k1, .slice A2 n2 k2, .slice A3 n3 k3, .slice A4 n4 k4], .int .i64 (c : Int)] w (RtW (IntsOk (chainL s c)) w) := by
 obtain ⟨rfl, rfl, rfl, rfl⟩ := hSP.len
 refine XK.enter (vs := [.agg #[.slice A1 s.clocks.length k1, .slice A2 s.domains.length k2, .slice A3 s.resets.length k3, .slice A4 s.devs.length k4], .int .i64 (c : Int)]) Tryz.func89 rfl Tryz.ntmps89 (by simp) ?_
 refine XK.piece q (by simp) hq ?_
 refine XK.seq ?_
 refine XK.region ?_
 refine xk_box rfl (by decide) fun g1 => ?_
 refine xk_assign rfl (by decide) ?_
 refine XK.nilN ?_
 refine XK.seq ?_
 refine XK.region ?_
 refine xk_assign rfl (by decide) ?_
 refine XK.nilN ?_
 refine XK.seq ?_
 refine XK.nilrow 3 1 ?_
 refine XK.envS [(1, .int .i64 (c : Int)), (5, .slice none 0 0), (2, .pointer (some ⟨g1, 0, none⟩))] ?_
 refine XK.block ?_
 refine XK.loop (fun m e R H => ∃ (cur : Nat) (l : List Nat) (A : Option Addr) (k : Nat), cur < s.clocks.length ∧ l.length ≤ s.clocks.length ∧ m = s.clocks.length - l.length ∧ chainL s c = l ++ chainN s (s.clocks.length - l.length) cur ∧ e = [(1, .int .i64 (cur : Int)), (5, .slice A l.length k), (2, .pointer (some ⟨g1, 0, none⟩))] ∧ R = [q, all w] ∧ H = [HP.own 3 1 (.slice A l.length k) l.length (intCells (natI l)), HP.blk g1 29 [.slice A1 s.clocks.length k1, .slice A2 s.domains.length k2, .slice A3 s.resets.length k3, .slice A4 s.devs.length k4]]) s.clocks.length ⟨c, [], none, 0, hc, by simp, rfl, rfl, rfl, rfl, rfl⟩ fun m e R H hI => ?_
 obtain ⟨cur, l, A, k, hcur, hll, rfl, hch, rfl, rfl, rfl⟩ := hI
 refine XK.seq ?_
 refine XK.cutB 22 (l.length < s.clocks.length) ?_ ?_
 ·skip
  refine XK.region ?_
  refine xk_move rfl (by decide) ?_
  refine xk_geq rfl rfl (by decide) ?_
  refine xk_move rfl (by decide) ?_
  refine xk_split (t := 8) rfl (fun hg => ?_) (fun hg => ?_)
  ·
   refine xk_guardT rfl rfl ?_; refine xk_move rfl (by decide) ?_
   refine xk_guardT rfl rfl ?_; refine xk_field (off := 0) (by kernel_rfl) rfl (by decide) ?_
   refine xk_guardT rfl rfl ?_; refine xk_ld rfl ?_
   refine xk_guardT rfl rfl ?_; refine xk_len (el := 118) (by kernel_rfl) rfl (by decide) ?_
   refine xk_guardT rfl rfl ?_; refine xk_lss rfl rfl (by decide) ?_
   (first | refine xk_pickT rfl rfl (by decide) ?_ | refine xk_pickF rfl rfl (by decide) ?_)
   refine xk_move rfl (by decide) ?_
   refine xk_split (t := 15) rfl (fun hg => ?_) (fun hg => ?_)
   ·
    refine xk_guardT rfl rfl ?_; refine xk_move rfl (by decide) ?_
    refine xk_guardT rfl rfl ?_; refine xk_len (el := 3) (by kernel_rfl) rfl (by decide) ?_
    refine xk_guardT rfl rfl ?_; refine xk_field (off := 0) (by kernel_rfl) rfl (by decide) ?_
    refine xk_guardT rfl rfl ?_; refine xk_ld rfl ?_
    refine xk_guardT rfl rfl ?_; refine xk_len (el := 118) (by kernel_rfl) rfl (by decide) ?_
    refine xk_guardT rfl rfl ?_; refine xk_lss rfl rfl (by decide) ?_
    (first | refine xk_pickT rfl rfl (by decide) ?_ | refine xk_pickF rfl rfl (by decide) ?_)
    refine XK.nilN ?_
    exact XK.meetB (by repeat (first | exact trivial | refine ⟨rfl, ?_⟩)) (get_iff rfl (by omega))
   ·
    refine xk_guardF rfl rfl rfl (by decide) ?_
    refine xk_guardF rfl rfl rfl (by decide) ?_
    refine xk_guardF rfl rfl rfl (by decide) ?_
    refine xk_guardF rfl rfl rfl (by decide) ?_
    refine xk_guardF rfl rfl rfl (by decide) ?_
    refine xk_guardF rfl rfl rfl (by decide) ?_
    (first | refine xk_pickT rfl rfl (by decide) ?_ | refine xk_pickF rfl rfl (by decide) ?_)
    refine XK.nilN ?_
    exact XK.meetB (by repeat (first | exact trivial | refine ⟨rfl, ?_⟩)) (get_false rfl (by omega))
  ·
   refine xk_guardF rfl rfl rfl (by decide) ?_
   refine xk_guardF rfl rfl rfl (by decide) ?_
   refine xk_guardF rfl rfl rfl (by decide) ?_
   refine xk_guardF rfl rfl rfl (by decide) ?_
   refine xk_guardF rfl rfl rfl (by decide) ?_
   (first | refine xk_pickT rfl rfl (by decide) ?_ | refine xk_pickF rfl rfl (by decide) ?_)
   refine xk_move rfl (by decide) ?_
   refine xk_guardF rfl rfl rfl (by decide) ?_
   refine xk_guardF rfl rfl rfl (by decide) ?_
   refine xk_guardF rfl rfl rfl (by decide) ?_
   refine xk_guardF rfl rfl rfl (by decide) ?_
   refine xk_guardF rfl rfl rfl (by decide) ?_
   refine xk_guardF rfl rfl rfl (by decide) ?_
   (first | refine xk_pickT rfl rfl (by decide) ?_ | refine xk_pickF rfl rfl (by decide) ?_)
   refine XK.nilN ?_
   exact XK.meetB (by repeat (first | exact trivial | refine ⟨rfl, ?_⟩)) (get_false rfl (by omega))
 refine XK.if_ rfl (fun h => ?_) (fun h => ?_)
 ·
  refine XK.skip ?_
  refine XK.norm ?_
  refine XK.block ?_
  refine XK.seq ?_
  have hlt : l.length < s.clocks.length := h
  obtain ⟨x, hx⟩ : ∃ x, s.clocks[cur]? = some x := ⟨_, List.getElem?_eq_getElem hcur⟩
  obtain ⟨k0, hk0⟩ : ∃ k0, s.clocks.length - l.length = k0 + 1 := ⟨s.clocks.length - l.length - 1, by omega⟩
  rw [hk0, chainN_cons hx] at hch
  have hn9 := hm.nc
  have hfit := (hm.clocks cur x hx).1
  refine XK.region ?_
  refine xk_move rfl (by decide) ?_
  refine xk_move rfl (by decide) ?_
  refine xk_slice (el := 3) (sz := 1) (zs := [.int .i64 0]) (by kernel_rfl) (zeroB_of (by kernel_rfl)) (by kernel_rfl) rfl (by decide) (by decide) rfl (by simp [fillL, setN, Value.cells, List.range_succ, List.set]; rfl) (by decide) fun g2 => ?_
  refine xk_appendT 1 1 8 1 (n' := l.length + 1) (el := 3) (by kernel_rfl) (by kernel_rfl) (by decide) rfl rfl rfl (sl_blk 0 rfl rfl) (by simp [Value.oneCell']) rfl (by omega) (by omega) (by decide) fun A' k' => ?_
  dsimp only [List.set]
  rw [show intCells (natI l) ++ [Value.int .i64 (cur : Int)] = intCells (natI (l ++ [cur])) by simp [intCells, natI]]
  refine XK.weak [1, 2] rfl (by decide) (R' := [q, all w]) (by simp) ?_
  refine xk_assign rfl (by decide) ?_
  refine XK.nilN ?_
  refine XK.seq ?_
  refine XK.seq ?_
  obtain ⟨bC, oC, rC, rfl, hzC, _, hR, hcC⟩ := hSP.clk.rowP hx
  obtain ⟨As, ns, ks, rfl, rfl, hsr⟩ := hR
  refine XK.region ?_
  refine xk_field (off := 0) (by kernel_rfl) rfl (by decide) ?_
  refine xk_ld rfl ?_
  refine xk_move rfl (by decide) ?_
  refine xk_at (cur) (oC + cur * 6) (el := 118) (sz := 6) (by kernel_rfl) (by kernel_rfl) rfl rfl (by omega) (by omega) (by omega) (by decide) ?_
  refine xk_field (off := 1) (by kernel_rfl) rfl (by decide) ?_
  refine xk_load (by kernel_rfl) rfl (Rd.ro (p := q) (by simp) hzC (hcC 1 _ rfl)) (by decide) ?_
  refine xk_len (el := 3) (by kernel_rfl) rfl (by decide) ?_
  refine xk_eql rfl rfl (by decide) ?_
  refine XK.nilN ?_
  refine XK.if_ rfl (fun h0 => ?_) (fun h0 => ?_)
  ·
   refine XK.exit ?_
   refine XK.norm ?_
   refine XK.seq ?_
   refine XK.region ?_
   refine xk_move rfl (by decide) ?_
   refine xk_assign rfl (by decide) ?_
   refine XK.nilN ?_
   refine XK.ret ?_
   refine XK.norm ?_
   have hs0 : x.src = [] := List.eq_nil_of_length_eq_zero (by have : ((x.src.length : Nat) : Int) = 0 := h0; omega)
   rw [hs0] at hch
   have hfin : (l ++ [cur]) = chainL s c := hch.symm
   refine XK.still [] [0] [] (by simp) rfl (by decide) (by decide) fun qf hqf _ hfr => ?_
   obtain ⟨Ff, sf, zf⟩ := hqf 0 _ (by simp) rfl
   obtain ⟨Av, cv, hv, hsv⟩ := SlS.of_own (Y := qf.Z) sf zf
   exact XK.ret1 rfl rfl fun w1 st => ⟨⟨_, rfl, by
    rw [← hfin]
    unfold IntsOk
    rw [hv]
    exact ⟨Av, cv, by simp, by simpa using SlS.le hsv (st.fresh_le (by simp) (hfr (by simp) (by simp)))⟩⟩, st.below (by simp)⟩
  ·
   refine XK.skip ?_
   refine XK.norm ?_
   obtain ⟨f, fs, hs0⟩ : ∃ f fs, x.src = f :: fs := by
    cases hs0 : x.src with
    | nil => exact absurd (by rw [hs0]; rfl) h0
    | cons f fs => exact ⟨f, fs, rfl⟩
   have hf := hfit f (by rw [hs0]; simp)
   obtain ⟨f', rfl⟩ : ∃ f' : Nat, f = (f' : Int) := ⟨f.toNat, by omega⟩
   rw [hs0] at hch
   obtain ⟨bS, oS, rfl, hzS, hcS⟩ := hsr.2 (by rw [hs0]; simp)
   refine XK.region ?_
   refine xk_field (off := 0) (by kernel_rfl) rfl (by decide) ?_
   refine xk_ld rfl ?_
   refine xk_move rfl (by decide) ?_
   refine xk_at (cur) (oC + cur * 6) (el := 118) (sz := 6) (by kernel_rfl) (by kernel_rfl) rfl rfl (by omega) (by omega) (by omega) (by decide) ?_
   refine xk_field (off := 1) (by kernel_rfl) rfl (by decide) ?_
   refine xk_load (by kernel_rfl) rfl (Rd.ro (p := q) (by simp) hzC (hcC 1 _ rfl)) (by decide) ?_
   refine xk_at 0 oS (el := 3) (sz := 1) (by kernel_rfl) (by kernel_rfl) rfl rfl rfl (by rw [hs0]; simp) (by omega) (by decide) ?_
   refine xk_load (by kernel_rfl) rfl (Rd.ro (p := q) (by simp) hzS (hcS 0 _ (by rw [hs0]; rfl))) (by decide) ?_
   refine xk_assign rfl (by decide) ?_
   refine XK.nilN ?_
   exact XK.envS [(1, .int .i64 (f' : Int)), (5, .slice A' (l.length + 1) k'), (2, .pointer (some ⟨g1, 0, none⟩))] (XK.round (s.clocks.length - (l.length + 1)) (by omega) ⟨f', l ++ [cur], A', k', by omega, by simp; omega, by simp, by rw [hch]; simp [show s.clocks.length - (l.length + 1) = k0 by omega], by simp, rfl, by simp⟩)
 ·
  refine XK.exit ?_
  refine XK.norm ?_
  refine XK.seq ?_
  refine XK.region ?_
  refine xk_move rfl (by decide) ?_
  refine xk_assign rfl (by decide) ?_
  refine XK.nilN ?_
  refine XK.ret ?_
  refine XK.norm ?_
  have hge : ¬ l.length < s.clocks.length := h
  rw [show s.clocks.length - l.length = 0 by omega] at hch
  have hfin : l = chainL s c := by rw [hch]; simp [chainN]
  refine XK.still [] [0] [] (by simp) rfl (by decide) (by decide) fun qf hqf _ hfr => ?_
  obtain ⟨Ff, sf, zf⟩ := hqf 0 _ (by simp) rfl
  obtain ⟨Av, cv, hv, hsv⟩ := SlS.of_own (Y := qf.Z) sf zf
  exact XK.ret1 rfl rfl fun w1 st => ⟨⟨_, rfl, by
   rw [← hfin]
   unfold IntsOk
   rw [hv]
   exact ⟨Av, cv, rfl, SlS.le hsv (st.fresh_le (by simp) (hfr (by simp) (by simp)))⟩⟩, st.below (by simp)⟩
end
section
def idxF (l : List Int) (x : Int) : Int := if x ∈ l then (l.idxOf x : Int) else -1
theorem idxF_get {l : List Int} {x : Int} {i : Nat} (hno : ∀ j y, j < i → l[j]? = some y → y ≠ x) (h : l[i]? = some x) : idxF l x = i := by
 have hm : x ∈ l := List.mem_of_getElem? h
 rw [idxF, if_pos hm]
 have h2 : l.idxOf x = i := by
  induction l generalizing i with
  | nil => simp at h
  | cons a r ih =>
   cases i with
   | zero => simp at h; subst h; simp
   | succ i =>
    have ha : a ≠ x := hno 0 a (by omega) rfl
    simp at h
    have hmr : x ∈ r := List.mem_of_getElem? h
    have hi := ih (fun j y hj hy => hno (j + 1) y (by omega) (by simpa using hy)) h hmr
    have hb : (a == x) = false := by simpa using ha
    rw [List.idxOf_cons, hb]
    simp [hi]
 rw [h2]
theorem idxF_none {l : List Int} {x : Int} (hno : ∀ (j : Nat) (y : Int), l[j]? = some y → y ≠ x) : idxF l x = -1 := by
 rw [idxF, if_neg]
 intro hm
 obtain ⟨j, hj⟩ := List.getElem?_of_mem hm
 exact hno j x hj rfl
theorem idxF_mem (l : List Int) (x : Int) : decide (0 ≤ idxF l x) = decide (x ∈ l) := by
 unfold idxF
 by_cases h : x ∈ l <;> simp [h]
def chainB (s : Soc) (c id : Int) : Bool := decide (id ∈ natI (chainL s c.toNat))
def hitB (s : Soc) (k id : Int) (d : Dev) : Bool :=
 if k = 100 ∨ k = 107 then decide (d.domain = id) else if k = 111 then chainB s d.clock id else if k = 97 then decide (d.reset = id) else false
def busyAt (s : Soc) (wt : List Int) (k id : Int) (i : Nat) : Bool := decide (0 < (wt[i]?).getD 0) && ((s.devs[i]?).any fun d => hitB s k id d)
def busyF (s : Soc) (wt : List Int) (k id : Int) : Bool := (List.range s.devs.length).any (busyAt s wt k id)
theorem busyF_true {s : Soc} {wt : List Int} {k id : Int} {i : Nat} (hi : i < s.devs.length) (h : busyAt s wt k id i = true) : busyF s wt k id = true := by
 rw [busyF, List.any_eq_true]; exact ⟨i, List.mem_range.2 hi, h⟩
theorem busyF_false {s : Soc} {wt : List Int} {k id : Int} (h : ∀ i, i < s.devs.length → busyAt s wt k id i = false) : busyF s wt k id = false := by
 rw [busyF, List.any_eq_false]; intro i hi; simp [h i (List.mem_range.1 hi)]
def hangAt (s : Soc) (x y : Wsh) (k id : Int) (i : Nat) : Bool :=
 if k = 100 ∨ k = 107 then ((s.domains[i]?).any fun d => decide (d.above = id)) && wishedF x y k i
 else decide ((i : Int) ≠ id) && (wishedF x y k i && chainB s i id)
def hangN (s : Soc) (k : Int) : Nat := if k = 100 ∨ k = 107 then s.domains.length else if k = 111 then s.clocks.length else 0
def hangF (s : Soc) (x y : Wsh) (k id : Int) : Bool := (List.range (hangN s k)).any (hangAt s x y k id)
theorem hangF_true {s : Soc} {x y : Wsh} {k id : Int} {i : Nat} (hi : i < hangN s k) (h : hangAt s x y k id i = true) : hangF s x y k id = true := by
 rw [hangF, List.any_eq_true]; exact ⟨i, List.mem_range.2 hi, h⟩
theorem hangF_false {s : Soc} {x y : Wsh} {k id : Int} (h : ∀ i, i < hangN s k → hangAt s x y k id i = false) : hangF s x y k id = false := by
 rw [hangF, List.any_eq_false]; intro i hi; simp [h i (List.mem_range.1 hi)]
def deniedF (s : Soc) (x y : Wsh) (ag : Nat) (k id : Int) : Bool := wishF (if ag = 0 then y else x) k id || hangF s x y k id
def decF (s : Soc) (x y : Wsh) (wt : List Int) (ag : Nat) (l : List Int) : Int × Int × Int :=
 if (readF s l).1 ≠ 0 ∨ (readF s l).2.1 = 0 ∨ wishF (if ag = 0 then x else y) (readF s l).2.1 (readF s l).2.2 = decide (onB (readF s l).2.1) then ((readF s l).1, 0, 0)
 else if onB (readF s l).2.1 then
  (if (readF s l).2.1 = 117 ∧ (s.domains[(readF s l).2.2.toNat]?).any (fun d => decide (d.above ≠ -1) && !wishedF x y 117 d.above) = true then (-3, 0, 0) else (0, (readF s l).2))
 else if deniedF s x y ag (readF s l).2.1 (readF s l).2.2 then (-3, 0, 0)
 else if busyF s wt (readF s l).2.1 (readF s l).2.2 then (-6, 0, 0)
 else (0, (readF s l).2)
def kPro (k : Int) : Int := if k = 117 ∨ k = 100 ∨ k = 107 then 17 else if k = 99 ∨ k = 111 then 20 else 22
def kindB (k : Int) : Prop := k = 117 ∨ k = 100 ∨ k = 107 ∨ k = 99 ∨ k = 111 ∨ k = 114 ∨ k = 97
theorem frm_act (p m : Int) (v : Int) (h0 : 0 ≤ v) (hv : v < (frmD p m).m) : kPro ((frmD p m).act v) = p ∧ kindB ((frmD p m).act v) := by
 have h1 : ∀ f : FrmT, frmOf p m = some f → v < f.m → kPro (f.act v) = p ∧ kindB (f.act v) := by
  intro f hf hv
  unfold frmOf at hf
  have hv3 : f.m ≤ 3 := by
   have := (frm_ok p m).2.2.1
   unfold frmD frmOf at this
   rw [hf] at this
   exact this
  rcases (by omega : v = 0 ∨ v = 1 ∨ v = 2) with rfl | rfl | rfl <;>
  ·repeat' split at hf
   all_goals first
    | (cases hf; done)
    | (cases hf; simp at hv; done)
    | (cases hf; simp_all [kPro, kindB, FrmT.act])
 unfold frmD at hv ⊢
 cases h : frmOf p m with
 | none => rw [h] at hv; simp at hv; omega
 | some f => rw [h] at hv; exact h1 f h hv
theorem readF_ok {s : Soc} {l : List Int} (hu : U32s l) : ((readF s l).2.1 = 0 ∧ (readF s l).2.2 = 0) ∨ ((readF s l).1 = 0 ∧ kindB (readF s l).2.1 ∧ 0 ≤ (readF s l).2.2 ∧ (readF s l).2.2 < (numF s (kPro (readF s l).2.1) : Int) ∧
  ((readF s l).2.1 = 107 → retOf s (readF s l).2.2.toNat = true) ∧ (kPro (readF s l).2.1 = 20 → swit s (readF s l).2.2.toNat)) := by
 unfold readF
 split
 ·exact .inl ⟨rfl, rfl⟩
 ·rename_i w r
  split
  ·exact .inl ⟨rfl, rfl⟩
  ·split
   ·exact .inl ⟨rfl, rfl⟩
   ·split
    ·exact .inl ⟨rfl, rfl⟩
    ·split
     ·exact .inl ⟨rfl, rfl⟩
     ·have hd : ∀ i, 0 ≤ r.getD i 0 := fun i => by
       rw [List.getD_eq_getElem?_getD]
       cases hi : r[i]? with
       | none => exact Int.le_refl _
       | some x => exact (hu x (List.mem_cons_of_mem _ (List.mem_of_getElem? hi))).1
      have hid := hd 0
      have hv := hd ((frmD (hPro w) (hMsg w)).n.toNat - 1)
      generalize r.getD 0 0 = id at *
      generalize r.getD ((frmD (hPro w) (hMsg w)).n.toNat - 1) 0 = v at *
      unfold askF
      split
      ·exact .inl ⟨rfl, rfl⟩
      ·split
       ·exact .inl ⟨rfl, rfl⟩
       ·split
        ·exact .inl ⟨rfl, rfl⟩
        ·split
         ·exact .inl ⟨rfl, rfl⟩
         ·rename_i h1 h2 h3 h4
          obtain ⟨a1, a2⟩ := frm_act (hPro w) (hMsg w) v hv (by omega)
          refine .inr ⟨rfl, a2, hid, by dsimp only; rw [a1]; omega, fun h5 => ?_, fun h5 => ?_⟩
          ·dsimp only at h5 ⊢
           cases hr : retOf s id.toNat with
           | true => rfl
           | false => exact absurd (.inl ⟨h5, hr⟩) h4
          ·dsimp only at h5 ⊢
           rw [a1] at h5
           exact Decidable.byContradiction fun hs => h4 (.inr ⟨h5, hs⟩)
theorem SlS.int {w : World} {A : Option Addr} {n : Nat} {l : List Int} (h : SlS (all w) 1 A n (intCells l)) (hn : 0 < n) : ∃ b off, A = some ⟨b, off, none⟩ ∧ ∀ (i : Nat) (x : Int), l[i]? = some x → ROc w b (off + i) (.int .i64 x) := by
 obtain ⟨b, off, hA, hb, hc⟩ := h.2 hn
 refine ⟨b, off, hA, fun i x hx => ⟨hb, hc i _ ?_⟩⟩
 simp only [intCells, List.getElem?_map, hx, Option.map_some]
theorem SocW.P {w : World} {s : Soc} {A1 A2 A3 A4 : Option Addr} {n1 n2 n3 n4 : Nat} (h : SocW w s A1 n1 A2 n2 A3 n3 A4 n4) : SocP (all w) s A1 n1 A2 n2 A3 n3 A4 n4 := ⟨h.clk, h.dom, h.rst, h.dev⟩
end
section
set_option maxHeartbeats 4000000
set_option maxRecDepth 20000
theorem index_any (A : Option Addr) (n c : Nat) (l : List Int) (x : Int) (w : World) (hs : SlS (all w) 1 A n (intCells l)) (hn : n = l.length) (hn2 : n ≤ 1000000) :
  Calls Tryz.prog 231 #[.slice A n c, .int .i64 x] w (Rt (.int .i64 (idxF l x)) w) := by
 refine XK.enter (vs := [.slice A n c, .int .i64 x]) Tryz.func231 rfl Tryz.ntmps231 (by simp) ?_
 refine XK.go ?_
 refine XK.envS [(8, .int .i64 0), (7, .int .i64 n), (1, .int .i64 x), (0, .slice A n c)] ?_
 refine XK.go ?_
 refine XK.loop (fun m e R H => ∃ (i : Nat), i ≤ n ∧ m = n - i ∧ (∀ (j : Nat) (y : Int), j < i → l[j]? = some y → y ≠ x) ∧ e = [(8, .int .i64 i), (7, .int .i64 n), (1, .int .i64 x), (0, .slice A n c)] ∧ R = [all w] ∧ H = []) n ⟨0, by omega, rfl, (fun j y hj => absurd hj (Nat.not_lt_zero j)), rfl, rfl, rfl⟩ fun m e R H hI => ?_
 obtain ⟨i, hi, rfl, hno, rfl, rfl, rfl⟩ := hI
 refine XK.go ?_
 refine XK.if_ rfl (fun h => ?_) (fun h => ?_)
 ·
  refine XK.go ?_
  have hil : i < n := by have h' : (i : Int) < (n : Int) := h; omega
  obtain ⟨y, hy⟩ : ∃ y, l[i]? = some y := ⟨l[i]'(by omega), List.getElem?_eq_getElem _⟩
  obtain ⟨b, off, rfl, hc⟩ := hs.int (by omega)
  have hcy := hc i y hy
  refine XK.go ?_
  refine xk_at (i) (off + i) (el := 3) (sz := 1) (by kernel_rfl) (by kernel_rfl) rfl rfl (by omega) (by omega) (by omega) (by decide) ?_
  refine XK.go ?_
  refine XK.if_ rfl (fun h2 => ?_) (fun h2 => ?_)
  ·
   refine XK.go ?_
   exact XK.ret1 rfl rfl fun w1 st => ⟨by rw [idxF_get (i := i) hno (h2 ▸ hy)], st.below (by simp)⟩
  ·
   refine XK.go ?_
   exact XK.envS [(8, .int .i64 ((i : Int) + 1)), (7, .int .i64 n), (1, .int .i64 x), (0, .slice (some ⟨b, off, none⟩) n c)] (XK.round (n - (i + 1)) (by omega) ⟨i + 1, by omega, rfl, (fun j y' hj hy' => by
    rcases Nat.lt_or_ge j i with h1 | h1
    ·exact hno j y' h1 hy'
    ·have hji : j = i := by omega
     subst hji
     rw [hy] at hy'
     cases hy'
     exact fun h => h2 h.symm), rfl, rfl, rfl⟩)
 ·
  refine XK.go ?_
  have hin : i = n := by have h' : ¬ (i : Int) < (n : Int) := h; omega
  subst hin
  exact XK.ret1 rfl rfl fun w1 st => ⟨by rw [idxF_none (fun j y hy => hno j y (by have := (List.getElem?_eq_some_iff.1 hy).1; omega) hy)], st.below (by simp)⟩
theorem contains_any (A : Option Addr) (n c : Nat) (l : List Int) (x : Int) (w : World) (hs : SlS (all w) 1 A n (intCells l)) (hn : n = l.length) (hn2 : n ≤ 1000000) :
  Calls Tryz.prog 180 #[.slice A n c, .int .i64 x] w (Rt (.bool (decide (x ∈ l))) w) := by
 refine XK.enter (vs := [.slice A n c, .int .i64 x]) Tryz.func180 rfl Tryz.ntmps180 (by simp) ?_
 refine XK.go ?_
 refine xk_callR (f := 231) (fi := []) (ca := []) (by kernel_rfl) rfl rfl (by decide) (fun w1 st => index_any A n c l x w1 (hs.le (st.le (by simp))) hn hn2) ?_
 refine XK.go ?_
 exact XK.ret1 rfl rfl fun w1 st => ⟨by rw [← idxF_mem], st.below (by simp)⟩
theorem busy_any (q : Piece) (s : Soc) (A1 A2 A3 A4 : Option Addr) (n1 k1 n2 k2 n3 k3 n4 k4 : Nat) (Aw : Option Addr) (nw cw : Nat) (wt : List Int) (k id : Int) (w : World) (hSP : SocP q s A1 n1 A2 n2 A3 n3 A4 n4) (hm : s.okT) (hq : q.Le (all w)) (hw : SlS (all w) 1 Aw nw (intCells wt)) (hnw : nw = wt.length) :
  Calls Tryz.prog 99 #[.agg #[.slice A1 n1 k1, .slice A2 n2 k2, .slice A3 n3 k3, .slice A4 n4 k4], .slice Aw nw cw, .agg #[.int .u8 k, .int .i64 id]] w (Rt (.bool (busyF s wt k id)) w) := by
 refine XK.enter (vs := [.agg #[.slice A1 n1 k1, .slice A2 n2 k2, .slice A3 n3 k3, .slice A4 n4 k4], .slice Aw nw cw, .agg #[.int .u8 k, .int .i64 id]]) Tryz.func99 rfl Tryz.ntmps99 (by simp) ?_
 refine XK.seq ?_
 refine XK.piece q (by simp) hq ?_
 obtain ⟨rfl, rfl, rfl, rfl⟩ := hSP.len
 refine XK.region ?_
 refine xk_box rfl (by decide) fun g1 => ?_
 refine xk_box rfl (by decide) fun g2 => ?_
 refine xk_assign rfl (by decide) ?_
 refine XK.nilN ?_
 refine XK.seq ?_
 refine XK.seq ?_
 refine XK.region ?_
 refine xk_field (off := 3) (by kernel_rfl) rfl (by decide) ?_
 refine xk_ld rfl ?_
 refine xk_len (el := 78) (by kernel_rfl) rfl (by decide) ?_
 refine xk_move rfl (by decide) ?_
 refine XK.nilN ?_
 refine XK.envS [(12, .int .i64 0), (11, .int .i64 s.devs.length), (10, .slice A4 s.devs.length k4), (5, .pointer (some ⟨g2, 0, none⟩)), (3, .pointer (some ⟨g1, 0, none⟩)), (1, .slice Aw nw cw)] ?_
 refine XK.block ?_
 refine XK.loop (fun m e R H => ∃ (i : Nat), i ≤ s.devs.length ∧ m = s.devs.length - i ∧ (∀ j, j < i → busyAt s wt k id j = false) ∧ e = [(12, .int .i64 i), (11, .int .i64 s.devs.length), (10, .slice A4 s.devs.length k4), (5, .pointer (some ⟨g2, 0, none⟩)), (3, .pointer (some ⟨g1, 0, none⟩)), (1, .slice Aw nw cw)] ∧ R = [q, all w] ∧ H = [HP.blk g2 63 [.int .u8 k, .int .i64 id], HP.blk g1 29 [.slice A1 s.clocks.length k1, .slice A2 s.domains.length k2, .slice A3 s.resets.length k3, .slice A4 s.devs.length k4]]) s.devs.length ⟨0, by omega, rfl, (fun j hj => absurd hj (Nat.not_lt_zero j)), rfl, rfl, rfl⟩ fun m e R H hI => ?_
 obtain ⟨i, hi, rfl, hno, rfl, rfl, rfl⟩ := hI
 refine XK.seq ?_
 refine XK.region ?_
 refine xk_lss rfl rfl (by decide) ?_
 refine XK.nilN ?_
 refine XK.seq ?_
 refine XK.if_ rfl (fun h => ?_) (fun h => ?_)
 ·
  refine XK.skip ?_
  refine XK.norm ?_
  refine XK.seq ?_
  refine XK.block ?_
  refine XK.seq ?_
  have hil : i < s.devs.length := by have h' : (i : Int) < (s.devs.length : Int) := h; omega
  obtain ⟨d, hd⟩ : ∃ d, s.devs[i]? = some d := ⟨_, List.getElem?_eq_getElem hil⟩
  obtain ⟨hx1, hx2, hx3, hx4, hx5, hx6, _⟩ := hm.devs i d hd
  have hnc := hm.nc
  have hnd := hm.nd
  have hnv := hm.nv
  obtain ⟨bV, oV, rV, rfl, hzV, _, hR, hcV⟩ := hSP.dev.rowP hd
  obtain ⟨Ar, nr, kr, An, nn, kn, rfl, _⟩ := hR
  obtain ⟨xc, hxc⟩ : ∃ xc : Nat, d.clock = (xc : Int) := ⟨d.clock.toNat, by omega⟩
  have hgo : busyAt s wt k id i = false → ∀ j, j < i + 1 → busyAt s wt k id j = false := fun h j hj => by
   rcases Nat.lt_or_ge j i with h1 | h1
   ·exact hno j h1
   ·have hji : j = i := by omega
    subst hji; exact h
  rw [hxc] at hcV
  have hbat : busyAt s wt k id i = (decide (0 < (wt[i]?).getD 0) && hitB s k id d) := by rw [busyAt, hd]; rfl
  refine XK.region ?_
  refine xk_move rfl (by decide) ?_
  refine xk_at (i) (oV + i * 6) (el := 78) (sz := 6) (by kernel_rfl) (by kernel_rfl) rfl rfl (by omega) (by omega) (by omega) (by decide) ?_
  refine xk_loadN 6 (by kernel_rfl) rfl (RdN.of (vs := [.int .i64 (xc : Int), .int .i64 d.domain, .int .i64 d.reset, .int .u32 d.clamp, .slice Ar nr kr, .slice An nn kn]) fun f v hf => Rd.ro (p := q) (by simp) hzV (hcV f v hf)) rfl (by decide) ?_
  refine xk_alloc (cs := [.int .i64 0, .int .i64 0, .int .i64 0, .int .u32 0, .slice none 0 0, .slice none 0 0]) (zeroB_of (by kernel_rfl)) (by decide) fun g3 => ?_
  refine xk_assign rfl (by decide) ?_
  refine xk_stN rfl rfl ?_; simp only [putN, Value.cells, List.set, List.take, List.drop, List.nil_append, List.append_nil, List.length_cons, List.length_nil, List.cons_append, Nat.reduceAdd]
  refine XK.nilN ?_
  refine XK.seq ?_
  refine XK.cutB 27 ((nw : Int) ≤ i ∨ (wt[i]?).getD 0 ≤ 0) ?_ ?_
  ·skip
   refine XK.region ?_
   refine xk_move rfl (by decide) ?_
   refine xk_move rfl (by decide) ?_
   refine xk_len (el := 3) (by kernel_rfl) rfl (by decide) ?_
   refine xk_geq rfl rfl (by decide) ?_
   refine xk_move rfl (by decide) ?_
   (first | refine xk_split (t := 21) rfl (fun hg => ?_) (fun hg => ?_) | refine xk_splitB (t := 21) rfl (fun hg => ?_) (fun hg => ?_))
   ·
    refine xk_guardF rfl rfl rfl (by decide) ?_
    refine xk_guardF rfl rfl rfl (by decide) ?_
    refine xk_guardF rfl rfl rfl (by decide) ?_
    refine xk_guardF rfl rfl rfl (by decide) ?_
    refine xk_guardF rfl rfl rfl (by decide) ?_
    (first | refine xk_pickT rfl rfl (by decide) ?_ | refine xk_pickF rfl rfl (by decide) ?_)
    refine XK.nilN ?_
    exact XK.meetBS
   ·
    have hiw : i < nw := by omega
    obtain ⟨y, hy⟩ : ∃ y, wt[i]? = some y := ⟨wt[i]'(by omega), List.getElem?_eq_getElem _⟩
    obtain ⟨bW, oW, rfl, hcW⟩ := hw.int (by omega)
    have hcy := hcW i y hy
    have hgy : (wt[i]?).getD 0 = y := by rw [hy]; rfl
    refine xk_guardT rfl rfl ?_; refine xk_move rfl (by decide) ?_
    refine xk_guardT rfl rfl ?_; refine xk_move rfl (by decide) ?_
    refine xk_guardT rfl rfl ?_; refine xk_at (i) (oW + i) (el := 3) (sz := 1) (by kernel_rfl) (by kernel_rfl) rfl rfl (by omega) (by omega) (by omega) (by decide) ?_
    refine xk_guardT rfl rfl ?_; refine xk_ld rfl ?_
    refine xk_guardT rfl rfl ?_; refine xk_leq rfl rfl (by decide) ?_
    (first | refine xk_pickT rfl rfl (by decide) ?_ | refine xk_pickF rfl rfl (by decide) ?_)
    refine XK.nilN ?_
    exact XK.meetBS
  refine XK.if_ rfl (fun h4 => ?_) (fun h4 => ?_)
  ·
   refine XK.exit ?_
   refine XK.norm ?_
   refine XK.region ?_
   refine xk_add rfl rfl (wrap_in (by omega)) (by decide) ?_
   refine xk_move rfl (by decide) ?_
   refine XK.nilN ?_
   have hf2 : busyAt s wt k id i = false := by
    rw [hbat]
    have h5 : (wt[i]?).getD 0 ≤ 0 := by
     rcases h4 with h4 | h4
     ·rw [List.getElem?_eq_none (by omega)]; exact Int.le_refl _
     ·exact h4
    simp [show ¬ 0 < (wt[i]?).getD 0 by omega]
   exact XK.weak [1, 2] rfl (by decide) (by simp) (XK.envS [(12, .int .i64 ((i : Int) + 1)), (11, .int .i64 s.devs.length), (10, .slice (some ⟨bV, oV, none⟩) s.devs.length k4), (5, .pointer (some ⟨g2, 0, none⟩)), (3, .pointer (some ⟨g1, 0, none⟩)), (1, .slice Aw nw cw)] (XK.round (s.devs.length - (i + 1)) (by omega) ⟨i + 1, by omega, rfl, hgo hf2, rfl, rfl, rfl⟩))
  ·
   have h5 : 0 < (wt[i]?).getD 0 := by have h' := fun h => h4 (.inr h); omega
   rw [show decide (0 < (wt[i]?).getD 0) = true from decide_eq_true h5, Bool.true_and] at hbat
   refine XK.skip ?_
   refine XK.norm ?_
   refine XK.seq ?_
   refine XK.region ?_
   refine xk_field (off := 0) (by kernel_rfl) rfl (by decide) ?_
   refine xk_ld rfl ?_
   refine XK.nilN ?_
   refine XK.block ?_
   refine XK.cutB 30 (k = 100 ∨ k = 107) ?_ ?_
   ·skip
    refine XK.seq ?_
    refine XK.region ?_
    refine xk_eql rfl rfl (by decide) ?_
    refine xk_assign rfl (by decide) ?_
    refine XK.nilN ?_
    refine XK.if_ rfl (fun h => ?_) (fun h => ?_)
    ·
     refine XK.skip ?_
     refine XK.norm ?_
     exact XK.meetBS
    ·
     refine XK.region ?_
     refine xk_eql rfl rfl (by decide) ?_
     refine xk_assign rfl (by decide) ?_
     refine XK.nilN ?_
     exact XK.meetBS
   refine XK.if_ rfl (fun h => ?_) (fun h => ?_)
   ·
    refine XK.seq ?_
    refine XK.region ?_
    refine xk_field (off := 1) (by kernel_rfl) rfl (by decide) ?_
    refine xk_ld rfl ?_
    refine xk_field (off := 1) (by kernel_rfl) rfl (by decide) ?_
    refine xk_ld rfl ?_
    refine xk_eql rfl rfl (by decide) ?_
    refine XK.nilN ?_
    refine XK.if_ rfl (fun h => ?_) (fun h => ?_)
    ·
     refine XK.seq ?_
     refine XK.region ?_
     refine xk_assign rfl (by decide) ?_
     refine XK.nilN ?_
     refine XK.ret ?_
     refine XK.norm ?_
     have ht : busyAt s wt k id i = true := by
      rw [hbat]; unfold hitB chainB; first | (simp_all; done) | (simp_all; omega)
     exact XK.ret1 rfl rfl fun w9 st => ⟨by rw [busyF_true hil ht], st.below (by simp)⟩
    ·
     refine XK.skip ?_
     refine XK.norm ?_
     refine XK.region ?_
     refine xk_add rfl rfl (wrap_in (by omega)) (by decide) ?_
     refine xk_move rfl (by decide) ?_
     refine XK.nilN ?_
     have hf2 : busyAt s wt k id i = false := by
      rw [hbat]; unfold hitB chainB; first | (simp_all; done) | (simp_all; omega)
     exact XK.weak [1, 2] rfl (by decide) (by simp) (XK.envS [(12, .int .i64 ((i : Int) + 1)), (11, .int .i64 s.devs.length), (10, .slice (some ⟨bV, oV, none⟩) s.devs.length k4), (5, .pointer (some ⟨g2, 0, none⟩)), (3, .pointer (some ⟨g1, 0, none⟩)), (1, .slice Aw nw cw)] (XK.round (s.devs.length - (i + 1)) (by omega) ⟨i + 1, by omega, rfl, hgo hf2, rfl, rfl, rfl⟩))
   ·
    refine XK.seq ?_
    refine XK.region ?_
    refine xk_eql rfl rfl (by decide) ?_
    refine xk_assign rfl (by decide) ?_
    refine XK.nilN ?_
    refine XK.if_ rfl (fun h => ?_) (fun h => ?_)
    ·
     refine XK.seq ?_
     refine XK.draw 6 (by kernel_rfl) (by kernel_rfl) ?_
     refine XA.dA 0 rfl rfl rfl (does_ldN 4 rfl) ?_
     refine XA.dA 1 rfl rfl rfl (does_field (off := 0) (by kernel_rfl) rfl) ?_
     refine XA.dA 2 rfl rfl rfl (does_ld rfl) ?_
     refine XA.dA 4 rfl rfl rfl (does_field (off := 1) (by kernel_rfl) rfl) ?_
     refine XA.dA 5 rfl rfl rfl (does_ld rfl) ?_
     refine XA.next 3 rfl (by kernel_rfl) ?_
     refine xk_call [q] (f := 89) (fi := []) (ca := []) (by kernel_rfl) rfl rfl (by decide) (by simp) (IntsOk (chainL s xc)) (fun w2 st => chain_any q s _ _ _ _ _ k1 _ k2 _ k3 _ k4 xc w2 hSP hm (st.le (by simp)) (by omega)) ?_
     rintro _ w2 q1 ⟨Ac, cc, rfl, hch⟩ hf hle _
     have hch := hch.le hf
     have hclen := chainN_len s s.clocks.length xc
     refine XA.bk ?_
     refine XA.next 6 rfl (by kernel_rfl) ?_
     refine xk_callR (f := 180) (fi := []) (ca := []) (by kernel_rfl) rfl rfl (by decide) (fun w3 st => contains_any Ac _ cc (natI (chainL s xc)) id w3 (hch.le (st.le (by simp))) (by simp [natI]) (by unfold chainL; omega)) ?_
     refine XA.bt ?_
     refine XA.done (by kernel_rfl) ?_
     refine XK.norm ?_
     refine XK.if_ rfl (fun h => ?_) (fun h => ?_)
     ·
      refine XK.seq ?_
      refine XK.region ?_
      refine xk_assign rfl (by decide) ?_
      refine XK.nilN ?_
      refine XK.ret ?_
      refine XK.norm ?_
      have ht : busyAt s wt k id i = true := by
       rw [hbat]; unfold hitB chainB; first | (simp_all; done) | (simp_all; omega)
      exact XK.ret1 rfl rfl fun w9 st => ⟨by rw [busyF_true hil ht], st.below (by simp)⟩
     ·
      refine XK.skip ?_
      refine XK.norm ?_
      refine XK.region ?_
      refine xk_add rfl rfl (wrap_in (by omega)) (by decide) ?_
      refine xk_move rfl (by decide) ?_
      refine XK.nilN ?_
      have hf2 : busyAt s wt k id i = false := by
       rw [hbat]; unfold hitB chainB; first | (simp_all; done) | (simp_all; omega)
      exact XK.weak [1, 2] rfl (by decide) (by simp) (XK.envS [(12, .int .i64 ((i : Int) + 1)), (11, .int .i64 s.devs.length), (10, .slice (some ⟨bV, oV, none⟩) s.devs.length k4), (5, .pointer (some ⟨g2, 0, none⟩)), (3, .pointer (some ⟨g1, 0, none⟩)), (1, .slice Aw nw cw)] (XK.round (s.devs.length - (i + 1)) (by omega) ⟨i + 1, by omega, rfl, hgo hf2, rfl, rfl, rfl⟩))
    ·
     refine XK.seq ?_
     refine XK.region ?_
     refine xk_eql rfl rfl (by decide) ?_
     refine xk_assign rfl (by decide) ?_
     refine XK.nilN ?_
     refine XK.if_ rfl (fun h => ?_) (fun h => ?_)
     ·
      refine XK.seq ?_
      refine XK.region ?_
      refine xk_field (off := 2) (by kernel_rfl) rfl (by decide) ?_
      refine xk_ld rfl ?_
      refine xk_field (off := 1) (by kernel_rfl) rfl (by decide) ?_
      refine xk_ld rfl ?_
      refine xk_eql rfl rfl (by decide) ?_
      refine XK.nilN ?_
      refine XK.if_ rfl (fun h => ?_) (fun h => ?_)
      ·
       refine XK.seq ?_
       refine XK.region ?_
       refine xk_assign rfl (by decide) ?_
       refine XK.nilN ?_
       refine XK.ret ?_
       refine XK.norm ?_
       have ht : busyAt s wt k id i = true := by
        rw [hbat]; unfold hitB chainB; first | (simp_all; done) | (simp_all; omega)
       exact XK.ret1 rfl rfl fun w9 st => ⟨by rw [busyF_true hil ht], st.below (by simp)⟩
      ·
       refine XK.skip ?_
       refine XK.norm ?_
       refine XK.region ?_
       refine xk_add rfl rfl (wrap_in (by omega)) (by decide) ?_
       refine xk_move rfl (by decide) ?_
       refine XK.nilN ?_
       have hf2 : busyAt s wt k id i = false := by
        rw [hbat]; unfold hitB chainB; first | (simp_all; done) | (simp_all; omega)
       exact XK.weak [1, 2] rfl (by decide) (by simp) (XK.envS [(12, .int .i64 ((i : Int) + 1)), (11, .int .i64 s.devs.length), (10, .slice (some ⟨bV, oV, none⟩) s.devs.length k4), (5, .pointer (some ⟨g2, 0, none⟩)), (3, .pointer (some ⟨g1, 0, none⟩)), (1, .slice Aw nw cw)] (XK.round (s.devs.length - (i + 1)) (by omega) ⟨i + 1, by omega, rfl, hgo hf2, rfl, rfl, rfl⟩))
     ·
      refine XK.skip ?_
      refine XK.norm ?_
      refine XK.region ?_
      refine xk_add rfl rfl (wrap_in (by omega)) (by decide) ?_
      refine xk_move rfl (by decide) ?_
      refine XK.nilN ?_
      have hf2 : busyAt s wt k id i = false := by
       rw [hbat]; unfold hitB chainB; first | (simp_all; done) | (simp_all; omega)
      exact XK.weak [1, 2] rfl (by decide) (by simp) (XK.envS [(12, .int .i64 ((i : Int) + 1)), (11, .int .i64 s.devs.length), (10, .slice (some ⟨bV, oV, none⟩) s.devs.length k4), (5, .pointer (some ⟨g2, 0, none⟩)), (3, .pointer (some ⟨g1, 0, none⟩)), (1, .slice Aw nw cw)] (XK.round (s.devs.length - (i + 1)) (by omega) ⟨i + 1, by omega, rfl, hgo hf2, rfl, rfl, rfl⟩))
 ·
  refine XK.exit ?_
  refine XK.norm ?_
  refine XK.seq ?_
  refine XK.region ?_
  refine xk_assign rfl (by decide) ?_
  refine XK.nilN ?_
  refine XK.ret ?_
  refine XK.norm ?_
  have hin : i = s.devs.length := by have h' : ¬ (i : Int) < (s.devs.length : Int) := h; omega
  subst hin
  exact XK.ret1 rfl rfl fun w9 st => ⟨by rw [busyF_false hno], st.below (by simp)⟩
theorem StR.box {q : Piece} {x y : Wsh} {A1 A2 A3 B1 B2 B3 : Option Addr} {n1 k1 n2 k2 n3 k3 m1 l1 m2 l2 m3 l3 : Nat} {w : World} {g : Nat}
  (hx : StR q x y (.agg #[.slice A1 n1 k1, .slice A2 n2 k2, .slice A3 n3 k3, .slice B1 m1 l1, .slice B2 m2 l2, .slice B3 m3 l3])) (hq : q.Le (all w)) (hg : ROn w g 0 [.slice A1 n1 k1, .slice A2 n2 k2, .slice A3 n3 k3, .slice B1 m1 l1, .slice B2 m2 l2, .slice B3 m3 l3]) : StM w g x y := by
 obtain ⟨C1, j1, C2, j2, C3, j3, D1, i1, D2, i2, D3, i3, he, s1, s2, s3, s4, s5, s6⟩ := hx
 simp only [Value.agg.injEq, Array.mk.injEq, List.cons.injEq, Value.slice.injEq] at he
 obtain ⟨⟨rfl, rfl, rfl⟩, ⟨rfl, rfl, rfl⟩, ⟨rfl, rfl, rfl⟩, ⟨rfl, rfl, rfl⟩, ⟨rfl, rfl, rfl⟩, ⟨rfl, rfl, rfl⟩, _⟩ := he
 intro i hi
 rcases (by omega : i = 0 ∨ i = 1) with rfl | rfl
 ·exact ⟨A1, k1, A2, k2, A3, k3, by simpa using hg.at_ (j := 0) rfl, by simpa using hg.at_ (j := 1) rfl, by simpa using hg.at_ (j := 2) rfl, s1.le hq, s2.le hq, s3.le hq⟩
 ·exact ⟨B1, l1, B2, l2, B3, l3, by simpa using hg.at_ (j := 3) rfl, by simpa using hg.at_ (j := 4) rfl, by simpa using hg.at_ (j := 5) rfl, s4.le hq, s5.le hq, s6.le hq⟩
theorem denied_any (q qx : Piece) (s : Soc) (A1 A2 A3 A4 : Option Addr) (n1 k1 n2 k2 n3 k3 n4 k4 : Nat) (X1 X2 X3 Y1 Y2 Y3 : Option Addr) (xn1 xk1 xn2 xk2 xn3 xk3 yn1 yk1 yn2 yk2 yn3 yk3 : Nat) (x y : Wsh) (ag : Nat) (k id : Int) (w : World) (hSP : SocP q s A1 n1 A2 n2 A3 n3 A4 n4) (hm : s.okT) (hq : q.Le (all w)) (hSt : StR qx x y (.agg #[.slice X1 xn1 xk1, .slice X2 xn2 xk2, .slice X3 xn3 xk3, .slice Y1 yn1 yk1, .slice Y2 yn2 yk2, .slice Y3 yn3 yk3])) (hqx : qx.Le (all w)) (hag : ag < 2) :
  Calls Tryz.prog 98 #[.agg #[.slice A1 n1 k1, .slice A2 n2 k2, .slice A3 n3 k3, .slice A4 n4 k4], .agg #[.slice X1 xn1 xk1, .slice X2 xn2 xk2, .slice X3 xn3 xk3, .slice Y1 yn1 yk1, .slice Y2 yn2 yk2, .slice Y3 yn3 yk3], .int .i64 (ag : Int), .agg #[.int .u8 k, .int .i64 id]] w (Rt (.bool (deniedF s x y ag k id)) w) := by
 refine XK.enter (vs := [.agg #[.slice A1 n1 k1, .slice A2 n2 k2, .slice A3 n3 k3, .slice A4 n4 k4], .agg #[.slice X1 xn1 xk1, .slice X2 xn2 xk2, .slice X3 xn3 xk3, .slice Y1 yn1 yk1, .slice Y2 yn2 yk2, .slice Y3 yn3 yk3], .int .i64 (ag : Int), .agg #[.int .u8 k, .int .i64 id]]) Tryz.func98 rfl Tryz.ntmps98 (by simp) ?_
 refine XK.seq ?_
 refine XK.piece qx (by simp) hqx ?_
 refine XK.piece q (by simp) hq ?_
 obtain ⟨rfl, rfl, rfl, rfl⟩ := hSP.len
 have hnc := hm.nc
 have hnd := hm.nd
 refine XK.region ?_
 refine xk_box rfl (by decide) fun g1 => ?_
 refine xk_box rfl (by decide) fun g2 => ?_
 refine xk_box rfl (by decide) fun g3 => ?_
 refine xk_assign rfl (by decide) ?_
 refine XK.nilN ?_
 refine XK.seq ?_
 refine XK.seq ?_
 refine XK.region ?_
 refine xk_move rfl (by decide) ?_
 refine XK.nilN ?_
 refine XK.envS [(13, .int .i64 0), (7, .pointer (some ⟨g3, 0, none⟩)), (5, .pointer (some ⟨g2, 0, none⟩)), (4, .pointer (some ⟨g1, 0, none⟩)), (2, .int .i64 (ag : Int))] ?_
 refine XK.block ?_
 refine XK.loop (fun m e R H => ∃ (i : Nat), i ≤ 2 ∧ m = 2 - i ∧ (∀ j : Nat, j < i → ¬ (j : Int) = ag → wishF (if j = 0 then x else y) k id = false) ∧ e = [(13, .int .i64 i), (7, .pointer (some ⟨g3, 0, none⟩)), (5, .pointer (some ⟨g2, 0, none⟩)), (4, .pointer (some ⟨g1, 0, none⟩)), (2, .int .i64 (ag : Int))] ∧ R = [q, qx, all w] ∧ H = [HP.blk g3 63 [.int .u8 k, .int .i64 id], HP.blk g2 71 [.slice X1 xn1 xk1, .slice X2 xn2 xk2, .slice X3 xn3 xk3, .slice Y1 yn1 yk1, .slice Y2 yn2 yk2, .slice Y3 yn3 yk3], HP.blk g1 29 [.slice A1 s.clocks.length k1, .slice A2 s.domains.length k2, .slice A3 s.resets.length k3, .slice A4 s.devs.length k4]]) 2 ⟨0, by omega, rfl, (fun j hj => absurd hj (Nat.not_lt_zero j)), rfl, rfl, rfl⟩ fun m e R H hI => ?_
 obtain ⟨i, hi, rfl, hno, rfl, rfl, rfl⟩ := hI
 refine XK.seq ?_
 refine XK.region ?_
 refine xk_lss rfl rfl (by decide) ?_
 refine XK.nilN ?_
 refine XK.seq ?_
 refine XK.if_ rfl (fun h => ?_) (fun h => ?_)
 ·
  refine XK.skip ?_
  refine XK.norm ?_
  refine XK.seq ?_
  refine XK.block ?_
  refine XK.seq ?_
  have hi2 : i < 2 := by have h' : (i : Int) < 2 := h; omega
  refine XK.region ?_
  refine xk_move rfl (by decide) ?_
  refine xk_assign rfl (by decide) ?_
  refine XK.nilN ?_
  refine XK.cutB 26 (¬ (i : Int) = ag ∧ wishF (if i = 0 then x else y) k id = true) ?_ ?_
  ·skip
   refine XK.region ?_
   refine xk_move rfl (by decide) ?_
   refine xk_move rfl (by decide) ?_
   refine xk_neq rfl rfl (by decide) ?_
   refine xk_move rfl (by decide) ?_
   (first | refine xk_split (t := 19) rfl (fun hg => ?_) (fun hg => ?_) | refine xk_splitB (t := 19) rfl (fun hg => ?_) (fun hg => ?_))
   ·
    refine xk_guardT rfl rfl ?_; refine xk_move rfl (by decide) ?_
    refine xk_guardT rfl rfl ?_; refine xk_field (off := 0) (by kernel_rfl) rfl (by decide) ?_
    refine xk_guardT rfl rfl ?_; refine xk_ld rfl ?_
    refine xk_guardT rfl rfl ?_; refine xk_field (off := 1) (by kernel_rfl) rfl (by decide) ?_
    refine xk_guardT rfl rfl ?_; refine xk_ld rfl ?_
    refine xk_guardT rfl rfl ?_; refine xk_callR (f := 95) (fi := []) (ca := []) (by kernel_rfl) rfl rfl (by decide) (fun w1 st => wishes_any g2 i (if i = 0 then x else y) k id w1 hi2 (StR.box hSt (st.le (by simp)) (st.box (i := 1) rfl) i hi2)) ?_
    (first | refine xk_pickT rfl rfl (by decide) ?_ | refine xk_pickF rfl rfl (by decide) ?_)
    refine XK.nilN ?_
    exact XK.meetBS
   ·
    refine xk_guardF rfl rfl rfl (by decide) ?_
    refine xk_guardF rfl rfl rfl (by decide) ?_
    refine xk_guardF rfl rfl rfl (by decide) ?_
    refine xk_guardF rfl rfl rfl (by decide) ?_
    refine xk_guardF rfl rfl rfl (by decide) ?_
    refine xk_guardF rfl rfl rfl (by decide) ?_
    (first | refine xk_pickT rfl rfl (by decide) ?_ | refine xk_pickF rfl rfl (by decide) ?_)
    refine XK.nilN ?_
    exact XK.meetBS
  refine XK.if_ rfl (fun h4 => ?_) (fun h4 => ?_)
  ·
   refine XK.seq ?_
   refine XK.region ?_
   refine xk_assign rfl (by decide) ?_
   refine XK.nilN ?_
   refine XK.ret ?_
   refine XK.norm ?_
   have hoth : wishF (if ag = 0 then y else x) k id = true := by
    have h5 := h4.2
    rcases (by omega : ag = 0 ∨ ag = 1) with rfl | rfl <;> rcases (by omega : i = 0 ∨ i = 1) with rfl | rfl <;> simp_all
   exact XK.ret1 rfl rfl fun w9 st => ⟨by rw [deniedF, hoth]; rfl, st.below (by simp)⟩
  ·
   refine XK.skip ?_
   refine XK.norm ?_
   refine XK.region ?_
   refine xk_add rfl rfl (wrap_in (by omega)) (by decide) ?_
   refine xk_move rfl (by decide) ?_
   refine XK.nilN ?_
   have hgo : ∀ j : Nat, j < i + 1 → ¬ (j : Int) = ag → wishF (if j = 0 then x else y) k id = false := fun j hj hja => by
    rcases Nat.lt_or_ge j i with h1 | h1
    ·exact hno j h1 hja
    ·have hji : j = i := by omega
     subst hji
     cases hb : wishF (if j = 0 then x else y) k id with
     | false => rfl
     | true => exact absurd ⟨hja, hb⟩ h4
   exact XK.envS [(13, .int .i64 ((i : Int) + 1)), (7, .pointer (some ⟨g3, 0, none⟩)), (5, .pointer (some ⟨g2, 0, none⟩)), (4, .pointer (some ⟨g1, 0, none⟩)), (2, .int .i64 (ag : Int))] (XK.round (2 - (i + 1)) (by omega) ⟨i + 1, by omega, rfl, hgo, rfl, rfl, rfl⟩)
 ·
  refine XK.exit ?_
  refine XK.norm ?_
  refine XK.seq ?_
  refine XK.seq ?_
  have hoth : wishF (if ag = 0 then y else x) k id = false := by
   have hi2 : i = 2 := by have h' : ¬ (i : Int) < 2 := h; omega
   subst hi2
   rcases (by omega : ag = 0 ∨ ag = 1) with rfl | rfl
   ·exact hno 1 (by omega) (by decide)
   ·exact hno 0 (by omega) (by decide)
  have hden : deniedF s x y ag k id = hangF s x y k id := by rw [deniedF, hoth, Bool.false_or]
  clear hno hoth
  refine XK.region ?_
  refine xk_field (off := 0) (by kernel_rfl) rfl (by decide) ?_
  refine xk_ld rfl ?_
  refine XK.nilN ?_
  refine XK.block ?_
  refine XK.cutB 30 (k = 100 ∨ k = 107) ?_ ?_
  ·skip
   refine XK.seq ?_
   refine XK.region ?_
   refine xk_eql rfl rfl (by decide) ?_
   refine xk_assign rfl (by decide) ?_
   refine XK.nilN ?_
   refine XK.if_ rfl (fun h => ?_) (fun h => ?_)
   ·
    refine XK.skip ?_
    refine XK.norm ?_
    exact XK.meetBS
   ·
    refine XK.region ?_
    refine xk_eql rfl rfl (by decide) ?_
    refine xk_assign rfl (by decide) ?_
    refine XK.nilN ?_
    exact XK.meetBS
  refine XK.if_ rfl (fun h => ?_) (fun h => ?_)
  ·
   refine XK.seq ?_
   have hk8 : k = 100 ∨ k = 107 := by first | assumption | simp_all
   have hhn : hangN s k = s.domains.length := by rw [hangN, if_pos hk8]
   refine XK.region ?_
   refine xk_field (off := 1) (by kernel_rfl) rfl (by decide) ?_
   refine xk_ld rfl ?_
   refine xk_len (el := 75) (by kernel_rfl) rfl (by decide) ?_
   refine xk_move rfl (by decide) ?_
   refine XK.nilN ?_
   refine XK.envS [(36, .int .i64 0), (35, .int .i64 s.domains.length), (34, .slice A2 s.domains.length k2), (7, .pointer (some ⟨g3, 0, none⟩)), (5, .pointer (some ⟨g2, 0, none⟩)), (4, .pointer (some ⟨g1, 0, none⟩)), (2, .int .i64 (ag : Int))] ?_
   refine XK.block ?_
   refine XK.loop (fun m e R H => ∃ (i : Nat), i ≤ s.domains.length ∧ m = s.domains.length - i ∧ (∀ j, j < i → hangAt s x y k id j = false) ∧ e = [(36, .int .i64 i), (35, .int .i64 s.domains.length), (34, .slice A2 s.domains.length k2), (7, .pointer (some ⟨g3, 0, none⟩)), (5, .pointer (some ⟨g2, 0, none⟩)), (4, .pointer (some ⟨g1, 0, none⟩)), (2, .int .i64 (ag : Int))] ∧ R = [q, qx, all w] ∧ H = [HP.blk g3 63 [.int .u8 k, .int .i64 id], HP.blk g2 71 [.slice X1 xn1 xk1, .slice X2 xn2 xk2, .slice X3 xn3 xk3, .slice Y1 yn1 yk1, .slice Y2 yn2 yk2, .slice Y3 yn3 yk3], HP.blk g1 29 [.slice A1 s.clocks.length k1, .slice A2 s.domains.length k2, .slice A3 s.resets.length k3, .slice A4 s.devs.length k4]]) s.domains.length ⟨0, by omega, rfl, (fun j hj => absurd hj (Nat.not_lt_zero j)), rfl, rfl, rfl⟩ fun m e R H hI => ?_
   obtain ⟨i, hi, rfl, hno, rfl, rfl, rfl⟩ := hI
   refine XK.seq ?_
   refine XK.region ?_
   refine xk_lss rfl rfl (by decide) ?_
   refine XK.nilN ?_
   refine XK.seq ?_
   refine XK.if_ rfl (fun h => ?_) (fun h => ?_)
   ·
    refine XK.skip ?_
    refine XK.norm ?_
    refine XK.seq ?_
    refine XK.block ?_
    refine XK.seq ?_
    have hil : i < s.domains.length := by have h' : (i : Int) < (s.domains.length : Int) := h; omega
    obtain ⟨d, hd⟩ : ∃ d, s.domains[i]? = some d := ⟨_, List.getElem?_eq_getElem hil⟩
    obtain ⟨bD, oD, rD, rfl, hzD, _, rfl, hcD⟩ := hSP.dom.rowP hd
    have hgo : hangAt s x y k id i = false → ∀ j, j < i + 1 → hangAt s x y k id j = false := fun h j hj => by
     rcases Nat.lt_or_ge j i with h1 | h1
     ·exact hno j h1
     ·have hji : j = i := by omega
      subst hji; exact h
    have hat : hangAt s x y k id i = (decide (d.above = id) && wishedF x y k i) := by rw [hangAt, if_pos hk8, hd]; rfl
    refine XK.region ?_
    refine xk_move rfl (by decide) ?_
    refine xk_at (i) (oD + i * 3) (el := 75) (sz := 3) (by kernel_rfl) (by kernel_rfl) rfl rfl (by omega) (by omega) (by omega) (by decide) ?_
    refine xk_loadN 3 (by kernel_rfl) rfl (RdN.of (vs := [.int .i64 d.above, .int .i64 d.delay, .bool d.ret]) fun f v hf => Rd.ro (p := q) (by simp) hzD (hcD f v hf)) rfl (by decide) ?_
    refine xk_alloc (cs := [.int .i64 0, .int .i64 0, .bool false]) (zeroB_of (by kernel_rfl)) (by decide) fun g4 => ?_
    refine xk_assign rfl (by decide) ?_
    refine xk_stN rfl rfl ?_; simp only [putN, Value.cells, List.set, List.take, List.drop, List.nil_append, List.append_nil, List.length_cons, List.length_nil, List.cons_append, Nat.reduceAdd]
    refine XK.nilN ?_
    refine XK.cutB 51 (d.above = id ∧ wishedF x y k i = true) ?_ ?_
    ·skip
     refine XK.region ?_
     refine xk_field (off := 0) (by kernel_rfl) rfl (by decide) ?_
     refine xk_ld rfl ?_
     refine xk_field (off := 1) (by kernel_rfl) rfl (by decide) ?_
     refine xk_ld rfl ?_
     refine xk_eql rfl rfl (by decide) ?_
     refine xk_move rfl (by decide) ?_
     (first | refine xk_split (t := 46) rfl (fun hg => ?_) (fun hg => ?_) | refine xk_splitB (t := 46) rfl (fun hg => ?_) (fun hg => ?_))
     ·
      refine xk_guardT rfl rfl ?_; refine xk_field (off := 0) (by kernel_rfl) rfl (by decide) ?_
      refine xk_guardT rfl rfl ?_; refine xk_ld rfl ?_
      refine xk_guardT rfl rfl ?_; refine xk_move rfl (by decide) ?_
      refine xk_guardT rfl rfl ?_; refine xk_callR (f := 97) (fi := []) (ca := []) (by kernel_rfl) rfl rfl (by decide) (fun w1 st => wished_any g2 x y k i w1 (StR.box hSt (st.le (by simp)) (st.box (i := 2) rfl))) ?_
      (first | refine xk_pickT rfl rfl (by decide) ?_ | refine xk_pickF rfl rfl (by decide) ?_)
      refine XK.nilN ?_
      exact XK.meetBS
     ·
      refine xk_guardF rfl rfl rfl (by decide) ?_
      refine xk_guardF rfl rfl rfl (by decide) ?_
      refine xk_guardF rfl rfl rfl (by decide) ?_
      refine xk_guardF rfl rfl rfl (by decide) ?_
      (first | refine xk_pickT rfl rfl (by decide) ?_ | refine xk_pickF rfl rfl (by decide) ?_)
      refine XK.nilN ?_
      exact XK.meetBS
    refine XK.if_ rfl (fun h4 => ?_) (fun h4 => ?_)
    ·
     refine XK.seq ?_
     refine XK.region ?_
     refine xk_assign rfl (by decide) ?_
     refine XK.nilN ?_
     refine XK.ret ?_
     refine XK.norm ?_
     have ht : hangAt s x y k id i = true := by rw [hat]; simp [h4.1, h4.2]
     exact XK.ret1 rfl rfl fun w9 st => ⟨by rw [hden, hangF_true (by rw [hhn]; exact hil) ht], st.below (by simp)⟩
    ·
     refine XK.skip ?_
     refine XK.norm ?_
     refine XK.region ?_
     refine xk_add rfl rfl (wrap_in (by omega)) (by decide) ?_
     refine xk_move rfl (by decide) ?_
     refine XK.nilN ?_
     have hf2 : hangAt s x y k id i = false := by
      rw [hat]
      by_cases h5 : d.above = id
      ·have h6 : wishedF x y k i = false := by cases hb : wishedF x y k i with
        | false => rfl
        | true => exact absurd ⟨h5, hb⟩ h4
       rw [h6, Bool.and_false]
      ·simp [h5]
     exact XK.weak [1, 2, 3] rfl (by decide) (by simp) (XK.envS [(36, .int .i64 ((i : Int) + 1)), (35, .int .i64 s.domains.length), (34, .slice (some ⟨bD, oD, none⟩) s.domains.length k2), (7, .pointer (some ⟨g3, 0, none⟩)), (5, .pointer (some ⟨g2, 0, none⟩)), (4, .pointer (some ⟨g1, 0, none⟩)), (2, .int .i64 (ag : Int))] (XK.round (s.domains.length - (i + 1)) (by omega) ⟨i + 1, by omega, rfl, hgo hf2, rfl, rfl, rfl⟩))
   ·
    refine XK.exit ?_
    refine XK.norm ?_
    refine XK.seq ?_
    refine XK.region ?_
    refine xk_assign rfl (by decide) ?_
    refine XK.nilN ?_
    refine XK.ret ?_
    refine XK.norm ?_
    have hin : i = s.domains.length := by have h' : ¬ (i : Int) < (s.domains.length : Int) := h; omega
    subst hin
    exact XK.ret1 rfl rfl fun w9 st => ⟨by rw [hden, hangF_false (by rw [hhn]; exact hno)], st.below (by simp)⟩
  ·
   refine XK.seq ?_
   refine XK.region ?_
   refine xk_eql rfl rfl (by decide) ?_
   refine xk_assign rfl (by decide) ?_
   refine XK.nilN ?_
   refine XK.if_ rfl (fun hk16 => ?_) (fun hk16 => ?_)
   ·
    refine XK.seq ?_
    have hk8 : ¬ (k = 100 ∨ k = 107) := by first | assumption | simp_all
    have hhn : hangN s k = s.clocks.length := by rw [hangN, if_neg hk8, if_pos hk16]
    refine XK.region ?_
    refine xk_field (off := 0) (by kernel_rfl) rfl (by decide) ?_
    refine xk_ld rfl ?_
    refine xk_len (el := 118) (by kernel_rfl) rfl (by decide) ?_
    refine xk_move rfl (by decide) ?_
    refine XK.nilN ?_
    refine XK.envS [(58, .int .i64 0), (57, .int .i64 s.clocks.length), (7, .pointer (some ⟨g3, 0, none⟩)), (5, .pointer (some ⟨g2, 0, none⟩)), (4, .pointer (some ⟨g1, 0, none⟩)), (2, .int .i64 (ag : Int))] ?_
    refine XK.block ?_
    refine XK.loop (fun m e R H => ∃ (i : Nat), i ≤ s.clocks.length ∧ m = s.clocks.length - i ∧ (∀ j, j < i → hangAt s x y k id j = false) ∧ e = [(58, .int .i64 i), (57, .int .i64 s.clocks.length), (7, .pointer (some ⟨g3, 0, none⟩)), (5, .pointer (some ⟨g2, 0, none⟩)), (4, .pointer (some ⟨g1, 0, none⟩)), (2, .int .i64 (ag : Int))] ∧ R = [q, qx, all w] ∧ H = [HP.blk g3 63 [.int .u8 k, .int .i64 id], HP.blk g2 71 [.slice X1 xn1 xk1, .slice X2 xn2 xk2, .slice X3 xn3 xk3, .slice Y1 yn1 yk1, .slice Y2 yn2 yk2, .slice Y3 yn3 yk3], HP.blk g1 29 [.slice A1 s.clocks.length k1, .slice A2 s.domains.length k2, .slice A3 s.resets.length k3, .slice A4 s.devs.length k4]]) s.clocks.length ⟨0, by omega, rfl, (fun j hj => absurd hj (Nat.not_lt_zero j)), rfl, rfl, rfl⟩ fun m e R H hI => ?_
    obtain ⟨i, hi, rfl, hno, rfl, rfl, rfl⟩ := hI
    refine XK.seq ?_
    refine XK.region ?_
    refine xk_lss rfl rfl (by decide) ?_
    refine XK.nilN ?_
    refine XK.seq ?_
    refine XK.if_ rfl (fun h => ?_) (fun h => ?_)
    ·
     refine XK.skip ?_
     refine XK.norm ?_
     refine XK.seq ?_
     refine XK.block ?_
     refine XK.seq ?_
     have hil : i < s.clocks.length := by have h' : (i : Int) < (s.clocks.length : Int) := h; omega
     have hgo : hangAt s x y k id i = false → ∀ j, j < i + 1 → hangAt s x y k id j = false := fun h j hj => by
      rcases Nat.lt_or_ge j i with h1 | h1
      ·exact hno j h1
      ·have hji : j = i := by omega
       subst hji; exact h
     have hat : hangAt s x y k id i = (decide ((i : Int) ≠ id) && (wishedF x y k i && decide (id ∈ natI (chainL s i)))) := by rw [hangAt, if_neg hk8, chainB, Int.toNat_natCast]
     refine XK.region ?_
     refine xk_move rfl (by decide) ?_
     refine xk_assign rfl (by decide) ?_
     refine XK.nilN ?_
     refine XK.seq ?_
     refine XK.draw 16 (by kernel_rfl) (by kernel_rfl) ?_
     refine XA.dA 0 rfl rfl rfl (does_move rfl) ?_
     refine XA.dA 1 rfl rfl rfl (does_field (off := 1) (by kernel_rfl) rfl) ?_
     refine XA.dA 2 rfl rfl rfl (does_ld rfl) ?_
     refine XA.dA 3 rfl rfl rfl (does_neq rfl rfl) ?_
     refine XA.dA 4 rfl rfl rfl (does_move rfl) ?_
     (first | refine XA.split (t := 65) rfl (fun hg => ?_) (fun hg => ?_) | refine XA.splitB (t := 65) rfl (fun hg => ?_) (fun hg => ?_))
     ·
      refine XA.dT 5 rfl rfl rfl (does_field (off := 0) (by kernel_rfl) rfl) ?_
      refine XA.dT 6 rfl rfl rfl (does_ld rfl) ?_
      refine XA.dT 7 rfl rfl rfl (does_move rfl) ?_
      refine XA.next 8 rfl (by kernel_rfl) ?_
      refine xk_guardT rfl rfl ?_; refine xk_callR (f := 97) (fi := []) (ca := []) (by kernel_rfl) rfl rfl (by decide) (fun w1 st => wished_any g2 x y k i w1 (StR.box hSt (st.le (by simp)) (st.box (i := 1) rfl))) ?_
      refine XA.bk ?_
      refine XA.dA 9 rfl rfl rfl (by first | exact does_pickT rfl rfl | exact does_pickF rfl rfl) ?_
      refine XA.dA 10 rfl rfl rfl (does_move rfl) ?_
      (first | refine XA.split (t := 71) rfl (fun hg => ?_) (fun hg => ?_) | refine XA.splitB (t := 71) rfl (fun hg => ?_) (fun hg => ?_))
      ·
       refine XA.dT 11 rfl rfl rfl (does_ldN 4 rfl) ?_
       refine XA.dT 12 rfl rfl rfl (does_move rfl) ?_
       refine XA.dT 14 rfl rfl rfl (does_field (off := 1) (by kernel_rfl) rfl) ?_
       refine XA.dT 15 rfl rfl rfl (does_ld rfl) ?_
       refine XA.next 13 rfl (by kernel_rfl) ?_
       refine xk_guardT rfl rfl ?_; refine xk_call [q] (f := 89) (fi := []) (ca := []) (by kernel_rfl) rfl rfl (by decide) (by simp) (IntsOk (chainL s i)) (fun w2 st => chain_any q s _ _ _ _ _ k1 _ k2 _ k3 _ k4 i w2 hSP hm (st.le (by simp)) (by omega)) ?_
       rintro _ w2 q1 ⟨Ac, cc, rfl, hch⟩ hf hle _
       have hch := hch.le hf
       have hclen := chainN_len s s.clocks.length i
       refine XA.bk ?_
       refine XA.next 16 rfl (by kernel_rfl) ?_
       refine xk_guardT rfl rfl ?_; refine xk_callR (f := 180) (fi := []) (ca := []) (by kernel_rfl) rfl rfl (by decide) (fun w3 st => contains_any Ac _ cc (natI (chainL s i)) id w3 (hch.le (st.le (by simp))) (by simp [natI]) (by unfold chainL; omega)) ?_
       refine XA.bt ?_
       refine XA.next 17 rfl (by kernel_rfl) ?_
       (first | refine xk_pickT rfl rfl (by decide) ?_ | refine xk_pickF rfl rfl (by decide) ?_)
       refine XA.bt ?_
       refine XA.done (by kernel_rfl) ?_
       refine XK.norm ?_
       refine XK.if_ rfl (fun h => ?_) (fun h => ?_)
       ·
        refine XK.seq ?_
        refine XK.region ?_
        refine xk_assign rfl (by decide) ?_
        refine XK.nilN ?_
        refine XK.ret ?_
        refine XK.norm ?_
        have ht : hangAt s x y k id i = true := by
         rw [hat]; first | (simp_all; done) | (simp_all; omega)
        exact XK.ret1 rfl rfl fun w9 st => ⟨by rw [hden, hangF_true (by rw [hhn]; exact hil) ht], st.below (by simp)⟩
       ·
        refine XK.skip ?_
        refine XK.norm ?_
        refine XK.region ?_
        refine xk_add rfl rfl (wrap_in (by omega)) (by decide) ?_
        refine xk_move rfl (by decide) ?_
        refine XK.nilN ?_
        have hf2 : hangAt s x y k id i = false := by
         rw [hat]; first | (simp_all; done) | (simp_all; omega)
        refine XK.weakR (R' := [q, qx, all w]) (by simp) ?_
        exact XK.envS [(58, .int .i64 ((i : Int) + 1)), (57, .int .i64 s.clocks.length), (7, .pointer (some ⟨g3, 0, none⟩)), (5, .pointer (some ⟨g2, 0, none⟩)), (4, .pointer (some ⟨g1, 0, none⟩)), (2, .int .i64 (ag : Int))] (XK.round (s.clocks.length - (i + 1)) (by omega) ⟨i + 1, by omega, rfl, hgo hf2, rfl, rfl, rfl⟩)
      ·
       refine XA.dF 11 rfl rfl rfl rfl ?_
       refine XA.dF 12 rfl rfl rfl rfl ?_
       refine XA.dF 13 rfl rfl rfl rfl ?_
       refine XA.dF 14 rfl rfl rfl rfl ?_
       refine XA.dF 15 rfl rfl rfl rfl ?_
       refine XA.next 16 rfl (by kernel_rfl) ?_
       refine xk_guardF rfl rfl rfl (by decide) ?_
       refine XA.bt ?_
       refine XA.next 17 rfl (by kernel_rfl) ?_
       (first | refine xk_pickT rfl rfl (by decide) ?_ | refine xk_pickF rfl rfl (by decide) ?_)
       refine XA.bt ?_
       refine XA.done (by kernel_rfl) ?_
       refine XK.norm ?_
       refine XK.cond rfl (fun h => by cases h) (fun _ => ?_)
       refine XK.skip ?_
       refine XK.norm ?_
       refine XK.region ?_
       refine xk_add rfl rfl (wrap_in (by omega)) (by decide) ?_
       refine xk_move rfl (by decide) ?_
       refine XK.nilN ?_
       have hf2 : hangAt s x y k id i = false := by
        rw [hat]; first | (simp_all; done) | (simp_all; omega)
       refine XK.weakR (R' := [q, qx, all w]) (by simp) ?_
       exact XK.envS [(58, .int .i64 ((i : Int) + 1)), (57, .int .i64 s.clocks.length), (7, .pointer (some ⟨g3, 0, none⟩)), (5, .pointer (some ⟨g2, 0, none⟩)), (4, .pointer (some ⟨g1, 0, none⟩)), (2, .int .i64 (ag : Int))] (XK.round (s.clocks.length - (i + 1)) (by omega) ⟨i + 1, by omega, rfl, hgo hf2, rfl, rfl, rfl⟩)
     ·
      refine XA.dF 5 rfl rfl rfl rfl ?_
      refine XA.dF 6 rfl rfl rfl rfl ?_
      refine XA.dF 7 rfl rfl rfl rfl ?_
      refine XA.dF 8 rfl rfl rfl rfl ?_
      refine XA.dA 9 rfl rfl rfl (by first | exact does_pickT rfl rfl | exact does_pickF rfl rfl) ?_
      refine XA.dA 10 rfl rfl rfl (does_move rfl) ?_
      refine XA.dF 11 rfl rfl rfl rfl ?_
      refine XA.dF 12 rfl rfl rfl rfl ?_
      refine XA.dF 13 rfl rfl rfl rfl ?_
      refine XA.dF 14 rfl rfl rfl rfl ?_
      refine XA.dF 15 rfl rfl rfl rfl ?_
      refine XA.next 16 rfl (by kernel_rfl) ?_
      refine xk_guardF rfl rfl rfl (by decide) ?_
      refine XA.bt ?_
      refine XA.next 17 rfl (by kernel_rfl) ?_
      (first | refine xk_pickT rfl rfl (by decide) ?_ | refine xk_pickF rfl rfl (by decide) ?_)
      refine XA.bt ?_
      refine XA.done (by kernel_rfl) ?_
      refine XK.norm ?_
      refine XK.cond rfl (fun h => by cases h) (fun _ => ?_)
      refine XK.skip ?_
      refine XK.norm ?_
      refine XK.region ?_
      refine xk_add rfl rfl (wrap_in (by omega)) (by decide) ?_
      refine xk_move rfl (by decide) ?_
      refine XK.nilN ?_
      have hf2 : hangAt s x y k id i = false := by
       rw [hat]; first | (simp_all; done) | (simp_all; omega)
      refine XK.weakR (R' := [q, qx, all w]) (by simp) ?_
      exact XK.envS [(58, .int .i64 ((i : Int) + 1)), (57, .int .i64 s.clocks.length), (7, .pointer (some ⟨g3, 0, none⟩)), (5, .pointer (some ⟨g2, 0, none⟩)), (4, .pointer (some ⟨g1, 0, none⟩)), (2, .int .i64 (ag : Int))] (XK.round (s.clocks.length - (i + 1)) (by omega) ⟨i + 1, by omega, rfl, hgo hf2, rfl, rfl, rfl⟩)
    ·
     refine XK.exit ?_
     refine XK.norm ?_
     refine XK.seq ?_
     refine XK.region ?_
     refine xk_assign rfl (by decide) ?_
     refine XK.nilN ?_
     refine XK.ret ?_
     refine XK.norm ?_
     have hin : i = s.clocks.length := by have h' : ¬ (i : Int) < (s.clocks.length : Int) := h; omega
     subst hin
     exact XK.ret1 rfl rfl fun w9 st => ⟨by rw [hden, hangF_false (by rw [hhn]; exact hno)], st.below (by simp)⟩
   ·
    refine XK.skip ?_
    refine XK.norm ?_
    refine XK.seq ?_
    refine XK.region ?_
    refine xk_assign rfl (by decide) ?_
    refine XK.nilN ?_
    refine XK.ret ?_
    refine XK.norm ?_
    have hk8 : ¬ (k = 100 ∨ k = 107) := by first | assumption | simp_all
    have hhn : hangN s k = 0 := by rw [hangN, if_neg hk8, if_neg hk16]
    exact XK.ret1 rfl rfl fun w9 st => ⟨by rw [hden, hangF_false (by rw [hhn]; exact fun j hj => absurd hj (Nat.not_lt_zero j))], st.below (by simp)⟩
end
section
theorem decide_any (q qx : Piece) (s : Soc) (A1 A2 A3 A4 : Option Addr) (n1 k1 n2 k2 n3 k3 n4 k4 : Nat) (X1 X2 X3 Y1 Y2 Y3 : Option Addr) (xn1 xk1 xn2 xk2 xn3 xk3 yn1 yk1 yn2 yk2 yn3 yk3 : Nat) (x y : Wsh) (Aw : Option Addr) (nw cw : Nat) (wt : List Int) (ag : Nat) (Al : Option Addr) (nl cl : Nat) (l : List Int) (w : World) (hSP : SocP q s A1 n1 A2 n2 A3 n3 A4 n4) (hm : s.okT) (hq : q.Le (all w)) (hSt : StR qx x y (.agg #[.slice X1 xn1 xk1, .slice X2 xn2 xk2, .slice X3 xn3 xk3, .slice Y1 yn1 yk1, .slice Y2 yn2 yk2, .slice Y3 yn3 yk3])) (hqx : qx.Le (all w)) (hw : SlS (all w) 1 Aw nw (intCells wt)) (hnw : nw = wt.length) (hag : ag < 2) (hl : SlS (all w) 1 Al nl (u32Cells l)) (hnl : nl = l.length) (hnl2 : nl ≤ 1000000) (hu : U32s l) :
  Calls Tryz.prog 32 #[.agg #[.slice A1 n1 k1, .slice A2 n2 k2, .slice A3 n3 k3, .slice A4 n4 k4], .agg #[.slice X1 xn1 xk1, .slice X2 xn2 xk2, .slice X3 xn3 xk3, .slice Y1 yn1 yk1, .slice Y2 yn2 yk2, .slice Y3 yn3 yk3], .slice Aw nw cw, .int .i64 (ag : Int), .slice Al nl cl] w (Rt (actV (decF s x y wt ag l)) w) := by
 generalize hrd : readF s l = rd
 obtain ⟨st, k, id⟩ := rd
 refine XK.enter (vs := [.agg #[.slice A1 n1 k1, .slice A2 n2 k2, .slice A3 n3 k3, .slice A4 n4 k4], .agg #[.slice X1 xn1 xk1, .slice X2 xn2 xk2, .slice X3 xn3 xk3, .slice Y1 yn1 yk1, .slice Y2 yn2 yk2, .slice Y3 yn3 yk3], .slice Aw nw cw, .int .i64 (ag : Int), .slice Al nl cl]) Tryz.func32 rfl Tryz.ntmps32 (by simp) ?_
 refine XK.seq ?_
 refine XK.piece qx (by simp) hqx ?_
 refine XK.piece q (by simp) hq ?_
 refine XK.region ?_
 refine xk_box rfl (by decide) fun g1 => ?_
 refine xk_box rfl (by decide) fun g2 => ?_
 refine xk_assign rfl (by decide) ?_
 refine xk_alloc (cs := [.int .u8 0, .int .i64 0]) (zeroB_of (by kernel_rfl)) (by decide) fun g3 => ?_
 refine XK.nilN ?_
 refine XK.seq ?_
 refine XK.cutB 25 (False) ?_ ?_
 ·skip
  refine XK.region ?_
  refine xk_move rfl (by decide) ?_
  refine xk_lss rfl rfl (by decide) ?_
  refine xk_move rfl (by decide) ?_
  (first | refine xk_split (t := 17) rfl (fun hg => ?_) (fun hg => ?_) | refine xk_splitB (t := 17) rfl (fun hg => ?_) (fun hg => ?_))
  ·
   refine xk_guardF rfl rfl rfl (by decide) ?_
   refine xk_guardF rfl rfl rfl (by decide) ?_
   (first | refine xk_pickT rfl rfl (by decide) ?_ | refine xk_pickF rfl rfl (by decide) ?_)
   refine xk_move rfl (by decide) ?_
   refine xk_guardF rfl rfl rfl (by decide) ?_
   refine xk_guardF rfl rfl rfl (by decide) ?_
   refine xk_guardF rfl rfl rfl (by decide) ?_
   (first | refine xk_pickT rfl rfl (by decide) ?_ | refine xk_pickF rfl rfl (by decide) ?_)
   refine XK.nilN ?_
   exact XK.meetBS
  ·
   refine xk_guardT rfl rfl ?_; refine xk_move rfl (by decide) ?_
   refine xk_guardT rfl rfl ?_; refine xk_geq rfl rfl (by decide) ?_
   (first | refine xk_pickT rfl rfl (by decide) ?_ | refine xk_pickF rfl rfl (by decide) ?_)
   refine xk_move rfl (by decide) ?_
   (first | refine xk_split (t := 21) rfl (fun hg => ?_) (fun hg => ?_) | refine xk_splitB (t := 21) rfl (fun hg => ?_) (fun hg => ?_))
   ·
    refine xk_guardF rfl rfl rfl (by decide) ?_
    refine xk_guardF rfl rfl rfl (by decide) ?_
    refine xk_guardF rfl rfl rfl (by decide) ?_
    (first | refine xk_pickT rfl rfl (by decide) ?_ | refine xk_pickF rfl rfl (by decide) ?_)
    refine XK.nilN ?_
    exact XK.meetBS
   ·
    refine xk_guardT rfl rfl ?_; refine xk_ldN 4 rfl ?_
    refine xk_guardT rfl rfl ?_; refine xk_callR (f := 59) (fi := []) (ca := []) (by kernel_rfl) rfl rfl (by decide) (v0 := .int .i64 0) (fun w1 st => (checkS_any s A1 A2 A3 A4 n1 k1 n2 k2 n3 k3 n4 k4 w1 (hSP.W (st.le (by simp)) hm.small)).mono fun _ _ h => Rt.conv h (by rw [hm.chk])) ?_
    refine xk_guardT rfl rfl ?_; refine xk_neq rfl rfl (by decide) ?_
    (first | refine xk_pickT rfl rfl (by decide) ?_ | refine xk_pickF rfl rfl (by decide) ?_)
    refine XK.nilN ?_
    exact XK.meetBS
 refine XK.cond rfl (fun h => by simp at h) (fun h => ?_)
 ·
  refine XK.skip ?_
  refine XK.norm ?_
  refine XK.seq ?_
  refine XK.region ?_
  refine xk_ldN 4 rfl ?_
  refine xk_move rfl (by decide) ?_
  refine xk_callR (f := 94) (fi := []) (ca := []) (by kernel_rfl) rfl rfl (by decide) (v0 := .tuple #[.int .i32 st, .agg #[.int .u8 k, .int .i64 id]]) (fun w1 st => (read_any s A1 A2 A3 A4 n1 k1 n2 k2 n3 k3 n4 k4 Al nl cl l w1 (hSP.W (st.le (by simp)) hm.small) (hl.le (st.le (by simp))) hnl hnl2 hu).mono fun _ _ h => Rt.conv h (by rw [hrd]; rfl)) ?_
  refine xk_move rfl (by decide) ?_
  refine xk_extract rfl rfl (by decide) ?_
  refine xk_extract rfl rfl (by decide) ?_
  refine xk_alloc (cs := [.int .u8 0, .int .i64 0]) (zeroB_of (by kernel_rfl)) (by decide) fun g4 => ?_
  refine xk_assign rfl (by decide) ?_
  refine xk_stN rfl rfl ?_; simp only [putN, Value.cells, List.set, List.take, List.drop, List.nil_append, List.append_nil, List.length_cons, List.length_nil, List.cons_append, Nat.reduceAdd]
  refine XK.nilN ?_
  refine XK.seq ?_
  refine XK.cutB 51 (st ≠ 0 ∨ k = 0 ∨ wishF (if ag = 0 then x else y) k id = decide (onB k)) ?_ ?_
  ·skip
   refine XK.draw 16 (by kernel_rfl) (by kernel_rfl) ?_
   refine XA.dA 0 rfl rfl rfl (does_move rfl) ?_
   refine XA.dA 1 rfl rfl rfl (does_neq rfl rfl) ?_
   refine XA.dA 2 rfl rfl rfl (does_move rfl) ?_
   (first | refine XA.split (t := 35) rfl (fun hg => ?_) (fun hg => ?_) | refine XA.splitB (t := 35) rfl (fun hg => ?_) (fun hg => ?_))
   ·
    refine XA.dF 3 rfl rfl rfl rfl ?_
    refine XA.dF 4 rfl rfl rfl rfl ?_
    refine XA.dF 5 rfl rfl rfl rfl ?_
    refine XA.dA 6 rfl rfl rfl (by first | exact does_pickT rfl rfl | exact does_pickF rfl rfl) ?_
    refine XA.dA 7 rfl rfl rfl (does_move rfl) ?_
    refine XA.dF 8 rfl rfl rfl rfl ?_
    refine XA.dF 9 rfl rfl rfl rfl ?_
    refine XA.dF 10 rfl rfl rfl rfl ?_
    refine XA.dF 11 rfl rfl rfl rfl ?_
    refine XA.dF 12 rfl rfl rfl rfl ?_
    refine XA.dF 13 rfl rfl rfl rfl ?_
    refine XA.dF 14 rfl rfl rfl rfl ?_
    refine XA.dF 15 rfl rfl rfl rfl ?_
    refine XA.next 16 rfl (by kernel_rfl) ?_
    refine xk_guardF rfl rfl rfl (by decide) ?_
    refine XA.bt ?_
    refine XA.next 17 rfl (by kernel_rfl) ?_
    refine xk_guardF rfl rfl rfl (by decide) ?_
    refine XA.bt ?_
    refine XA.next 18 rfl (by kernel_rfl) ?_
    (first | refine xk_pickT rfl rfl (by decide) ?_ | refine xk_pickF rfl rfl (by decide) ?_)
    refine XA.bt ?_
    refine XA.done (by kernel_rfl) ?_
    refine XK.norm ?_
    exact XK.meetBS
   ·
    refine XA.dT 3 rfl rfl rfl (does_field (off := 0) (by kernel_rfl) rfl) ?_
    refine XA.dT 4 rfl rfl rfl (does_ld rfl) ?_
    refine XA.dT 5 rfl rfl rfl (does_eql rfl rfl) ?_
    refine XA.dA 6 rfl rfl rfl (by first | exact does_pickT rfl rfl | exact does_pickF rfl rfl) ?_
    refine XA.dA 7 rfl rfl rfl (does_move rfl) ?_
    (first | refine XA.split (t := 40) rfl (fun hg => ?_) (fun hg => ?_) | refine XA.splitB (t := 40) rfl (fun hg => ?_) (fun hg => ?_))
    ·
     refine XA.dF 8 rfl rfl rfl rfl ?_
     refine XA.dF 9 rfl rfl rfl rfl ?_
     refine XA.dF 10 rfl rfl rfl rfl ?_
     refine XA.dF 11 rfl rfl rfl rfl ?_
     refine XA.dF 12 rfl rfl rfl rfl ?_
     refine XA.dF 13 rfl rfl rfl rfl ?_
     refine XA.dF 14 rfl rfl rfl rfl ?_
     refine XA.dF 15 rfl rfl rfl rfl ?_
     refine XA.next 16 rfl (by kernel_rfl) ?_
     refine xk_guardF rfl rfl rfl (by decide) ?_
     refine XA.bt ?_
     refine XA.next 17 rfl (by kernel_rfl) ?_
     refine xk_guardF rfl rfl rfl (by decide) ?_
     refine XA.bt ?_
     refine XA.next 18 rfl (by kernel_rfl) ?_
     (first | refine xk_pickT rfl rfl (by decide) ?_ | refine xk_pickF rfl rfl (by decide) ?_)
     refine XA.bt ?_
     refine XA.done (by kernel_rfl) ?_
     refine XK.norm ?_
     exact XK.meetBS
    ·
     refine XA.dT 8 rfl rfl rfl (does_move rfl) ?_
     refine XA.dT 9 rfl rfl rfl (does_field (off := 0) (by kernel_rfl) rfl) ?_
     refine XA.dT 10 rfl rfl rfl (does_ld rfl) ?_
     refine XA.dT 11 rfl rfl rfl (does_field (off := 1) (by kernel_rfl) rfl) ?_
     refine XA.dT 12 rfl rfl rfl (does_ld rfl) ?_
     refine XA.dT 14 rfl rfl rfl (does_field (off := 0) (by kernel_rfl) rfl) ?_
     refine XA.dT 15 rfl rfl rfl (does_ld rfl) ?_
     refine XA.next 13 rfl (by kernel_rfl) ?_
     refine xk_guardT rfl rfl ?_; refine xk_callR (f := 95) (fi := []) (ca := []) (by kernel_rfl) rfl rfl (by decide) (fun w1 st => wishes_any g2 ag (if ag = 0 then x else y) k id w1 hag (StR.box hSt (st.le (by simp)) (st.box (i := 2) rfl) ag hag)) ?_
     refine XA.bk ?_
     refine XA.next 16 rfl (by kernel_rfl) ?_
     refine xk_guardT rfl rfl ?_; refine xk_callR (f := 96) (fi := []) (ca := []) (by kernel_rfl) rfl rfl (by decide) (fun w1 st => on_any k w1) ?_
     refine XA.bt ?_
     refine XA.next 17 rfl (by kernel_rfl) ?_
     refine xk_guardT rfl rfl ?_; refine xk_eqlB (by kernel_rfl) rfl rfl (by decide) ?_
     refine XA.bt ?_
     refine XA.next 18 rfl (by kernel_rfl) ?_
     (first | refine xk_pickT rfl rfl (by decide) ?_ | refine xk_pickF rfl rfl (by decide) ?_)
     refine XA.bt ?_
     refine XA.done (by kernel_rfl) ?_
     refine XK.norm ?_
     exact XK.meetBS
  refine XK.if_ rfl (fun h4 => ?_) (fun h4 => ?_)
  ·
   refine XK.seq ?_
   refine XK.region ?_
   refine xk_move rfl (by decide) ?_
   refine xk_buildS (zs := [.int .u8 0, .int .i64 0]) (L := [(0, 1), (1, 1)]) (zeroB_of (by kernel_rfl)) (by kernel_rfl) rfl (by simp [fillL, setN, Value.cells]; rfl) (by decide) ?_
   refine xk_assign rfl (by decide) ?_
   refine xk_stN rfl rfl ?_; simp only [putN, Value.cells, List.set, List.take, List.drop, List.nil_append, List.append_nil, List.length_cons, List.length_nil, List.cons_append, Nat.reduceAdd]
   refine XK.nilN ?_
   refine XK.ret ?_
   refine XK.norm ?_
   exact XK.retTC (n := 2) (vs := [.int .u8 0, .int .i64 0]) rfl (by kernel_rfl) rfl rfl (by first | assumption | exact RdN.whole 0 rfl | exact RdN.whole 1 rfl | exact RdN.whole 2 rfl | exact RdN.whole 3 rfl | exact RdN.whole 4 rfl | exact RdN.whole 5 rfl | exact RdN.whole 6 rfl | exact RdN.whole 7 rfl | exact RdN.whole 8 rfl | exact RdN.roc (by simp) (by assumption)) rfl fun w9 st => ⟨by
    rw [decF, hrd]; dsimp only; rw [if_pos h4]; rfl, st.below (by simp)⟩
  ·
   have hst0 : st = 0 := Decidable.byContradiction fun h => h4 (.inl h)
   refine XK.skip ?_
   refine XK.norm ?_
   refine XK.seq ?_
   refine XK.seq ?_
   refine XK.region ?_
   refine xk_field (off := 0) (by kernel_rfl) rfl (by decide) ?_
   refine xk_ld rfl ?_
   refine xk_callR (f := 96) (fi := []) (ca := []) (by kernel_rfl) rfl rfl (by decide) (fun w1 st => on_any k w1) ?_
   refine XK.nilN ?_
   refine XK.if_ rfl (fun h6 => ?_) (fun h6 => ?_)
   ·
    refine XK.seq ?_
    refine XK.seq ?_
    refine XK.region ?_
    refine xk_field (off := 0) (by kernel_rfl) rfl (by decide) ?_
    refine xk_ld rfl ?_
    refine xk_eql rfl rfl (by decide) ?_
    refine XK.nilN ?_
    refine XK.if_ rfl (fun h7 => ?_) (fun h7 => ?_)
    ·
     refine XK.seq ?_
     subst h7
     have hok := readF_ok (s := s) hu
     rw [hrd] at hok
     dsimp only at hok
     rcases hok with hok | ⟨_, _, hid0, hid1, _⟩
     ·exact absurd hok.1 (by omega)
     have hid2 : id.toNat < s.domains.length := by rw [show numF s (kPro 117) = s.domains.length from rfl] at hid1; omega
     obtain ⟨d, hd⟩ : ∃ d, s.domains[id.toNat]? = some d := ⟨_, List.getElem?_eq_getElem hid2⟩
     obtain ⟨rfl, rfl, rfl, rfl⟩ := hSP.len
     obtain ⟨bD, oD, rD, rfl, hzD, _, rfl, hcD⟩ := hSP.dom.rowP hd
     have hab : (s.domains[id.toNat]?).any (fun d => decide (d.above ≠ -1) && !wishedF x y 117 d.above) = (decide (d.above ≠ -1) && !wishedF x y 117 d.above) := by rw [hd]; rfl
     refine XK.region ?_
     refine xk_field (off := 1) (by kernel_rfl) rfl (by decide) ?_
     refine xk_ld rfl ?_
     refine xk_field (off := 1) (by kernel_rfl) rfl (by decide) ?_
     refine xk_ld rfl ?_
     refine xk_at id.toNat (oD + id.toNat * 3) (el := 75) (sz := 3) (by kernel_rfl) (by kernel_rfl) rfl rfl (by omega) (by omega) (by omega) (by decide) ?_
     refine xk_field (off := 0) (by kernel_rfl) rfl (by decide) ?_
     refine xk_load (by kernel_rfl) rfl (Rd.ro (p := q) (by simp) hzD (hcD 0 _ rfl)) (by decide) ?_
     refine xk_assign rfl (by decide) ?_
     refine XK.nilN ?_
     refine XK.cutB 73 (d.above ≠ -1 ∧ wishedF x y 117 d.above = false) ?_ ?_
     ·skip
      refine XK.region ?_
      refine xk_move rfl (by decide) ?_
      refine xk_neq rfl rfl (by decide) ?_
      refine xk_move rfl (by decide) ?_
      (first | refine xk_split (t := 69) rfl (fun hg => ?_) (fun hg => ?_) | refine xk_splitB (t := 69) rfl (fun hg => ?_) (fun hg => ?_))
      ·
       refine xk_guardT rfl rfl ?_; refine xk_move rfl (by decide) ?_
       refine xk_guardT rfl rfl ?_; refine xk_callR (f := 97) (fi := []) (ca := []) (by kernel_rfl) rfl rfl (by decide) (fun w1 st => wished_any g2 x y 117 d.above w1 (StR.box hSt (st.le (by simp)) (st.box (i := 2) rfl))) ?_
       refine xk_guardT rfl rfl ?_; (first | refine xk_notD rfl (by decide) ?_ | refine xk_not rfl (by decide) ?_)
       (first | refine xk_pickT rfl rfl (by decide) ?_ | refine xk_pickF rfl rfl (by decide) ?_)
       refine XK.nilN ?_
       exact XK.meetBS
      ·
       refine xk_guardF rfl rfl rfl (by decide) ?_
       refine xk_guardF rfl rfl rfl (by decide) ?_
       refine xk_guardF rfl rfl rfl (by decide) ?_
       (first | refine xk_pickT rfl rfl (by decide) ?_ | refine xk_pickF rfl rfl (by decide) ?_)
       refine XK.nilN ?_
       exact XK.meetBS
     refine XK.if_ rfl (fun h9 => ?_) (fun h9 => ?_)
     ·
      refine XK.seq ?_
      refine XK.region ?_
      refine xk_buildS (zs := [.int .u8 0, .int .i64 0]) (L := [(0, 1), (1, 1)]) (zeroB_of (by kernel_rfl)) (by kernel_rfl) rfl (by simp [fillL, setN, Value.cells]; rfl) (by decide) ?_
      refine xk_assign rfl (by decide) ?_
      refine xk_stN rfl rfl ?_; simp only [putN, Value.cells, List.set, List.take, List.drop, List.nil_append, List.append_nil, List.length_cons, List.length_nil, List.cons_append, Nat.reduceAdd]
      refine XK.nilN ?_
      refine XK.ret ?_
      refine XK.norm ?_
      exact XK.retTC (n := 2) (vs := [.int .u8 0, .int .i64 0]) rfl (by kernel_rfl) rfl rfl (by first | assumption | exact RdN.whole 0 rfl | exact RdN.whole 1 rfl | exact RdN.whole 2 rfl | exact RdN.whole 3 rfl | exact RdN.whole 4 rfl | exact RdN.whole 5 rfl | exact RdN.whole 6 rfl | exact RdN.whole 7 rfl | exact RdN.whole 8 rfl | exact RdN.roc (by simp) (by assumption)) rfl fun w9 st => ⟨by
       rw [decF, hrd]; dsimp only; rw [if_neg h4, if_pos h6, if_pos ⟨rfl, by rw [hab]; simp [h9.1, h9.2]⟩]; rfl, st.below (by simp)⟩
     ·
      refine XK.skip ?_
      refine XK.norm ?_
      refine XK.seq ?_
      subst hst0
      refine XK.draw 2 (by kernel_rfl) (by kernel_rfl) ?_
      refine XA.dA 0 rfl rfl rfl (does_ldN 2 rfl) ?_
      refine XA.dA 1 rfl rfl rfl (does_assign rfl) ?_
      refine XA.next 2 rfl (by kernel_rfl) ?_
      refine xk_stN rfl rfl ?_; simp only [putN, Value.cells, List.set, List.take, List.drop, List.nil_append, List.append_nil, List.length_cons, List.length_nil, List.cons_append, Nat.reduceAdd]
      refine XA.bt ?_
      refine XA.done (by kernel_rfl) ?_
      refine XK.norm ?_
      refine XK.ret ?_
      refine XK.norm ?_
      exact XK.retTC (n := 2) (vs := [.int .u8 117, .int .i64 id]) rfl (by kernel_rfl) rfl rfl (by first | assumption | exact RdN.whole 0 rfl | exact RdN.whole 1 rfl | exact RdN.whole 2 rfl | exact RdN.whole 3 rfl | exact RdN.whole 4 rfl | exact RdN.whole 5 rfl | exact RdN.whole 6 rfl | exact RdN.whole 7 rfl | exact RdN.whole 8 rfl | exact RdN.roc (by simp) (by assumption)) rfl fun w9 st => ⟨by
       rw [decF, hrd]; dsimp only; rw [if_neg h4, if_pos h6, if_neg (fun hh => h9 (by have h' := hh.2; rw [hab] at h'; simpa using h'))]; rfl, st.below (by simp)⟩
    ·
     refine XK.skip ?_
     refine XK.norm ?_
     refine XK.seq ?_
     subst hst0
     refine XK.draw 2 (by kernel_rfl) (by kernel_rfl) ?_
     refine XA.dA 0 rfl rfl rfl (does_ldN 2 rfl) ?_
     refine XA.dA 1 rfl rfl rfl (does_assign rfl) ?_
     refine XA.next 2 rfl (by kernel_rfl) ?_
     refine xk_stN rfl rfl ?_; simp only [putN, Value.cells, List.set, List.take, List.drop, List.nil_append, List.append_nil, List.length_cons, List.length_nil, List.cons_append, Nat.reduceAdd]
     refine XA.bt ?_
     refine XA.done (by kernel_rfl) ?_
     refine XK.norm ?_
     refine XK.ret ?_
     refine XK.norm ?_
     exact XK.retTC (n := 2) (vs := [.int .u8 k, .int .i64 id]) rfl (by kernel_rfl) rfl rfl (by first | assumption | exact RdN.whole 0 rfl | exact RdN.whole 1 rfl | exact RdN.whole 2 rfl | exact RdN.whole 3 rfl | exact RdN.whole 4 rfl | exact RdN.whole 5 rfl | exact RdN.whole 6 rfl | exact RdN.whole 7 rfl | exact RdN.whole 8 rfl | exact RdN.roc (by simp) (by assumption)) rfl fun w9 st => ⟨by
      rw [decF, hrd]; dsimp only; rw [if_neg h4, if_pos h6, if_neg (fun hh => h7 hh.1)]; rfl, st.below (by simp)⟩
   ·
    refine XK.skip ?_
    refine XK.norm ?_
    refine XK.seq ?_
    refine XK.seq ?_
    refine XK.region ?_
    refine xk_ldN 4 rfl ?_
    refine xk_ldN 6 rfl ?_
    refine xk_move rfl (by decide) ?_
    refine xk_ldN 2 rfl ?_
    refine xk_callR (f := 98) (fi := []) (ca := []) (by kernel_rfl) rfl rfl (by decide) (fun w1 st => denied_any q qx s A1 A2 A3 A4 n1 k1 n2 k2 n3 k3 n4 k4 X1 X2 X3 Y1 Y2 Y3 xn1 xk1 xn2 xk2 xn3 xk3 yn1 yk1 yn2 yk2 yn3 yk3 x y ag k id w1 hSP hm (st.le (by simp)) hSt (st.le (by simp)) hag) ?_
    refine XK.nilN ?_
    refine XK.cond rfl (fun h12 => ?_) (fun h12 => ?_)
    ·
     refine XK.seq ?_
     refine XK.region ?_
     refine xk_buildS (zs := [.int .u8 0, .int .i64 0]) (L := [(0, 1), (1, 1)]) (zeroB_of (by kernel_rfl)) (by kernel_rfl) rfl (by simp [fillL, setN, Value.cells]; rfl) (by decide) ?_
     refine xk_assign rfl (by decide) ?_
     refine xk_stN rfl rfl ?_; simp only [putN, Value.cells, List.set, List.take, List.drop, List.nil_append, List.append_nil, List.length_cons, List.length_nil, List.cons_append, Nat.reduceAdd]
     refine XK.nilN ?_
     refine XK.ret ?_
     refine XK.norm ?_
     exact XK.retTC (n := 2) (vs := [.int .u8 0, .int .i64 0]) rfl (by kernel_rfl) rfl rfl (by first | assumption | exact RdN.whole 0 rfl | exact RdN.whole 1 rfl | exact RdN.whole 2 rfl | exact RdN.whole 3 rfl | exact RdN.whole 4 rfl | exact RdN.whole 5 rfl | exact RdN.whole 6 rfl | exact RdN.whole 7 rfl | exact RdN.whole 8 rfl | exact RdN.roc (by simp) (by assumption)) rfl fun w9 st => ⟨by
      rw [decF, hrd]; dsimp only; rw [if_neg h4, if_neg h6, if_pos h12]; rfl, st.below (by simp)⟩
    ·
     refine XK.skip ?_
     refine XK.norm ?_
     refine XK.seq ?_
     refine XK.seq ?_
     refine XK.region ?_
     refine xk_ldN 4 rfl ?_
     refine xk_move rfl (by decide) ?_
     refine xk_ldN 2 rfl ?_
     refine xk_callR (f := 99) (fi := []) (ca := []) (by kernel_rfl) rfl rfl (by decide) (fun w1 st => busy_any q s A1 A2 A3 A4 n1 k1 n2 k2 n3 k3 n4 k4 Aw nw cw wt k id w1 hSP hm (st.le (by simp)) (hw.le (st.le (by simp))) hnw) ?_
     refine XK.nilN ?_
     refine XK.cond rfl (fun h14 => ?_) (fun h14 => ?_)
     ·
      refine XK.seq ?_
      refine XK.region ?_
      refine xk_buildS (zs := [.int .u8 0, .int .i64 0]) (L := [(0, 1), (1, 1)]) (zeroB_of (by kernel_rfl)) (by kernel_rfl) rfl (by simp [fillL, setN, Value.cells]; rfl) (by decide) ?_
      refine xk_assign rfl (by decide) ?_
      refine xk_stN rfl rfl ?_; simp only [putN, Value.cells, List.set, List.take, List.drop, List.nil_append, List.append_nil, List.length_cons, List.length_nil, List.cons_append, Nat.reduceAdd]
      refine XK.nilN ?_
      refine XK.ret ?_
      refine XK.norm ?_
      exact XK.retTC (n := 2) (vs := [.int .u8 0, .int .i64 0]) rfl (by kernel_rfl) rfl rfl (by first | assumption | exact RdN.whole 0 rfl | exact RdN.whole 1 rfl | exact RdN.whole 2 rfl | exact RdN.whole 3 rfl | exact RdN.whole 4 rfl | exact RdN.whole 5 rfl | exact RdN.whole 6 rfl | exact RdN.whole 7 rfl | exact RdN.whole 8 rfl | exact RdN.roc (by simp) (by assumption)) rfl fun w9 st => ⟨by
       rw [decF, hrd]; dsimp only; rw [if_neg h4, if_neg h6, if_neg (by rw [h12]; exact Bool.false_ne_true), if_pos h14]; rfl, st.below (by simp)⟩
     ·
      refine XK.skip ?_
      refine XK.norm ?_
      refine XK.seq ?_
      subst hst0
      refine XK.draw 2 (by kernel_rfl) (by kernel_rfl) ?_
      refine XA.dA 0 rfl rfl rfl (does_ldN 2 rfl) ?_
      refine XA.dA 1 rfl rfl rfl (does_assign rfl) ?_
      refine XA.next 2 rfl (by kernel_rfl) ?_
      refine xk_stN rfl rfl ?_; simp only [putN, Value.cells, List.set, List.take, List.drop, List.nil_append, List.append_nil, List.length_cons, List.length_nil, List.cons_append, Nat.reduceAdd]
      refine XA.bt ?_
      refine XA.done (by kernel_rfl) ?_
      refine XK.norm ?_
      refine XK.ret ?_
      refine XK.norm ?_
      exact XK.retTC (n := 2) (vs := [.int .u8 k, .int .i64 id]) rfl (by kernel_rfl) rfl rfl (by first | assumption | exact RdN.whole 0 rfl | exact RdN.whole 1 rfl | exact RdN.whole 2 rfl | exact RdN.whole 3 rfl | exact RdN.whole 4 rfl | exact RdN.whole 5 rfl | exact RdN.whole 6 rfl | exact RdN.whole 7 rfl | exact RdN.whole 8 rfl | exact RdN.roc (by simp) (by assumption)) rfl fun w9 st => ⟨by
       rw [decF, hrd]; dsimp only; rw [if_neg h4, if_neg h6, if_neg (by rw [h12]; exact Bool.false_ne_true), if_neg (by rw [h14]; exact Bool.false_ne_true)]; rfl, st.below (by simp)⟩
end
section
def setBL (l : List Bool) (id : Int) (b : Bool) : List Bool := if 0 ≤ id ∧ id < (l.length : Int) then l.set id.toNat b else l
theorem setBL_out {l : List Bool} {id : Int} (b : Bool) (h : ¬ (0 ≤ id ∧ id < (l.length : Int))) : setBL l id b = l := if_neg h
theorem setBL_len (l : List Bool) (id : Int) (b : Bool) : (setBL l id b).length = l.length := by unfold setBL; split <;> simp
def setW (x : Wsh) (k id : Int) : Wsh :=
 if k = 117 ∨ k = 100 ∨ k = 107 then ⟨setBL x.d id (decide (onB k)), x.c, x.l⟩
 else if k = 99 ∨ k = 111 then ⟨x.d, setBL x.c id (decide (onB k)), x.l⟩
 else if k = 114 ∨ k = 97 then ⟨x.d, x.c, setBL x.l id (decide (onB k))⟩ else x
def doneX (x : Wsh) (ag : Nat) (k id : Int) : Wsh := if ag = 0 then setW x k id else x
def doneY (y : Wsh) (ag : Nat) (k id : Int) : Wsh := if ag = 0 then y else setW y k id
theorem boolCells_setB {l : List Bool} {id : Int} (b : Bool) (h : 0 ≤ id ∧ id < (l.length : Int)) : (boolCells l).set id.toNat (.bool b) = boolCells (setBL l id b) := by
 rw [setBL, if_pos h]
 simp [boolCells, List.map_set]
section
variable {N : Frm} {w0 w : World} {e : Env} {R : List Piece} {H : List HP} {K : Act → World → Prop}
theorem St.ownRd (st : St w0 R H w) {i n c sz : Nat} {t : TypeId} {A : Option Addr} {xs : List Value} (hi : H[i]? = some (HP.own t sz (.slice A n c) n xs)) (hn : 0 < n) : ∃ g, A = some ⟨g, 0, none⟩ := by
 obtain ⟨_, h2⟩ := st.own hi
 rcases h2 with ⟨h2, h3⟩ | ⟨g', cap, cur, hv, _⟩
 ·omega
 ·injection hv with h4 h5 h6
  exact ⟨g', h4⟩
theorem XK.ownAt (i : Nat) {n c sz : Nat} {t : TypeId} {A : Option Addr} {xs : List Value} (hi : H[i]? = some (HP.own t sz (.slice A n c) n xs)) (hn : 0 < n) (h : (∃ g, A = some ⟨g, 0, none⟩) → XK N w0 K e R H) : XK N w0 K e R H := fun a w hr st => h (st.ownRd hi hn) a w hr st
end
end
section
set_option maxHeartbeats 4000000
set_option maxRecDepth 20000
structure FmL where
 a1 : AC
 a2 : AC
 a3 : AC
 a4 : AC
 x1 : AC
 x2 : AC
 x3 : AC
 y1 : AC
 y2 : AC
 y3 : AC
 b0 : AC
 b1 : AC
structure FmS where
 x : Wsh
 y : Wsh
 h0 : Int
 h1 : Int
 w0 : List Int
 w1 : List Int
 last : Int
 at_ : Int
 kind : Int
 id : Int
def fm0 (s : Soc) : FmS := ⟨zeroW s, zeroW s, 0, 0, [], [], 1, -1, 0, 0⟩
def slV (a : AC) (n : Nat) : Value := .slice a.1 n a.2
def fmC (h : Nat) (L : FmL) (s : Soc) (z : FmS) : List Value := [.pointer (some ⟨h, 0, none⟩), .slice L.a1.1 s.clocks.length L.a1.2, .slice L.a2.1 s.domains.length L.a2.2, .slice L.a3.1 s.resets.length L.a3.2, .slice L.a4.1 s.devs.length L.a4.2,
 .slice L.x1.1 z.x.d.length L.x1.2, .slice L.x2.1 z.x.c.length L.x2.2, .slice L.x3.1 z.x.l.length L.x3.2, .slice L.y1.1 z.y.d.length L.y1.2, .slice L.y2.1 z.y.c.length L.y2.2, .slice L.y3.1 z.y.l.length L.y3.2,
 .int .i64 z.h0, .slice L.b0.1 z.w0.length L.b0.2, .int .i64 z.h1, .slice L.b1.1 z.w1.length L.b1.2, .int .i64 z.last, .int .i64 z.at_, .int .u8 z.kind, .int .i64 z.id]
def SoP (L : FmL) (s : Soc) (p : Piece) : Prop := SocP p s L.a1.1 s.clocks.length L.a2.1 s.domains.length L.a3.1 s.resets.length L.a4.1 s.devs.length
theorem SoP.le {L : FmL} {s : Soc} (p q : Piece) (hl : p.Le q) (h : SoP L s p) : SoP L s q := SocP.le h hl
def StP (L : FmL) (x y : Wsh) (p : Piece) : Prop := SlS p 1 L.x1.1 x.d.length (boolCells x.d) ∧ SlS p 1 L.x2.1 x.c.length (boolCells x.c) ∧ SlS p 1 L.x3.1 x.l.length (boolCells x.l) ∧ SlS p 1 L.y1.1 y.d.length (boolCells y.d) ∧ SlS p 1 L.y2.1 y.c.length (boolCells y.c) ∧ SlS p 1 L.y3.1 y.l.length (boolCells y.l)
theorem StP.le {L : FmL} {x y : Wsh} (p q : Piece) (hl : p.Le q) (h : StP L x y p) : StP L x y q := ⟨h.1.le hl, h.2.1.le hl, h.2.2.1.le hl, h.2.2.2.1.le hl, h.2.2.2.2.1.le hl, h.2.2.2.2.2.le hl⟩
def BxP (a : AC) (l : List Int) (p : Piece) : Prop := SlS p 1 a.1 l.length (u32Cells l)
theorem BxP.le {a : AC} {l : List Int} (p q : Piece) (hl : p.Le q) (h : BxP a l p) : BxP a l q := SlS.le h hl
theorem StR.P {q : Piece} {x y : Wsh} {v : Value} (h : StR q x y v) : ∃ x1 x2 x3 y1 y2 y3 : AC, v = .agg #[slV x1 x.d.length, slV x2 x.c.length, slV x3 x.l.length, slV y1 y.d.length, slV y2 y.c.length, slV y3 y.l.length] ∧ ∀ a1 a2 a3 a4 b0 b1 : AC, StP ⟨a1, a2, a3, a4, x1, x2, x3, y1, y2, y3, b0, b1⟩ x y q := by
 obtain ⟨A1, k1, A2, k2, A3, k3, B1, m1, B2, m2, B3, m3, e, a1, a2, a3, b1, b2, b3⟩ := h
 exact ⟨(A1, k1), (A2, k2), (A3, k3), (B1, m1), (B2, m2), (B3, m3), e, fun _ _ _ _ _ _ => ⟨a1, a2, a3, b1, b2, b3⟩⟩
def FirmH (f h : Nat) (L : FmL) (s : Soc) (z : FmS) : HP := HP.many [HP.blk f 150 (fmC h L s z), HP.pic (SoP L s) (SoP.le (L := L) (s := s)), HP.pic (StP L z.x z.y) (StP.le (L := L) (x := z.x) (y := z.y)), HP.pic (BxP L.b0 z.w0) (BxP.le (a := L.b0) (l := z.w0)), HP.pic (BxP L.b1 z.w1) (BxP.le (a := L.b1) (l := z.w1))]
def FirmX (f h : Nat) (s : Soc) (z : FmS) : HP := HP.ex fun L : FmL => FirmH f h L s z
structure FirmR (w : World) (f h : Nat) (L : FmL) (s : Soc) (z : FmS) : Prop where
 r0 : ROn w f 0 (fmC h L s z)
 so : SoP L s (all w)
 st : StP L z.x z.y (all w)
 b0 : BxP L.b0 z.w0 (all w)
 b1 : BxP L.b1 z.w1 (all w)
theorem FirmR.below {w w' : World} {f h : Nat} {L : FmL} {s : Soc} {z : FmS} (k : FirmR w f h L s z) (hb : Below w.heap.size w w') : FirmR w' f h L s z :=
 ⟨k.r0.below hb, k.so.le _ _ (all_le hb), k.st.le _ _ (all_le hb), k.b0.le _ _ (all_le hb), k.b1.le _ _ (all_le hb)⟩
theorem FirmH.reads {f h : Nat} {L : FmL} {s : Soc} {z : FmS} {F : Nat → Prop} {w : World} (k : (FirmH f h L s z).sat F w) (hF : ∀ b, F b → b < w.heap.size) : FirmR w f h L s z := by
 obtain ⟨G, g1, g2, _⟩ := k
 have hl : ∀ i, (⟨w, G i⟩ : Piece).Le (all w) := fun i b hb => ⟨hF b (g2 i b hb), rfl⟩
 exact ⟨blk_ron (g1 0 _ rfl).2, SoP.le _ _ (hl 1) (g1 1 _ rfl), StP.le _ _ (hl 2) (g1 2 _ rfl), BxP.le _ _ (hl 3) (g1 3 _ rfl), BxP.le _ _ (hl 4) (g1 4 _ rfl)⟩
theorem St.firmR {w0 w : World} {R : List Piece} {H : List HP} {f h : Nat} {L : FmL} {s : Soc} {z : FmS} (t : St w0 R H w) (i : Nat) (hi : H[i]? = some (FirmH f h L s z)) : FirmR w f h L s z := by
 obtain ⟨F, h1, h2, _⟩ := t.chunk hi
 exact FirmH.reads h1 h2
def FirmOk (h : Nat) (s : Soc) (v : Value) (hs : List HP) (_ : Piece) : Prop := ∃ f, v = .tuple #[.pointer (some ⟨f, 0, none⟩), .int .i64 0] ∧ hs = [FirmX f h s (fm0 s)]
theorem emp_pic {w : World} (a : AC) (ha : a = (none, 0)) : (HP.pic (BxP a []) (BxP.le (a := a) (l := []))).sat (fun _ => False) w := by
 subst ha
 exact ⟨rfl, fun h => absurd h (by simp)⟩
theorem firmNew_ok (h : Nat) (s : Soc) (hH : s.okH) (A1 A2 A3 A4 : Option Addr) (n1 k1 n2 k2 n3 k3 n4 k4 : Nat) (w : World) (hW : SocW w s A1 n1 A2 n2 A3 n3 A4 n4) :
  Calls Tryz.prog 16 #[.pointer (some ⟨h, 0, none⟩), .agg #[.slice A1 n1 k1, .slice A2 n2 k2, .slice A3 n3 k3, .slice A4 n4 k4]] w (fun y w' => (∃ v hs q, y = .returned v ∧ q.w = w' ∧ FirmOk h s v hs q ∧ New w hs q) ∧ Below w.heap.size w w') := by
 obtain rfl := hW.len1
 obtain rfl := hW.len2
 obtain rfl := hW.len3
 obtain rfl := hW.len4
 refine XK.enter (vs := [.pointer (some ⟨h, 0, none⟩), .agg #[.slice A1 s.clocks.length k1, .slice A2 s.domains.length k2, .slice A3 s.resets.length k3, .slice A4 s.devs.length k4]]) Tryz.func16 rfl Tryz.ntmps16 (by simp) ?_
 refine XK.go ?_
 refine xk_box rfl (by decide) fun g1 => ?_
 dsimp only [Value.cells]
 refine XK.go ?_
 refine kcall (fun w1 t => checkS_call s A1 A2 A3 A4 _ k1 _ k2 _ k3 _ k4 w1 (hW.le (t.started (by simp))) hH.t.chk) ?_
 refine XK.go ?_
 refine XK.drawB [1, 3] ?_
 refine XB.mv 0 ?_
 refine XB.q 1 ?_
 refine XB.q 3 ?_
 refine XB.next 2 rfl (by kernel_rfl) ?_
 refine xk_call [] (f := 67) (fi := []) (ca := []) (by kernel_rfl) rfl rfl (by decide) (by simp) (fun v w w' => CopyOk s v w w') (fun w1 t => copy_any s A1 A2 A3 A4 _ k1 _ k2 _ k3 _ k4 w1 (hW.le (t.started (by simp))) (fun d hd => by
  obtain ⟨j, hj⟩ := List.getElem?_of_mem hd
  have := (hH.t.devs j d hj).2.2.2.2.2.2.2.2.1
  omega)) ?_
 rintro _ w1 q1 ⟨cs, rfl, hcs⟩ hq1 _ hF1
 have hF1 := hF1 (by simp)
 obtain ⟨B1, m1, j1, B2, m2, j2, B3, m3, j3, B4, m4, j4, rfl, hsp⟩ := SocR.P hcs
 have hsp := hsp.le hq1
 obtain ⟨rfl, rfl, rfl, rfl⟩ := hsp.len
 refine XK.ownP (Φ := SoP ⟨(B1, j1), (B2, j2), (B3, j3), (B4, j4), (none, 0), (none, 0), (none, 0), (none, 0), (none, 0), (none, 0), (none, 0), (none, 0)⟩ s) (hm := SoP.le) hF1 (by simp [all]) hsp ?_
 refine XB.bk ?_
 refine XB.next 4 rfl (by kernel_rfl) ?_
 refine xk_call [] (f := 68) (fi := []) (ca := []) (by kernel_rfl) rfl rfl (by decide) (by simp) (fun v w w' => StR (fresh w w') (zeroW s) (zeroW s) v) (fun w1 st => start_any s A1 A2 A3 A4 k1 k2 k3 k4 w1 hH.t) ?_
 rintro _ w2 q2 hst hq2 _ hF2
 have hF2 := hF2 (by simp)
 obtain ⟨x1, x2, x3, y1, y2, y3, rfl, hsp2⟩ := hst.P
 have hsp2 := StP.le _ _ hq2 (hsp2 (B1, j1) (B2, j2) (B3, j3) (B4, j4) (none, 0) (none, 0))
 refine XK.ownP (Φ := StP ⟨(B1, j1), (B2, j2), (B3, j3), (B4, j4), x1, x2, x3, y1, y2, y3, (none, 0), (none, 0)⟩ (zeroW s) (zeroW s)) (hm := StP.le) hF2 (by simp [all]) hsp2 ?_
 refine XB.bk ?_
 refine XB.next 5 rfl (by kernel_rfl) ?_
 refine xk_buildS (zs := [.pointer none, .slice none 0 0, .slice none 0 0, .slice none 0 0, .slice none 0 0, .slice none 0 0, .slice none 0 0, .slice none 0 0, .slice none 0 0, .slice none 0 0, .slice none 0 0, .int .i64 0, .slice none 0 0, .int .i64 0, .slice none 0 0, .int .i64 0, .int .i64 0, .int .u8 0, .int .i64 0]) (L := [(0, 1), (1, 4), (5, 6), (11, 4), (15, 1), (16, 1), (17, 2)]) (zeroB_of (by kernel_rfl)) (by kernel_rfl) rfl (by simp [fillL, setN, Value.cells]; rfl) (by decide) ?_
 refine XB.bt ?_
 refine XB.next 6 rfl (by kernel_rfl) ?_
 refine xk_box rfl (by decide) fun f => ?_
 dsimp only [Value.cells]
 refine XB.bt ?_
 refine XB.next 7 rfl (by kernel_rfl) ?_
 refine kdo ?_
 refine XB.bt ?_
 refine XB.done (by kernel_rfl) ?_
 refine XK.go ?_
 refine XK.chunk0 (p := HP.pic (BxP (none, 0) []) (BxP.le (a := (none, 0)) (l := []))) (fun w => emp_pic _ rfl) ?_
 refine XK.chunk0 (p := HP.pic (BxP (none, 0) []) (BxP.le (a := (none, 0)) (l := []))) (fun w => emp_pic _ rfl) ?_
 refine XK.weak [2, 4, 3, 0, 1] rfl (by decide) (R' := [all w]) (by simp) ?_
 refine XK.pair ?_
 refine XK.more ?_
 refine XK.more ?_
 refine XK.more ?_
 refine XK.toEx 0 (f := fun L : FmL => FirmH f h L s (fm0 s)) ⟨(B1, j1), (B2, j2), (B3, j3), (B4, j4), x1, x2, x3, y1, y2, y3, (none, 0), (none, 0)⟩ rfl ?_
 dsimp only [List.set]
 refine XK.still [] [] [0] (by simp) rfl (by decide) (by decide) fun q _ _ hfr => ?_
 exact XK.ret2 rfl rfl rfl fun w1 t => ⟨⟨_, _, ⟨w1, q.Z⟩, rfl, rfl, ⟨f, rfl, rfl⟩, t.newR (by simp) (by simp) (hfr (by simp) (by simp))⟩, t.below (by simp)⟩
end
section
set_option maxHeartbeats 4000000
set_option maxRecDepth 20000
section
variable {N : Frm} {w0 w : World} {e : Env} {R : List Piece} {H : List HP} {K : Act → World → Prop} {f h : Nat} {s : Soc} {z : FmS}
theorem XK.openFm (i : Nat) (hi : H[i]? = some (FirmX f h s z)) (k : ∀ L : FmL, XK N w0 K e R (HP.blk f 150 (fmC h L s z) :: H.set i (HP.many [HP.emp, HP.pic (SoP L s) (SoP.le (L := L) (s := s)), HP.pic (StP L z.x z.y) (StP.le (L := L) (x := z.x) (y := z.y)), HP.pic (BxP L.b0 z.w0) (BxP.le (a := L.b0) (l := z.w0)), HP.pic (BxP L.b1 z.w1) (BxP.le (a := L.b1) (l := z.w1))]))) : XK N w0 K e R H := by
 have hlt := hlt_of hi
 refine XK.openEx i hi fun L => ?_
 refine XK.take i 0 (by rw [List.getElem?_set_self hlt]; rfl) rfl ?_
 simpa [List.set_set] using k L
theorem XK.closeFm (L : FmL) (i : Nat) (hi : H[i]? = some (HP.many [HP.emp, HP.pic (SoP L s) (SoP.le (L := L) (s := s)), HP.pic (StP L z.x z.y) (StP.le (L := L) (x := z.x) (y := z.y)), HP.pic (BxP L.b0 z.w0) (BxP.le (a := L.b0) (l := z.w0)), HP.pic (BxP L.b1 z.w1) (BxP.le (a := L.b1) (l := z.w1))])) (k : XK N w0 K e R (H.set i (FirmX f h s z))) : XK N w0 K e R (HP.blk f 150 (fmC h L s z) :: H) := by
 have hlt := hlt_of hi
 refine XK.give i 0 hi rfl ?_
 refine XK.toEx i (f := fun L : FmL => FirmH f h L s z) L (by rw [List.getElem?_set_self hlt]; rfl) ?_
 rw [List.set_set]
 exact k
end
def sendF (z : FmS) (a : Int) (l : List Int) : Int × FmS :=
 if inB 2 a = false then (4, z) else if a = 0 then (if z.h0 ≠ 0 then (7, z) else (0, { z with h0 := 1, w0 := l })) else (if z.h1 ≠ 0 then (7, z) else (0, { z with h1 := 1, w1 := l }))
theorem fmSend_m (f h : Nat) (s : Soc) (z : FmS) (a : Int) (A : Option Addr) (n c : Nat) (l : List Int) (w : World) (F : Nat → Prop) (hp : (FirmX f h s z).sat F w) (hF : ∀ b, F b → b < w.heap.size) (hs : SlS ⟨w, fun b => b < w.heap.size ∧ ¬ F b⟩ 1 A n (u32Cells l)) (hn : n = l.length) (hn2 : n ≤ 1000000) :
  Calls Tryz.prog 19 #[.pointer (some ⟨f, 0, none⟩), .int .i64 a, .slice A n c] w (fun y w' => y = .returned (.int .i64 (sendF z a l).1) ∧ ∃ F', (FirmX f h s (sendF z a l).2).sat F' w' ∧ Turns w w' F F') := by
 subst hn
 cases hin : inB 2 a
 ·have hr : sendF z a l = (4, z) := by simp [sendF, hin]
  rw [hr]
  refine XK.enterM (p := FirmX f h s z) (F := F) (vs := [.pointer (some ⟨f, 0, none⟩), .int .i64 a, .slice A l.length c]) Tryz.func19 rfl Tryz.ntmps19 (by simp) hp hF ?_
  refine XK.go ?_
  refine kcall (fun w1 t => known_any a w1) ?_
  rw [hin]
  refine XK.go ?_
  exact XK.ret1 rfl rfl fun w1 t => ⟨rfl, t.turns hF (by simp) (i := 0) rfl⟩
 ·obtain rfl | rfl : a = 0 ∨ a = 1 := by have := of_decide_eq_true hin; omega
  ·refine XK.enterM (p := FirmX f h s z) (F := F) (vs := [.pointer (some ⟨f, 0, none⟩), .int .i64 0, .slice A l.length c]) Tryz.func19 rfl Tryz.ntmps19 (by simp) hp hF ?_
   refine XK.openFm 0 rfl fun L => ?_
   dsimp only [List.set, fmC]
   refine XK.go ?_
   refine kcall (fun w1 t => known_any 0 w1) ?_
   refine XK.go ?_
   refine kd (datA 0 11) ?_
   refine XK.go ?_
   refine XK.if_ rfl (fun hb => ?_) (fun hb => ?_)
   ·have hr : sendF z 0 l = (7, z) := by simp [sendF, inB, hb]
    rw [hr]
    refine XK.go ?_
    refine XK.closeFm L 0 rfl ?_
    dsimp only [List.set]
    exact XK.ret1 rfl rfl fun w1 t => ⟨rfl, t.turns hF (by simp) (i := 0) rfl⟩
   ·have hr : sendF z 0 l = (0, { z with h0 := 1, w0 := l }) := by simp [sendF, inB]; simpa using hb
    rw [hr]
    refine XK.go ?_
    refine XK.drawB [5, 6] ?_
    refine XB.mv 0 ?_
    refine XB.mv 1 ?_
    refine XB.mv 2 ?_
    refine XB.q 5 ?_
    refine XB.q 6 ?_
    refine XB.next 3 rfl (by kernel_rfl) ?_
    refine xk_callN (f := 72) (fi := []) (ca := []) (by kernel_rfl) rfl rfl (by decide) (CloneOk_u32 l.length (u32Cells l)) (fun w1 t => clone_u32 A _ c _ w1 (hs.le (t.le (by simp))) (u32Cells_one _) hn2) ?_
    rintro _ _ q1 ⟨An, cn, rfl, rfl⟩ _
    dsimp only [List.cons_append, List.nil_append]
    refine XB.bk ?_
    refine XB.next 4 rfl (by kernel_rfl) ?_
    refine xk_buildS (zs := [.int .i64 0, .slice none 0 0]) (L := [(0, 1), (1, 1)]) (zeroB_of (by kernel_rfl)) (by kernel_rfl) rfl (by simp [fillL, setN, Value.cells]; rfl) (by decide) ?_
    refine XB.bk ?_
    refine XB.next 7 rfl (by kernel_rfl) ?_
    refine kd (datA 0 11) ?_
    refine XB.bt ?_
    refine XB.next 8 rfl (by kernel_rfl) ?_
    refine xk_storeN 1 (t := 150) rfl rfl rfl (by kernel_rfl) (by simp [Value.cells, Value.oneCell']) (by simp [Value.cells]) ?_
    dsimp only [List.set, Value.cells, putN]
    refine XB.bt ?_
    refine XB.done (by kernel_rfl) ?_
    refine XK.go ?_
    refine XK.ownPic 0 (Φ := BxP (An, cn) l) (hm := BxP.le) rfl (fun p hp => hp) ?_
    refine XK.take 2 3 rfl rfl ?_
    dsimp only [List.set]
    refine XK.weak [1, 2, 3] rfl (by decide) (fun _ h => h) ?_
    refine XK.give 1 3 rfl rfl ?_
    dsimp only [List.set]
    refine XK.closeFm (h := h) (s := s) (z := { z with h0 := 1, w0 := l }) { L with b0 := (An, cn) } 0 rfl ?_
    dsimp only [List.set]
    exact XK.ret1 rfl rfl fun w1 t => ⟨rfl, t.turns hF (by simp) (i := 0) rfl⟩
  ·refine XK.enterM (p := FirmX f h s z) (F := F) (vs := [.pointer (some ⟨f, 0, none⟩), .int .i64 1, .slice A l.length c]) Tryz.func19 rfl Tryz.ntmps19 (by simp) hp hF ?_
   refine XK.openFm 0 rfl fun L => ?_
   dsimp only [List.set, fmC]
   refine XK.go ?_
   refine kcall (fun w1 t => known_any 1 w1) ?_
   refine XK.go ?_
   refine kd (datA 1 13) ?_
   refine XK.go ?_
   refine XK.if_ rfl (fun hb => ?_) (fun hb => ?_)
   ·have hr : sendF z 1 l = (7, z) := by simp [sendF, inB, hb]
    rw [hr]
    refine XK.go ?_
    refine XK.closeFm L 0 rfl ?_
    dsimp only [List.set]
    exact XK.ret1 rfl rfl fun w1 t => ⟨rfl, t.turns hF (by simp) (i := 0) rfl⟩
   ·have hr : sendF z 1 l = (0, { z with h1 := 1, w1 := l }) := by simp [sendF, inB]; simpa using hb
    rw [hr]
    refine XK.go ?_
    refine XK.drawB [5, 6] ?_
    refine XB.mv 0 ?_
    refine XB.mv 1 ?_
    refine XB.mv 2 ?_
    refine XB.q 5 ?_
    refine XB.q 6 ?_
    refine XB.next 3 rfl (by kernel_rfl) ?_
    refine xk_callN (f := 72) (fi := []) (ca := []) (by kernel_rfl) rfl rfl (by decide) (CloneOk_u32 l.length (u32Cells l)) (fun w1 t => clone_u32 A _ c _ w1 (hs.le (t.le (by simp))) (u32Cells_one _) hn2) ?_
    rintro _ _ q1 ⟨An, cn, rfl, rfl⟩ _
    dsimp only [List.cons_append, List.nil_append]
    refine XB.bk ?_
    refine XB.next 4 rfl (by kernel_rfl) ?_
    refine xk_buildS (zs := [.int .i64 0, .slice none 0 0]) (L := [(0, 1), (1, 1)]) (zeroB_of (by kernel_rfl)) (by kernel_rfl) rfl (by simp [fillL, setN, Value.cells]; rfl) (by decide) ?_
    refine XB.bk ?_
    refine XB.next 7 rfl (by kernel_rfl) ?_
    refine kd (datA 1 13) ?_
    refine XB.bt ?_
    refine XB.next 8 rfl (by kernel_rfl) ?_
    refine xk_storeN 1 (t := 150) rfl rfl rfl (by kernel_rfl) (by simp [Value.cells, Value.oneCell']) (by simp [Value.cells]) ?_
    dsimp only [List.set, Value.cells, putN]
    refine XB.bt ?_
    refine XB.done (by kernel_rfl) ?_
    refine XK.go ?_
    refine XK.ownPic 0 (Φ := BxP (An, cn) l) (hm := BxP.le) rfl (fun p hp => hp) ?_
    refine XK.take 2 4 rfl rfl ?_
    dsimp only [List.set]
    refine XK.weak [1, 2, 3] rfl (by decide) (fun _ h => h) ?_
    refine XK.give 1 4 rfl rfl ?_
    dsimp only [List.set]
    refine XK.closeFm (h := h) (s := s) (z := { z with h1 := 1, w1 := l }) { L with b1 := (An, cn) } 0 rfl ?_
    dsimp only [List.set]
    exact XK.ret1 rfl rfl fun w1 t => ⟨rfl, t.turns hF (by simp) (i := 0) rfl⟩
def readW (z : FmS) (a : Int) : Option (List Int) := if a = 0 then (if z.h0 = 2 then some z.w0 else none) else if a = 1 then (if z.h1 = 2 then some z.w1 else none) else none
def readZ (z : FmS) (a : Int) : FmS := if a = 0 then (if z.h0 = 2 then { z with h0 := 0, w0 := [] } else z) else if a = 1 then (if z.h1 = 2 then { z with h1 := 0, w1 := [] } else z) else z
def readV (l : Option (List Int)) (a : AC) : Value := match l with
 | some l => .tuple #[.slice a.1 l.length a.2, .bool true]
 | none => .tuple #[.slice none 0 0, .bool false]
def readH (f h : Nat) (s : Soc) (z : FmS) (l : List Int) (c : AC) : HP := HP.many [FirmX f h s z, HP.pic (BxP c l) (BxP.le (a := c) (l := l))]
theorem fmRead_m (f h : Nat) (s : Soc) (z : FmS) (a : Int) (w : World) (F : Nat → Prop) (hp : (FirmX f h s z).sat F w) (hF : ∀ b, F b → b < w.heap.size) :
  Calls Tryz.prog 21 #[.pointer (some ⟨f, 0, none⟩), .int .i64 a] w (fun y w' => ∃ c : AC, y = .returned (readV (readW z a) c) ∧ True ∧ ∃ F', (readH f h s (readZ z a) ((readW z a).getD []) c).sat F' w' ∧ Turns w w' F F') := by
 have hemp : ∀ w : World, (HP.pic (BxP (none, 0) []) (BxP.le (a := (none, 0)) (l := []))).sat (fun _ => False) w := fun w => emp_pic _ rfl
 cases hin : inB 2 a
 ·have h0 : a ≠ 0 := fun h => by subst h; cases hin
  have h1 : a ≠ 1 := fun h => by subst h; cases hin
  have hr : readW z a = none := by simp [readW, h0, h1]
  have hz : readZ z a = z := by simp [readZ, h0, h1]
  rw [hr, hz]
  unfold readH
  refine XK.enterM (p := FirmX f h s z) (F := F) (vs := [.pointer (some ⟨f, 0, none⟩), .int .i64 a]) Tryz.func21 rfl Tryz.ntmps21 (by simp) hp hF ?_
  refine XK.go ?_
  refine kcall (fun w1 t => known_any a w1) ?_
  rw [hin]
  refine XK.go ?_
  refine XK.chunk0 (p := HP.pic (BxP (none, 0) []) (BxP.le (a := (none, 0)) (l := []))) hemp ?_
  refine XK.weak [1, 0] rfl (by decide) (fun _ h => h) ?_
  refine XK.pair ?_
  exact XK.ret2 rfl rfl rfl fun w1 t => ⟨(none, 0), rfl, trivial, t.turns hF (by simp) (i := 0) rfl⟩
 ·obtain rfl | rfl : a = 0 ∨ a = 1 := by have := of_decide_eq_true hin; omega
  ·refine XK.enterM (p := FirmX f h s z) (F := F) (vs := [.pointer (some ⟨f, 0, none⟩), .int .i64 0]) Tryz.func21 rfl Tryz.ntmps21 (by simp) hp hF ?_
   refine XK.openFm 0 rfl fun L => ?_
   dsimp only [List.set, fmC]
   refine XK.go ?_
   refine kcall (fun w1 t => known_any 0 w1) ?_
   refine XK.go ?_
   refine kd (datA 0 11) ?_
   refine XK.go ?_
   refine XK.if_ rfl (fun hb => ?_) (fun hb => ?_)
   ·have hr : readW z 0 = none := by simp [readW, hb]
    have hz : readZ z 0 = z := by simp [readZ, hb]
    rw [hr, hz]
    unfold readH
    dsimp only [Option.getD]
    refine XK.go ?_
    refine XK.closeFm L 0 rfl ?_
    dsimp only [List.set]
    refine XK.chunk0 (p := HP.pic (BxP (none, 0) []) (BxP.le (a := (none, 0)) (l := []))) hemp ?_
    refine XK.weak [1, 0] rfl (by decide) (fun _ h => h) ?_
    refine XK.pair ?_
    exact XK.ret2 rfl rfl rfl fun w1 t => ⟨(none, 0), rfl, trivial, t.turns hF (by simp) (i := 0) rfl⟩
   ·have hb2 : z.h0 = 2 := by simpa using hb
    have hr : readW z 0 = some z.w0 := by simp [readW, hb2]
    have hz : readZ z 0 = { z with h0 := 0, w0 := [] } := by simp [readZ, hb2]
    rw [hr, hz]
    unfold readH
    dsimp only [Option.getD]
    refine XK.go ?_
    refine kd (datA 0 11) ?_
    refine XK.go ?_
    refine xk_buildS (zs := [.int .i64 0, .slice none 0 0]) (L := [(0, 1), (1, 1)]) (zeroB_of (by kernel_rfl)) (by kernel_rfl) rfl (by simp [fillL, setN, Value.cells]; rfl) (by decide) ?_
    refine XK.go ?_
    refine kd (datA 0 11) ?_
    refine xk_storeN 0 (t := 150) rfl rfl rfl (by kernel_rfl) (by simp [Value.cells, Value.oneCell']) (by simp [Value.cells]) ?_
    dsimp only [List.set, Value.cells, putN]
    refine XK.go ?_
    refine XK.take 1 3 rfl rfl ?_
    dsimp only [List.set]
    refine XK.chunk0 (p := HP.pic (BxP (none, 0) []) (BxP.le (a := (none, 0)) (l := []))) hemp ?_
    refine XK.weak [0, 2, 3, 1] rfl (by decide) (fun _ h => h) ?_
    refine XK.give 1 3 rfl rfl ?_
    dsimp only [List.set]
    refine XK.closeFm (h := h) (s := s) (z := { z with h0 := 0, w0 := [] }) { L with b0 := (none, 0) } 0 rfl ?_
    dsimp only [List.set]
    refine XK.pair ?_
    exact XK.ret2 rfl rfl rfl fun w1 t => ⟨L.b0, rfl, trivial, t.turns hF (by simp) (i := 0) rfl⟩
  ·refine XK.enterM (p := FirmX f h s z) (F := F) (vs := [.pointer (some ⟨f, 0, none⟩), .int .i64 1]) Tryz.func21 rfl Tryz.ntmps21 (by simp) hp hF ?_
   refine XK.openFm 0 rfl fun L => ?_
   dsimp only [List.set, fmC]
   refine XK.go ?_
   refine kcall (fun w1 t => known_any 1 w1) ?_
   refine XK.go ?_
   refine kd (datA 1 13) ?_
   refine XK.go ?_
   refine XK.if_ rfl (fun hb => ?_) (fun hb => ?_)
   ·have hr : readW z 1 = none := by simp [readW, hb]
    have hz : readZ z 1 = z := by simp [readZ, hb]
    rw [hr, hz]
    unfold readH
    dsimp only [Option.getD]
    refine XK.go ?_
    refine XK.closeFm L 0 rfl ?_
    dsimp only [List.set]
    refine XK.chunk0 (p := HP.pic (BxP (none, 0) []) (BxP.le (a := (none, 0)) (l := []))) hemp ?_
    refine XK.weak [1, 0] rfl (by decide) (fun _ h => h) ?_
    refine XK.pair ?_
    exact XK.ret2 rfl rfl rfl fun w1 t => ⟨(none, 0), rfl, trivial, t.turns hF (by simp) (i := 0) rfl⟩
   ·have hb2 : z.h1 = 2 := by simpa using hb
    have hr : readW z 1 = some z.w1 := by simp [readW, hb2]
    have hz : readZ z 1 = { z with h1 := 0, w1 := [] } := by simp [readZ, hb2]
    rw [hr, hz]
    unfold readH
    dsimp only [Option.getD]
    refine XK.go ?_
    refine kd (datA 1 13) ?_
    refine XK.go ?_
    refine xk_buildS (zs := [.int .i64 0, .slice none 0 0]) (L := [(0, 1), (1, 1)]) (zeroB_of (by kernel_rfl)) (by kernel_rfl) rfl (by simp [fillL, setN, Value.cells]; rfl) (by decide) ?_
    refine XK.go ?_
    refine kd (datA 1 13) ?_
    refine xk_storeN 0 (t := 150) rfl rfl rfl (by kernel_rfl) (by simp [Value.cells, Value.oneCell']) (by simp [Value.cells]) ?_
    dsimp only [List.set, Value.cells, putN]
    refine XK.go ?_
    refine XK.take 1 4 rfl rfl ?_
    dsimp only [List.set]
    refine XK.chunk0 (p := HP.pic (BxP (none, 0) []) (BxP.le (a := (none, 0)) (l := []))) hemp ?_
    refine XK.weak [0, 2, 3, 1] rfl (by decide) (fun _ h => h) ?_
    refine XK.give 1 4 rfl rfl ?_
    dsimp only [List.set]
    refine XK.closeFm (h := h) (s := s) (z := { z with h1 := 0, w1 := [] }) { L with b1 := (none, 0) } 0 rfl ?_
    dsimp only [List.set]
    refine XK.pair ?_
    exact XK.ret2 rfl rfl rfl fun w1 t => ⟨L.b1, rfl, trivial, t.turns hF (by simp) (i := 0) rfl⟩
end
section
set_option maxHeartbeats 4000000
set_option maxRecDepth 20000
def fastC (c : Clk) (r : Int) : Int := if c.kind = 112 then (if 1099511627776 < r * c.mul / c.div then 1099511627776 else r * c.mul / c.div) else if c.kind = 100 then r / c.div else r
def fastN (s : Soc) : Nat → Nat → Int
 | 0, _ => 0
 | k + 1, i => match s.clocks[i]? with
  | none => 0
  | some c => if c.kind = 111 then c.rate else fastC c (match c.src with
   | [] => 0
   | f :: _ => fastN s k f.toNat)
def fast (s : Soc) (i : Nat) : Int := fastN s (i + 1) i
def rateI (s : Soc) (st : List CkS) (i : Int) : Int := if runI s st i then fast s i.toNat else 0
theorem fastN_fuel {s : Soc} (hf : Fits Clk.fit s.clocks) : ∀ (c k : Nat), c < k → fastN s k c = fastN s (c + 1) c := by
 intro c
 induction c using Nat.strongRecOn with
 | _ c ih =>
  intro k hk
  obtain ⟨k, rfl⟩ := Nat.exists_eq_add_of_lt hk
  rw [show c + k + 1 = (c + k) + 1 from rfl]
  unfold fastN
  cases hc : s.clocks[c]? with
  | none => rfl
  | some x =>
   dsimp only
   cases hs : x.src with
   | nil => rfl
   | cons f fs =>
    have hfit := (hf c x hc).1 f (by rw [hs]; simp)
    have h1 : f.toNat < c := by omega
    dsimp only
    rw [ih f.toNat h1 (c + k) (by omega), ih f.toNat h1 c h1]
theorem fast_eq {s : Soc} (hf : Fits Clk.fit s.clocks) {i : Nat} {c : Clk} (hc : s.clocks[i]? = some c) : fast s i = if c.kind = 111 then c.rate else fastC c (match c.src with
  | [] => 0
  | f :: _ => fast s f.toNat) := by
 unfold fast
 rw [fastN, hc]
 dsimp only
 cases hs : c.src with
 | nil => rfl
 | cons f fs =>
  have hfit := (hf i c hc).1 f (by rw [hs]; simp)
  dsimp only
  rw [fastN_fuel hf f.toNat i (by omega)]
theorem fast_bd {s : Soc} (hf : Fits Clk.fit s.clocks) : ∀ i : Nat, 0 ≤ fast s i ∧ fast s i ≤ 1099511627776 := by
 intro i
 induction i using Nat.strongRecOn with
 | _ i ih =>
  cases hc : s.clocks[i]? with
  | none => unfold fast fastN; rw [hc]; exact ⟨Int.le_refl 0, by show (0 : Int) ≤ 1099511627776; omega⟩
  | some c =>
   rw [fast_eq hf hc]
   obtain ⟨hsrc, hfit⟩ := hf i c hc
   have hr : 0 ≤ (match c.src with | [] => 0 | f :: _ => fast s f.toNat) ∧ (match c.src with | [] => 0 | f :: _ => fast s f.toNat) ≤ 1099511627776 := by
    cases hs : c.src with
    | nil => exact ⟨Int.le_refl 0, by show (0 : Int) ≤ 1099511627776; omega⟩
    | cons f fs =>
     have := hsrc f (by rw [hs]; simp)
     exact ih f.toNat (by omega)
   generalize (match c.src with | [] => 0 | f :: _ => fast s f.toNat) = r at hr
   rcases hfit with ⟨hk, _, h1, h2, _⟩ | ⟨hk, _, _, h1, h2, h3, h4, _⟩ | ⟨hk, _, _, _, h1, h2, _⟩ | ⟨hk, _⟩ | ⟨hk, _⟩
   ·rw [if_pos hk]; omega
   ·rw [if_neg (by omega), fastC, if_pos hk]
    have : 0 ≤ r * c.mul / c.div := Int.ediv_nonneg (Int.mul_nonneg hr.1 (by omega)) (by omega)
    split <;> omega
   ·rw [if_neg (by omega), fastC, if_neg (by omega), if_pos hk]
    have h5 : 0 ≤ r / c.div := Int.ediv_nonneg hr.1 (by omega)
    have h6 : r / c.div ≤ r := Int.ediv_le_self _ hr.1
    omega
   ·rw [if_neg (by omega), fastC, if_neg (by omega), if_neg (by omega)]; exact hr
   ·rw [if_neg (by omega), fastC, if_neg (by omega), if_neg (by omega)]; exact hr
theorem factor_any (n : Int) (h1 : 1 ≤ n) (h2 : n ≤ 1000) (w : World) : Calls Tryz.prog 229 #[.int .i64 n] w (Rt (.bool true) w) := by
 refine XK.enter (vs := [.int .i64 n]) Tryz.func229 rfl Tryz.ntmps229 (by simp) ?_
 refine XK.go ?_
 refine xk_split (t := 5) rfl (fun _ => ?_) (fun h => absurd h1 h)
 refine XK.go ?_
 refine XK.retE (by simp) ?_
 rw [decide_eq_true h2]
theorem scale_any (r m d : Int) (hr : 0 ≤ r ∧ r ≤ 1099511627776) (hm : 1 ≤ m ∧ m ≤ 8) (hd : 1 ≤ d ∧ d ≤ 4) (w : World) : Calls Tryz.prog 172 #[.int .u64 r, .int .i64 m, .int .i64 d] w (Rt (.tuple #[.int .u64 (if 1099511627776 < r * m / d then 0 else r * m / d), .int .i64 (if 1099511627776 < r * m / d then 3 else 0)]) w) := by
 have hmul : 0 ≤ r * m ∧ r * m ≤ 1099511627776 * 8 := ⟨Int.mul_nonneg hr.1 (by omega), Int.mul_le_mul hr.2 hm.2 (by omega) (by omega)⟩
 have hq : 0 ≤ r * m / d ∧ r * m / d ≤ r * m := ⟨Int.ediv_nonneg hmul.1 (by omega), Int.ediv_le_self _ hmul.1⟩
 refine XK.enter (vs := [.int .u64 r, .int .i64 m, .int .i64 d]) Tryz.func172 rfl Tryz.ntmps172 (by simp) ?_
 refine XK.go ?_
 refine xk_split (t := 11) rfl (fun h => absurd h (by omega)) (fun _ => ?_)
 refine XK.go ?_
 refine kcall (fun w1 t => factor_any m hm.1 (by omega) w1) ?_
 refine XK.go ?_
 refine kcall (fun w1 t => factor_any d hd.1 (by omega) w1) ?_
 refine XK.go ?_
 refine xk_conv (ds := .int .i64) (kd := .u64) (by kernel_rfl) (by kernel_rfl) rfl (wrap_u64 (by omega)) (by decide) ?_
 refine xk_mul rfl rfl (c := r * m) (wrap_u64 (by omega)) (by decide) ?_
 refine XK.go ?_
 refine xk_conv (ds := .int .i64) (kd := .u64) (by kernel_rfl) (by kernel_rfl) rfl (wrap_u64 (by omega)) (by decide) ?_
 refine xk_quo rfl rfl (c := r * m / d) (by omega) (by rw [Int.tdiv_eq_ediv_of_nonneg hmul.1]; exact wrap_u64 (by omega)) (by decide) ?_
 refine XK.go ?_
 refine XK.if_ rfl (fun h => ?_) (fun h => ?_)
 ·rw [if_pos h, if_pos h]
  refine XK.go ?_
  exact XK.ret2 rfl rfl rfl fun w1 t => ⟨rfl, t.below (by simp)⟩
 ·rw [if_neg h, if_neg h]
  refine XK.go ?_
  exact XK.ret2 rfl rfl rfl fun w1 t => ⟨rfl, t.below (by simp)⟩
theorem clkFast_in (L : TL) (s : Soc) (st : List CkS) (hH : s.okH) (b1 b2 : Nat) : ∀ (i : Nat), i < s.clocks.length → ∀ w, TreeR w L s st → ROc w b1 0 (.pointer (some ⟨L.t, 0, none⟩)) → ROc w b2 0 (.func (.func 171) #[] #[.pointer (some ⟨b1, 0, none⟩), .pointer (some ⟨b2, 0, none⟩)]) →
  Calls Tryz.prog 171 #[.int .i64 (i : Int), .pointer (some ⟨b1, 0, none⟩), .pointer (some ⟨b2, 0, none⟩)] w (Rt (.int .u64 (fast s i)) w) := by
 intro i
 induction i using Nat.strongRecOn with
 | _ i ih =>
  intro hlt w hR hb1 hb2
  obtain ⟨b, off, c, a, x, hc, hx, hA, hro, hs⟩ := hR.node hlt
  have hfe := fast_eq hH.t.clocks hc
  have h0 := hR.r0
  rw [hA] at h0
  have k0 := hro.at_ (j := 0) rfl
  have k2 := hro.at_ (j := 2) rfl
  have k3 := hro.at_ (j := 3) rfl
  have k4 := hro.at_ (j := 4) rfl
  have k10 := hro.at_ (j := 10) rfl
  have go1 : ∀ {w1}, Below w.heap.size w w1 → ROc w1 b1 0 (.pointer (some ⟨L.t, 0, none⟩)) := fun hb => ⟨Nat.lt_of_lt_of_le hb1.1 hb.size, (hb.cell (p := ⟨_, 0, none⟩) hb1.1).trans hb1.2⟩
  have go2 : ∀ {w1}, Below w.heap.size w w1 → ROc w1 b2 0 (.func (.func 171) #[] #[.pointer (some ⟨b1, 0, none⟩), .pointer (some ⟨b2, 0, none⟩)]) := fun hb => ⟨Nat.lt_of_lt_of_le hb2.1 hb.size, (hb.cell (p := ⟨_, 0, none⟩) hb2.1).trans hb2.2⟩
  obtain ⟨hsrc, hfit⟩ := hH.t.clocks i c hc
  refine XK.enter (vs := [.int .i64 (i : Int), .pointer (some ⟨b1, 0, none⟩), .pointer (some ⟨b2, 0, none⟩)]) Tryz.func171 rfl Tryz.ntmps171 (by simp) ?_
  refine XK.go ?_
  refine kd (dat i (off + i * 11)) ?_
  rcases hfit with ⟨hk, hs0, _⟩ | hfit
  ·rw [hk] at k0
   rw [if_pos hk] at hfe
   refine XK.go ?_
   exact XK.retE (by simp) (by rw [hfe])
  obtain ⟨f, fs, hf⟩ : ∃ (f : Nat) (fs : List Int), c.src = (f : Int) :: fs := by
   cases hs0 : c.src with
   | nil => rw [hs0] at hfit; simp at hfit
   | cons f fs => exact ⟨f.toNat, fs, by have := (hsrc f (by rw [hs0]; simp)).1; rw [Int.toNat_of_nonneg this]⟩
  have hfi : f < i := by have := (hsrc f (by rw [hf]; simp)).2; omega
  have hfb := fast_bd hH.t.clocks f
  have hcall1 : ∀ w1, Below w.heap.size w w1 → Calls Tryz.prog 167 #[.pointer (some ⟨L.t, 0, none⟩), .int .i64 (i : Int)] w1 (Rt (.int .i64 (f : Int)) w1) := fun w1 hb => clkSource_any L s st i f c fs w1 (hR.below hb) hc hf
  have hcall2 : ∀ w1, Below w.heap.size w w1 → Calls Tryz.prog 171 #[.int .i64 (f : Int), .pointer (some ⟨b1, 0, none⟩), .pointer (some ⟨b2, 0, none⟩)] w1 (Rt (.int .u64 (fast s f)) w1) := fun w1 hb => ih f hfi (by omega) w1 (hR.below hb) (go1 hb) (go2 hb)
  rw [hf] at hfe
  have hfe2 : fast s i = if c.kind = 111 then c.rate else fastC c (fast s f) := hfe
  clear hfe
  rcases hfit with ⟨hk, _, _, hm1, hm2, hd1, hd2, _⟩ | ⟨hk, _, _, _, hd1, hd2, _⟩ | ⟨hk, _⟩ | ⟨hk, _⟩
  ·rw [hk] at k0
   rw [if_neg (by omega), fastC, if_pos hk] at hfe2
   refine XK.go ?_
   refine XK.drawQ ?_
   refine XQ.go ?_
   refine XQ.call (fun w1 t => hcall1 w1 (t.below (by simp))) ?_
   refine XQ.callC (fi := []) (vs := [.int .i64 (f : Int)]) (ca := [.pointer (some ⟨b1, 0, none⟩), .pointer (some ⟨b2, 0, none⟩)]) (fun w1 t => hcall2 w1 (t.below (by simp))) ?_
   refine XQ.end_ ?_
   refine XK.go ?_
   refine XK.drawQ ?_
   refine XQ.go ?_
   refine XQ.call (fun w1 t => scale_any _ c.mul c.div hfb ⟨hm1, hm2⟩ ⟨hd1, hd2⟩ w1) ?_
   refine XQ.end_ ?_
   refine XK.go ?_
   by_cases hq : 1099511627776 < fast s f * c.mul / c.div
   ·rw [if_pos hq] at hfe2
    rw [if_pos hq, if_pos hq]
    refine XK.go ?_
    exact XK.retE (by simp) (by rw [hfe2])
   ·rw [if_neg hq] at hfe2
    rw [if_neg hq, if_neg hq]
    refine XK.go ?_
    exact XK.retE (by simp) (by rw [hfe2])
  ·rw [hk] at k0
   rw [if_neg (by omega), fastC, if_neg (by omega), if_pos hk] at hfe2
   have hby : byF c = c.div := by rw [byF, if_pos hk]
   rw [hby] at k10
   have hq : 0 ≤ fast s f / c.div ∧ fast s f / c.div ≤ fast s f := ⟨Int.ediv_nonneg hfb.1 (by omega), Int.ediv_le_self _ hfb.1⟩
   refine XK.go ?_
   refine XK.drawQ ?_
   refine XQ.go ?_
   refine XQ.call (fun w1 t => hcall1 w1 (t.below (by simp))) ?_
   refine XQ.callC (fi := []) (vs := [.int .i64 (f : Int)]) (ca := [.pointer (some ⟨b1, 0, none⟩), .pointer (some ⟨b2, 0, none⟩)]) (fun w1 t => hcall2 w1 (t.below (by simp))) ?_
   refine XQ.end_ ?_
   refine XK.go ?_
   refine xk_conv (ds := .int .i64) (kd := .u64) (by kernel_rfl) (by kernel_rfl) rfl (wrap_u64 (by omega)) (by decide) ?_
   refine xk_quo rfl rfl (c := fast s f / c.div) (by omega) (by rw [Int.tdiv_eq_ediv_of_nonneg hfb.1]; exact wrap_u64 (by omega)) (by decide) ?_
   refine XK.go ?_
   exact XK.retE (by simp) (by rw [hfe2])
  ·rw [hk] at k0
   rw [if_neg (by omega), fastC, if_neg (by omega), if_neg (by omega)] at hfe2
   refine XK.go ?_
   refine XK.drawQ ?_
   refine XQ.go ?_
   refine XQ.call (fun w1 t => hcall1 w1 (t.below (by simp))) ?_
   refine XQ.callC (fi := []) (vs := [.int .i64 (f : Int)]) (ca := [.pointer (some ⟨b1, 0, none⟩), .pointer (some ⟨b2, 0, none⟩)]) (fun w1 t => hcall2 w1 (t.below (by simp))) ?_
   refine XQ.end_ ?_
   refine XK.go ?_
   exact XK.retE (by simp) (by rw [hfe2])
  ·rw [hk] at k0
   rw [if_neg (by omega), fastC, if_neg (by omega), if_neg (by omega)] at hfe2
   refine XK.go ?_
   refine XK.drawQ ?_
   refine XQ.go ?_
   refine XQ.call (fun w1 t => hcall1 w1 (t.below (by simp))) ?_
   refine XQ.callC (fi := []) (vs := [.int .i64 (f : Int)]) (ca := [.pointer (some ⟨b1, 0, none⟩), .pointer (some ⟨b2, 0, none⟩)]) (fun w1 t => hcall2 w1 (t.below (by simp))) ?_
   refine XQ.end_ ?_
   refine XK.go ?_
   exact XK.retE (by simp) (by rw [hfe2])
theorem clkRate_any (L : TL) (s : Soc) (st : List CkS) (hH : s.okH) (i : Int) (w : World) (hR : TreeR w L s st) :
  Calls Tryz.prog 87 #[.pointer (some ⟨L.t, 0, none⟩), .int .i64 i] w (Rt (.int .u64 (rateI s st i)) w) := by
 unfold rateI
 cases hr : runI s st i
 ·rw [if_neg (by decide)]
  refine XK.enter (vs := [.pointer (some ⟨L.t, 0, none⟩), .int .i64 i]) Tryz.func87 rfl Tryz.ntmps87 (by simp) ?_
  refine XK.go ?_
  refine xk_box rfl (by decide) fun g1 => ?_
  refine XK.go ?_
  refine kcall (fun w1 t => clkRunning_any L s st hH i w1 (hR.below (t.below (by simp)))) ?_
  rw [hr]
  refine XK.go ?_
  exact XK.retE (by simp) rfl
 ·rw [if_pos rfl]
  have hi : inB s.clocks.length i = true := by
   unfold runI at hr
   exact (Bool.and_eq_true _ _ ▸ hr).1
  obtain ⟨n, rfl⟩ : ∃ n : Nat, i = n := ⟨i.toNat, by have := of_decide_eq_true hi; omega⟩
  have hlt : n < s.clocks.length := by have := of_decide_eq_true hi; omega
  refine XK.enter (vs := [.pointer (some ⟨L.t, 0, none⟩), .int .i64 (n : Int)]) Tryz.func87 rfl Tryz.ntmps87 (by simp) ?_
  refine XK.go ?_
  refine xk_box rfl (by decide) fun g1 => ?_
  refine XK.go ?_
  refine kcall (fun w1 t => clkRunning_any L s st hH n w1 (hR.below (t.below (by simp)))) ?_
  rw [hr]
  refine XK.go ?_
  refine xk_alloc (cs := [.nilFunc]) (zeroB_of (by kernel_rfl)) (by decide) fun g2 => ?_
  refine XK.go ?_
  refine xk_func (vf := []) (vc := [.pointer (some ⟨g1, 0, none⟩), .pointer (some ⟨g2, 0, none⟩)]) rfl rfl (by decide) ?_
  refine XK.go ?_
  refine kcallC (fi := []) (vs := [.int .i64 (n : Int)]) (ca := [.pointer (some ⟨g1, 0, none⟩), .pointer (some ⟨g2, 0, none⟩)]) (fun w1 t => clkFast_in L s st hH g1 g2 n hlt w1 (hR.below (t.below (by simp))) ((t.box (i := 1) rfl).at_ (j := 0) rfl) ((t.box (i := 0) rfl).at_ (j := 0) rfl)) ?_
  refine XK.go ?_
  exact XK.retE (by simp) rfl
end
section
set_option maxHeartbeats 4000000
set_option maxRecDepth 20000
def moreF (s : Soc) (x : HwS) (l : List Int) : List Int :=
 let w := l.headD 0
 if getZ w 0 8 = 0 then [131072]
 else if getZ w 10 8 = 16 ∧ getZ w 0 8 = 1 then [IntKind.u32.wrap (s.domains.length + s.clocks.length * 256 + s.resets.length * 65536 + s.devs.length * 16777216)]
 else if getZ w 10 8 = 17 ∧ getZ w 0 8 = 5 then [phN (phaseF x.dm (l.getD 1 0))]
 else if getZ w 10 8 = 20 ∧ getZ w 0 8 = 6 then [IntKind.u32.wrap (rateI s x.ck (l.getD 1 0)), IntKind.u32.wrap (rateI s x.ck (l.getD 1 0) / 4294967296)] else []
theorem hdRate_any (L : HL) (s : Soc) (x : HwS) (w : World) (hH : s.okH) (i : Int) (hR : HardR w L s x) : Calls Tryz.prog 27 #[.pointer (some ⟨L.h, 0, none⟩), .int .i64 i] w (Rt (.int .u64 (rateI s x.ck i)) w) := by
 have k0 := hR.r0.at_ (j := 0) rfl
 refine XK.enter (vs := [.pointer (some ⟨L.h, 0, none⟩), .int .i64 i]) Tryz.func27 rfl Tryz.ntmps27 (by simp) ?_
 refine XK.go ?_
 refine kcall (fun w1 t => hdMade_any L s x w1 (hR.below (t.below (by simp)))) ?_
 refine XK.go ?_
 refine kcall (fun w1 t => clkRate_any L.T s x.ck hH i w1 (hR.tree.below (t.below (by simp)))) ?_
 refine XK.go ?_
 exact XK.retE (by simp) rfl
theorem cell_mid {α : Type} {cs vs : List α} {o : Nat} (hv : (cs.drop o).take vs.length = vs) {j : Nat} {v : α} (hj : vs[j]? = some v) : cs[o + j]? = some v := by
 have hlt := (List.getElem?_eq_some_iff.1 hj).1
 rw [← hv, List.getElem?_take_of_lt hlt, List.getElem?_drop] at hj
 exact hj
theorem fmMore_any (f : Nat) (L : FmL) (s : Soc) (z : FmS) (hL : HL) (x : HwS) (hH : s.okH) (hdm : DmOk s x.dm) (A : Option Addr) (c : Nat) (v : Int) (l : List Int) (w : World) (hR : FirmR w f hL.h L s z) (hh : HardR w hL s x) (hs : SlS (all w) 1 A (v :: l).length (u32Cells (v :: l)))
  (hu : getZ v 28 4 = 0) (hph : (getZ v 10 8 = 17 ∧ getZ v 0 8 = 5) ∨ (getZ v 10 8 = 20 ∧ getZ v 0 8 = 6) → ∃ i, l = [i] ∧ 0 ≤ i ∧ i < 4294967296) :
  Calls Tryz.prog 158 #[.pointer (some ⟨f, 0, none⟩), .slice A (v :: l).length c] w (fun y w' => (∃ r, y = .returned r ∧ RowOk (moreF s x (v :: l)) r w w') ∧ Below w.heap.size w w') := by
 obtain ⟨b, off, rfl, hro⟩ := SlS.u32 hs (by simp)
 have k0 := hro 0 v rfl
 have hlen : (v :: l).length = l.length + 1 := rfl
 have hE : unpackE v = 0 := by rw [unpackE, if_neg (by simp [hu])]
 have hU : unpackH v = headC (getZ v 0 8) (getZ v 8 2) (getZ v 10 8) (getZ v 18 10) := by rw [unpackH, if_neg (by simp [hu])]
 have kf := hR.r0.at_ (j := 0) rfl
 have k4 : ROn w f 1 [.slice L.a1.1 s.clocks.length L.a1.2, .slice L.a2.1 s.domains.length L.a2.2, .slice L.a3.1 s.resets.length L.a3.2, .slice L.a4.1 s.devs.length L.a4.2] := ⟨hR.r0.1, fun j v hj => by
  have := hR.r0.2 (1 + j) v (cell_mid rfl hj)
  rwa [Nat.zero_add] at this⟩
 have hnc := hH.t.nc
 have hnd := hH.t.nd
 have hnr := hH.t.nr
 have hnv := hH.t.nv
 refine XK.enter (vs := [.pointer (some ⟨f, 0, none⟩), .slice (some ⟨b, off, none⟩) (v :: l).length c]) Tryz.func158 rfl Tryz.ntmps158 (by simp) ?_
 refine XK.go ?_
 refine kd (dat 0 off) ?_
 refine XK.go ?_
 refine kcall (fun w1 t => unpack_any v w1) ?_
 rw [hE, hU]
 dsimp only [headC]
 refine XK.go ?_
 refine xk_alloc (cs := [.int .i64 0, .int .i64 0, .int .i64 0, .int .i64 0]) (zeroB_of (by kernel_rfl)) (by decide) fun g1 => ?_
 refine XK.go ?_
 refine XK.if_ rfl (fun h1 => ?_) (fun h1 => ?_)
 ·have hm : moreF s x (v :: l) = [131072] := if_pos (by simpa using h1)
  rw [hm]
  refine XK.go ?_
  refine xk_slice (el := 44) (sz := 1) (zs := [.int .u32 0]) (by kernel_rfl) (zeroB_of (by kernel_rfl)) (by kernel_rfl) rfl (by decide) (by decide) rfl (by simp [fillL, setN, Value.cells, List.range_succ, List.set]; rfl) (by decide) fun g2 => ?_
  refine XK.go ?_
  refine XK.still [] [0] [] (by simp) rfl (by decide) (by decide) fun q hq _ hfr => ?_
  obtain ⟨F2, sf2, zf2⟩ := hq 0 _ (by simp) rfl
  have hsm := SlS.of_blk (Y := q.Z) (sz := 1) (n := 1) (c := 1) sf2 zf2 rfl
  exact XK.ret1 rfl rfl fun w1 st => ⟨⟨_, rfl, _, _, rfl, SlS.le hsm (st.fresh_le (by simp) (hfr (by simp) (by simp)))⟩, st.below (by simp)⟩
 ·have n1 : getZ v 0 8 ≠ 0 := by simpa using h1
  refine XK.go ?_
  refine xk_split (t := 26) rfl (fun h2 => ?_) (fun h2 => ?_)
  ·have p1 : getZ v 10 8 = 16 := by simpa using h2
   refine XK.go ?_
   refine XK.if_ rfl (fun h3 => ?_) (fun h3 => ?_)
   ·have m1 : getZ v 0 8 = 1 := by simpa using h3
    have hm : moreF s x (v :: l) = [IntKind.u32.wrap (s.domains.length + s.clocks.length * 256 + s.resets.length * 65536 + s.devs.length * 16777216)] := (if_neg n1).trans (if_pos ⟨p1, m1⟩)
    rw [hm]
    refine XK.go ?_
    refine xk_alloc (cs := [.slice none 0 0, .slice none 0 0, .slice none 0 0, .slice none 0 0]) (zeroB_of (by kernel_rfl)) (by decide) fun g2 => ?_
    refine XK.go ?_
    refine xk_shl rfl rfl (c := s.clocks.length * 256) (by decide) (by show IntKind.i64.wrap ((s.clocks.length : Int) * 256) = _; exact wrap_in (by omega)) (by decide) ?_
    refine XK.go ?_
    refine xk_shl rfl rfl (c := s.resets.length * 65536) (by decide) (by show IntKind.i64.wrap ((s.resets.length : Int) * 65536) = _; exact wrap_in (by omega)) (by decide) ?_
    refine XK.go ?_
    refine xk_shl rfl rfl (c := s.devs.length * 16777216) (by decide) (by show IntKind.i64.wrap ((s.devs.length : Int) * 16777216) = _; exact wrap_in (by omega)) (by decide) ?_
    refine XK.go ?_
    refine xk_conv (ds := .int .i64) (kd := .u32) (by kernel_rfl) (by kernel_rfl) rfl rfl (by decide) ?_
    refine xk_slice (el := 44) (sz := 1) (zs := [.int .u32 0]) (by kernel_rfl) (zeroB_of (by kernel_rfl)) (by kernel_rfl) rfl (by decide) (by decide) rfl (by simp [fillL, setN, Value.cells, List.range_succ, List.set]; rfl) (by decide) fun g3 => ?_
    refine XK.go ?_
    refine XK.still [] [0] [] (by simp) rfl (by decide) (by decide) fun q hq _ hfr => ?_
    obtain ⟨F2, sf2, zf2⟩ := hq 0 _ (by simp) rfl
    have hsm := SlS.of_blk (Y := q.Z) (sz := 1) (n := 1) (c := 1) sf2 zf2 rfl
    exact XK.ret1 rfl rfl fun w1 st => ⟨⟨_, rfl, _, _, rfl, SlS.le hsm (st.fresh_le (by simp) (hfr (by simp) (by simp)))⟩, st.below (by simp)⟩
   ·have m1 : getZ v 0 8 ≠ 1 := by simpa using h3
    have hm : moreF s x (v :: l) = [] := (if_neg n1).trans ((if_neg fun h => m1 h.2).trans ((if_neg fun h => by have := h.1; simp [p1] at this).trans (if_neg fun h => by have := h.1; simp [p1] at this)))
    rw [hm]
    refine XK.go ?_
    refine xk_split (t := 60) rfl (fun h4 => absurd h4 (by simp [p1])) (fun _ => ?_)
    refine XK.go ?_
    refine xk_split (t := 80) rfl (fun h4 => absurd h4 (by simp [p1])) (fun _ => ?_)
    refine XK.go ?_
    exact XK.ret1 rfl rfl fun w1 st => ⟨⟨_, rfl, _, _, rfl, rfl, fun h => absurd h (by simp)⟩, st.below (by simp)⟩
  ·have p1 : getZ v 10 8 ≠ 16 := by simpa using h2
   refine XK.go ?_
   refine xk_split (t := 60) rfl (fun h3 => ?_) (fun h3 => ?_)
   ·have p2 : getZ v 10 8 = 17 := by simpa using h3
    refine XK.go ?_
    refine XK.if_ rfl (fun h4 => ?_) (fun h4 => ?_)
    ·have m1 : getZ v 0 8 = 5 := by simpa using h4
     obtain ⟨i, rfl, hi1, hi2⟩ := hph (.inl ⟨p2, m1⟩)
     have hlen2 : [v, i].length = 2 := rfl
     have hm : moreF s x [v, i] = [phN (phaseF x.dm i)] := (if_neg n1).trans ((if_neg fun h => p1 h.1).trans (if_pos ⟨p2, m1⟩))
     have k1 := hro 1 i rfl
     rw [hm]
     refine XK.go ?_
     refine XK.drawB [1, 2, 3, 5, 6, 7] ?_
     refine XB.mv 0 ?_
     refine XB.mv 4 ?_
     refine XB.q 1 ?_
     refine XB.q 2 ?_
     refine XB.q 3 ?_
     refine XB.q 5 ?_ (hdo := dat (sz := 1) 1 (off + 1))
     refine XB.q 6 ?_
     refine XB.q 7 ?_ (hdo := does_conv (ds := .int .u32) (by kernel_rfl) (by kernel_rfl) rfl (wrap_in (by omega)))
     refine XB.next 8 rfl (by kernel_rfl) ?_
     refine kcall (fun w1 t => hdPhase_any hL s x w1 hdm i (hh.below (t.below (by simp)))) ?_
     refine XB.bt ?_
     refine XB.next 9 rfl (by kernel_rfl) ?_
     refine kcall (fun w1 t => fmPhase_any _ w1) ?_
     refine XB.bt ?_
     refine XB.next 10 rfl (by kernel_rfl) ?_
     refine xk_slice (el := 44) (sz := 1) (zs := [.int .u32 0]) (by kernel_rfl) (zeroB_of (by kernel_rfl)) (by kernel_rfl) rfl (by decide) (by decide) rfl (by simp [fillL, setN, Value.cells, List.range_succ, List.set]; rfl) (by decide) fun g2 => ?_
     refine XB.bt ?_
     refine XB.next 11 rfl (by kernel_rfl) ?_
     refine kdo ?_
     refine XB.bt ?_
     refine XB.done (by kernel_rfl) ?_
     refine XK.go ?_
     refine XK.still [] [0] [] (by simp) rfl (by decide) (by decide) fun q hq _ hfr => ?_
     obtain ⟨F2, sf2, zf2⟩ := hq 0 _ (by simp) rfl
     have hsm := SlS.of_blk (Y := q.Z) (sz := 1) (n := 1) (c := 1) sf2 zf2 rfl
     exact XK.ret1 rfl rfl fun w1 st => ⟨⟨_, rfl, _, _, rfl, SlS.le hsm (st.fresh_le (by simp) (hfr (by simp) (by simp)))⟩, st.below (by simp)⟩
    ·have m1 : getZ v 0 8 ≠ 5 := by simpa using h4
     have hm : moreF s x (v :: l) = [] := (if_neg n1).trans ((if_neg fun h => p1 h.1).trans ((if_neg fun h => m1 h.2).trans (if_neg fun h => by have := h.1; simp [p2] at this)))
     rw [hm]
     refine XK.go ?_
     refine xk_split (t := 80) rfl (fun h4 => absurd h4 (by simp [p2])) (fun _ => ?_)
     refine XK.go ?_
     exact XK.ret1 rfl rfl fun w1 st => ⟨⟨_, rfl, _, _, rfl, rfl, fun h => absurd h (by simp)⟩, st.below (by simp)⟩
   ·have p2 : getZ v 10 8 ≠ 17 := by simpa using h3
    refine XK.go ?_
    refine xk_split (t := 80) rfl (fun h5 => ?_) (fun h5 => ?_)
    ·have p3 : getZ v 10 8 = 20 := by simpa using h5
     refine XK.go ?_
     refine XK.if_ rfl (fun h6 => ?_) (fun h6 => ?_)
     ·have m1 : getZ v 0 8 = 6 := by simpa using h6
      obtain ⟨i, rfl, hi1, hi2⟩ := hph (.inr ⟨p3, m1⟩)
      have hlen2 : [v, i].length = 2 := rfl
      have hm : moreF s x [v, i] = [IntKind.u32.wrap (rateI s x.ck i), IntKind.u32.wrap (rateI s x.ck i / 4294967296)] := (if_neg n1).trans ((if_neg fun h => p1 h.1).trans ((if_neg fun h => p2 h.1).trans (if_pos ⟨p3, m1⟩)))
      have k1 := hro 1 i rfl
      rw [hm]
      refine XK.go ?_
      refine XK.drawB [1, 2, 3, 5, 6, 7] ?_
      refine XB.mv 0 ?_
      refine XB.mv 4 ?_
      refine XB.q 1 ?_
      refine XB.q 2 ?_
      refine XB.q 3 ?_
      refine XB.q 5 ?_ (hdo := dat (sz := 1) 1 (off + 1))
      refine XB.q 6 ?_
      refine XB.q 7 ?_ (hdo := does_conv (ds := .int .u32) (by kernel_rfl) (by kernel_rfl) rfl (wrap_in (by omega)))
      refine XB.next 8 rfl (by kernel_rfl) ?_
      refine kcall (fun w1 t => hdRate_any hL s x w1 hH i (hh.below (t.below (by simp)))) ?_
      refine XB.bt ?_
      refine XB.next 9 rfl (by kernel_rfl) ?_
      refine kdo ?_
      refine XB.bt ?_
      refine XB.done (by kernel_rfl) ?_
      refine XK.go ?_
      refine xk_conv (ds := .int .u64) (kd := .u32) (by kernel_rfl) (by kernel_rfl) rfl rfl (by decide) ?_
      refine XK.go ?_
      refine xk_shr rfl rfl (c := rateI s x.ck i / 4294967296) (by decide) (by show Int.fdiv _ (2 ^ 32) = _; rw [Int.fdiv_eq_ediv_of_nonneg _ (by decide)]; rfl) (by decide) ?_
      refine xk_conv (ds := .int .u64) (kd := .u32) (by kernel_rfl) (by kernel_rfl) rfl rfl (by decide) ?_
      refine xk_slice (el := 44) (sz := 1) (zs := [.int .u32 0]) (by kernel_rfl) (zeroB_of (by kernel_rfl)) (by kernel_rfl) rfl (by decide) (by decide) rfl (by simp [fillL, setN, Value.cells, List.range_succ, List.set]; rfl) (by decide) fun g2 => ?_
      refine XK.go ?_
      refine XK.still [] [0] [] (by simp) rfl (by decide) (by decide) fun q hq _ hfr => ?_
      obtain ⟨F2, sf2, zf2⟩ := hq 0 _ (by simp) rfl
      have hsm := SlS.of_blk (Y := q.Z) (sz := 1) (n := 2) (c := 2) sf2 zf2 rfl
      exact XK.ret1 rfl rfl fun w1 st => ⟨⟨_, rfl, _, _, rfl, SlS.le hsm (st.fresh_le (by simp) (hfr (by simp) (by simp)))⟩, st.below (by simp)⟩
     ·have m1 : getZ v 0 8 ≠ 6 := by simpa using h6
      have hm : moreF s x (v :: l) = [] := (if_neg n1).trans ((if_neg fun h => p1 h.1).trans ((if_neg fun h => p2 h.1).trans (if_neg fun h => m1 h.2)))
      rw [hm]
      refine XK.go ?_
      exact XK.ret1 rfl rfl fun w1 st => ⟨⟨_, rfl, _, _, rfl, rfl, fun h => absurd h (by simp)⟩, st.below (by simp)⟩
    ·have p3 : getZ v 10 8 ≠ 20 := by simpa using h5
     have hm : moreF s x (v :: l) = [] := (if_neg n1).trans ((if_neg fun h => p1 h.1).trans ((if_neg fun h => p2 h.1).trans (if_neg fun h => p3 h.1)))
     rw [hm]
     refine XK.go ?_
     exact XK.ret1 rfl rfl fun w1 st => ⟨⟨_, rfl, _, _, rfl, rfl, fun h => absurd h (by simp)⟩, st.below (by simp)⟩
end
section
set_option maxHeartbeats 4000000
set_option maxRecDepth 20000
def MachH (f : Nat) (hL : HL) (s : Soc) (z : FmS) (x : HwS) : HP := HP.many [FirmX f hL.h s z, HardH hL s x]
def boxW (z : FmS) (a : Nat) : List Int := if a = 0 then z.w0 else z.w1
def answF (s : Soc) (x : HwS) (l : List Int) (st : Int) : List Int := l.headD 0 :: IntKind.u32.wrap st :: (if st = 0 then moreF s x l else [])
def putBox (z : FmS) (a : Nat) (hs : Int) (l : List Int) : FmS := if a = 0 then { z with h0 := hs, w0 := l } else { z with h1 := hs, w1 := l }
def replyF (s : Soc) (x : HwS) (z : FmS) (a : Nat) (st : Int) : FmS := putBox z a 2 (answF s x (boxW z a) st)
structure ReplyOk (l : List Int) : Prop where
 ne : ∃ v r, l = v :: r ∧ getZ v 28 4 = 0 ∧ ((getZ v 10 8 = 17 ∧ getZ v 0 8 = 5) ∨ (getZ v 10 8 = 20 ∧ getZ v 0 8 = 6) → ∃ i, r = [i] ∧ 0 ≤ i ∧ i < 4294967296)
theorem moreF_len (s : Soc) (x : HwS) (l : List Int) : (moreF s x l).length ≤ 2 := by
 unfold moreF
 dsimp only
 split
 ·simp
 ·split
  ·simp
  ·split
   ·simp
   ·split <;> simp
section
variable {N : Frm} {w0 w : World} {e : Env} {R : List Piece} {H : List HP} {K : Act → World → Prop} {f h : Nat} {L : FmL} {s : Soc} {z : FmS} {v : Int} {r : List Int}
theorem BxP.at_ {a : AC} {w : World} (hb : BxP a (v :: r) (all w)) : ∃ b off, a.1 = some ⟨b, off, none⟩ ∧ w.cell? ⟨b, off, none⟩ = some (.int .u32 v) := by
 obtain ⟨b, off, hA, hc⟩ := SlS.u32 hb (by simp)
 exact ⟨b, off, hA, by have := (hc 0 v rfl).2; simpa using this⟩
theorem XK.box0 (i : Nat) (hi : H[i]? = some (FirmH f h L s z)) (hw : z.w0 = v :: r) (k : ∀ b off, L.b0.1 = some ⟨b, off, none⟩ → Rd w0 R H b off (.int .u32 v) → XK N w0 K e R H) : XK N w0 K e R H := fun a w hr st => by
 obtain ⟨b, off, hA, _⟩ := BxP.at_ (hw ▸ (st.firmR i hi).b0)
 refine k b off hA (fun w1 t => ?_) a w hr st
 obtain ⟨b', off', hA', hc⟩ := BxP.at_ (hw ▸ (t.firmR i hi).b0)
 rw [hA] at hA'
 cases hA'
 exact hc
theorem XK.box1 (i : Nat) (hi : H[i]? = some (FirmH f h L s z)) (hw : z.w1 = v :: r) (k : ∀ b off, L.b1.1 = some ⟨b, off, none⟩ → Rd w0 R H b off (.int .u32 v) → XK N w0 K e R H) : XK N w0 K e R H := fun a w hr st => by
 obtain ⟨b, off, hA, _⟩ := BxP.at_ (hw ▸ (st.firmR i hi).b1)
 refine k b off hA (fun w1 t => ?_) a w hr st
 obtain ⟨b', off', hA', hc⟩ := BxP.at_ (hw ▸ (t.firmR i hi).b1)
 rw [hA] at hA'
 cases hA'
 exact hc
end
theorem fmReplyN0_m (f : Nat) (hL : HL) (s : Soc) (z : FmS) (x : HwS) (hH : s.okH) (hLo : HLOk hL s) (hok : HwOk s x) (st : Int) (hw : z.w0 = []) (hst : st ≠ 0) (w : World) (F : Nat → Prop) (hp : (MachH f hL s z x).sat F w) (hF : ∀ b, F b → b < w.heap.size) :
  Calls Tryz.prog 76 #[.pointer (some ⟨f, 0, none⟩), .int .i64 0, .int .i32 st] w (fun y w' => y = .returned (.tuple #[]) ∧ ∃ F', (MachH f hL s (replyF s x z 0 st) x).sat F' w' ∧ Turns w w' F F') := by
 have hr : replyF s x z 0 st = { z with h0 := 2, w0 := [0, IntKind.u32.wrap st] } := by simp [replyF, putBox, answF, boxW, hw, hst]
 rw [hr]
 refine XK.enterM (p := MachH f hL s z x) (F := F) (vs := [.pointer (some ⟨f, 0, none⟩), .int .i64 0, .int .i32 st]) Tryz.func76 rfl Tryz.ntmps76 (by simp) hp hF ?_
 refine XK.take 0 0 rfl rfl ?_
 dsimp only [List.set]
 refine XK.openEx 0 rfl fun L => ?_
 dsimp only [List.set]
 refine XK.take 0 0 rfl rfl ?_
 dsimp only [List.set, fmC]
 refine XK.go ?_
 refine kd (datA 0 11) ?_
 refine XK.go ?_
 refine XK.give 0 0 rfl rfl ?_
 dsimp only [List.set]
 refine XK.if_ rfl (fun h => absurd h (by simp [hw])) (fun _ => ?_)
 refine XK.go ?_
 refine XK.if_ rfl (fun h => absurd h (by simpa using hst)) (fun _ => ?_)
 refine XK.go ?_
 refine XK.take 0 0 rfl rfl ?_
 dsimp only [List.set]
 refine XK.drawB [7, 8] ?_
 refine XB.mv 0 ?_
 refine XB.mv 1 ?_
 refine XB.mv 2 ?_
 refine XB.mv 3 ?_
 refine XB.mv 4 ?_
 refine XB.q 7 ?_
 refine XB.q 8 ?_
 refine XB.next 5 rfl (by kernel_rfl) ?_
 refine xk_callN (f := 159) (fi := []) (ca := []) (by kernel_rfl) rfl rfl (by decide) (RowN (0 :: IntKind.u32.wrap st :: [])) (fun w1 t => answer_any 0 st _ rfl none 0 0 [] w1 (⟨rfl, fun h => absurd h (by simp)⟩) rfl (by have := moreF_len s x z.w0; simp; try omega)) ?_
 rintro _ _ q9 ⟨An, cn, rfl, rfl⟩ _
 dsimp only [List.cons_append, List.nil_append]
 refine XB.bk ?_
 refine XB.next 6 rfl (by kernel_rfl) ?_
 refine xk_buildS (zs := [.int .i64 0, .slice none 0 0]) (L := [(0, 1), (1, 1)]) (zeroB_of (by kernel_rfl)) (by kernel_rfl) rfl (by simp [fillL, setN, Value.cells]; rfl) (by decide) ?_
 refine XB.bk ?_
 refine XB.next 9 rfl (by kernel_rfl) ?_
 refine kd (datA 0 11) ?_
 refine XB.bt ?_
 refine XB.next 10 rfl (by kernel_rfl) ?_
 refine xk_storeN 1 (t := 150) rfl rfl rfl (by kernel_rfl) (by simp [Value.cells, Value.oneCell']) (by simp [Value.cells, fmC]) ?_
 dsimp only [List.set, Value.cells, putN, fmC]
 refine XB.bt ?_
 refine XB.done (by kernel_rfl) ?_
 refine XK.ownPic 0 (Φ := BxP (An, cn) (0 :: IntKind.u32.wrap st :: [])) (hm := BxP.le) rfl (fun p hp => hp) ?_
 refine XK.take 2 3 rfl rfl ?_
 dsimp only [List.set]
 refine XK.weak [1, 2, 3, 4] rfl (by decide) (R' := [⟨w, fun b => b < w.heap.size ∧ ¬ F b⟩]) (by simp) ?_
 refine XK.give 1 3 rfl rfl ?_
 dsimp only [List.set]
 refine XK.closeFm (h := hL.h) (s := s) (z := { z with h0 := 2, w0 := 0 :: IntKind.u32.wrap st :: [] }) { L with b0 := (An, cn) } 0 rfl ?_
 dsimp only [List.set]
 refine XK.give 0 0 rfl rfl ?_
 dsimp only [List.set]
 exact XK.ret0 (.inr rfl) rfl fun w1 t => ⟨rfl, t.turns hF (by simp) (i := 0) rfl⟩
theorem fmReplyN1_m (f : Nat) (hL : HL) (s : Soc) (z : FmS) (x : HwS) (hH : s.okH) (hLo : HLOk hL s) (hok : HwOk s x) (st : Int) (hw : z.w1 = []) (hst : st ≠ 0) (w : World) (F : Nat → Prop) (hp : (MachH f hL s z x).sat F w) (hF : ∀ b, F b → b < w.heap.size) :
  Calls Tryz.prog 76 #[.pointer (some ⟨f, 0, none⟩), .int .i64 1, .int .i32 st] w (fun y w' => y = .returned (.tuple #[]) ∧ ∃ F', (MachH f hL s (replyF s x z 1 st) x).sat F' w' ∧ Turns w w' F F') := by
 have hr : replyF s x z 1 st = { z with h1 := 2, w1 := [0, IntKind.u32.wrap st] } := by simp [replyF, putBox, answF, boxW, hw, hst]
 rw [hr]
 refine XK.enterM (p := MachH f hL s z x) (F := F) (vs := [.pointer (some ⟨f, 0, none⟩), .int .i64 1, .int .i32 st]) Tryz.func76 rfl Tryz.ntmps76 (by simp) hp hF ?_
 refine XK.take 0 0 rfl rfl ?_
 dsimp only [List.set]
 refine XK.openEx 0 rfl fun L => ?_
 dsimp only [List.set]
 refine XK.take 0 0 rfl rfl ?_
 dsimp only [List.set, fmC]
 refine XK.go ?_
 refine kd (datA 1 13) ?_
 refine XK.go ?_
 refine XK.give 0 0 rfl rfl ?_
 dsimp only [List.set]
 refine XK.if_ rfl (fun h => absurd h (by simp [hw])) (fun _ => ?_)
 refine XK.go ?_
 refine XK.if_ rfl (fun h => absurd h (by simpa using hst)) (fun _ => ?_)
 refine XK.go ?_
 refine XK.take 0 0 rfl rfl ?_
 dsimp only [List.set]
 refine XK.drawB [7, 8] ?_
 refine XB.mv 0 ?_
 refine XB.mv 1 ?_
 refine XB.mv 2 ?_
 refine XB.mv 3 ?_
 refine XB.mv 4 ?_
 refine XB.q 7 ?_
 refine XB.q 8 ?_
 refine XB.next 5 rfl (by kernel_rfl) ?_
 refine xk_callN (f := 159) (fi := []) (ca := []) (by kernel_rfl) rfl rfl (by decide) (RowN (0 :: IntKind.u32.wrap st :: [])) (fun w1 t => answer_any 0 st _ rfl none 0 0 [] w1 (⟨rfl, fun h => absurd h (by simp)⟩) rfl (by have := moreF_len s x z.w1; simp; try omega)) ?_
 rintro _ _ q9 ⟨An, cn, rfl, rfl⟩ _
 dsimp only [List.cons_append, List.nil_append]
 refine XB.bk ?_
 refine XB.next 6 rfl (by kernel_rfl) ?_
 refine xk_buildS (zs := [.int .i64 0, .slice none 0 0]) (L := [(0, 1), (1, 1)]) (zeroB_of (by kernel_rfl)) (by kernel_rfl) rfl (by simp [fillL, setN, Value.cells]; rfl) (by decide) ?_
 refine XB.bk ?_
 refine XB.next 9 rfl (by kernel_rfl) ?_
 refine kd (datA 1 13) ?_
 refine XB.bt ?_
 refine XB.next 10 rfl (by kernel_rfl) ?_
 refine xk_storeN 1 (t := 150) rfl rfl rfl (by kernel_rfl) (by simp [Value.cells, Value.oneCell']) (by simp [Value.cells, fmC]) ?_
 dsimp only [List.set, Value.cells, putN, fmC]
 refine XB.bt ?_
 refine XB.done (by kernel_rfl) ?_
 refine XK.ownPic 0 (Φ := BxP (An, cn) (0 :: IntKind.u32.wrap st :: [])) (hm := BxP.le) rfl (fun p hp => hp) ?_
 refine XK.take 2 4 rfl rfl ?_
 dsimp only [List.set]
 refine XK.weak [1, 2, 3, 4] rfl (by decide) (R' := [⟨w, fun b => b < w.heap.size ∧ ¬ F b⟩]) (by simp) ?_
 refine XK.give 1 4 rfl rfl ?_
 dsimp only [List.set]
 refine XK.closeFm (h := hL.h) (s := s) (z := { z with h1 := 2, w1 := 0 :: IntKind.u32.wrap st :: [] }) { L with b1 := (An, cn) } 0 rfl ?_
 dsimp only [List.set]
 refine XK.give 0 0 rfl rfl ?_
 dsimp only [List.set]
 exact XK.ret0 (.inr rfl) rfl fun w1 t => ⟨rfl, t.turns hF (by simp) (i := 0) rfl⟩
theorem fmReplyC0_m (f : Nat) (hL : HL) (s : Soc) (z : FmS) (x : HwS) (hH : s.okH) (hLo : HLOk hL s) (hok : HwOk s x) (st : Int) (v : Int) (r : List Int) (hw : z.w0 = v :: r) (hst : st ≠ 0) (w : World) (F : Nat → Prop) (hp : (MachH f hL s z x).sat F w) (hF : ∀ b, F b → b < w.heap.size) :
  Calls Tryz.prog 76 #[.pointer (some ⟨f, 0, none⟩), .int .i64 0, .int .i32 st] w (fun y w' => y = .returned (.tuple #[]) ∧ ∃ F', (MachH f hL s (replyF s x z 0 st) x).sat F' w' ∧ Turns w w' F F') := by
 have hr : replyF s x z 0 st = { z with h0 := 2, w0 := [v, IntKind.u32.wrap st] } := by simp [replyF, putBox, answF, boxW, hw, hst]
 rw [hr]
 refine XK.enterM (p := MachH f hL s z x) (F := F) (vs := [.pointer (some ⟨f, 0, none⟩), .int .i64 0, .int .i32 st]) Tryz.func76 rfl Tryz.ntmps76 (by simp) hp hF ?_
 refine XK.take 0 0 rfl rfl ?_
 dsimp only [List.set]
 refine XK.openEx 0 rfl fun L => ?_
 dsimp only [List.set]
 refine XK.box0 0 rfl hw fun b off hA hrd => ?_
 obtain ⟨a1, a2, a3, a4, x1, x2, x3, y1, y2, y3, ⟨B0, c0⟩, b1⟩ := L
 dsimp only at hA
 subst hA
 refine XK.take 0 0 rfl rfl ?_
 dsimp only [List.set, fmC]
 refine XK.go ?_
 refine kd (datA 0 11) ?_
 refine XK.go ?_
 refine XK.give 0 0 rfl rfl ?_
 dsimp only [List.set]
 refine XK.if_ rfl (fun _ => ?_) (fun h => absurd h (by simp [hw]))
 have hlen : z.w0.length = r.length + 1 := by rw [hw]; rfl
 refine XK.go ?_
 refine kd (dat 0 off) ?_
 refine kd (does_ld1 rfl hrd) ?_
 refine XK.go ?_
 refine XK.if_ rfl (fun h => absurd h (by simpa using hst)) (fun _ => ?_)
 refine XK.go ?_
 refine XK.take 0 0 rfl rfl ?_
 dsimp only [List.set]
 refine XK.drawB [7, 8] ?_
 refine XB.mv 0 ?_
 refine XB.mv 1 ?_
 refine XB.mv 2 ?_
 refine XB.mv 3 ?_
 refine XB.mv 4 ?_
 refine XB.q 7 ?_
 refine XB.q 8 ?_
 refine XB.next 5 rfl (by kernel_rfl) ?_
 refine xk_callN (f := 159) (fi := []) (ca := []) (by kernel_rfl) rfl rfl (by decide) (RowN (v :: IntKind.u32.wrap st :: [])) (fun w1 t => answer_any v st _ rfl none 0 0 [] w1 (⟨rfl, fun h => absurd h (by simp)⟩) rfl (by have := moreF_len s x z.w0; simp; try omega)) ?_
 rintro _ _ q9 ⟨An, cn, rfl, rfl⟩ _
 dsimp only [List.cons_append, List.nil_append]
 refine XB.bk ?_
 refine XB.next 6 rfl (by kernel_rfl) ?_
 refine xk_buildS (zs := [.int .i64 0, .slice none 0 0]) (L := [(0, 1), (1, 1)]) (zeroB_of (by kernel_rfl)) (by kernel_rfl) rfl (by simp [fillL, setN, Value.cells]; rfl) (by decide) ?_
 refine XB.bk ?_
 refine XB.next 9 rfl (by kernel_rfl) ?_
 refine kd (datA 0 11) ?_
 refine XB.bt ?_
 refine XB.next 10 rfl (by kernel_rfl) ?_
 refine xk_storeN 1 (t := 150) rfl rfl rfl (by kernel_rfl) (by simp [Value.cells, Value.oneCell']) (by simp [Value.cells, fmC]) ?_
 dsimp only [List.set, Value.cells, putN, fmC]
 refine XB.bt ?_
 refine XB.done (by kernel_rfl) ?_
 refine XK.ownPic 0 (Φ := BxP (An, cn) (v :: IntKind.u32.wrap st :: [])) (hm := BxP.le) rfl (fun p hp => hp) ?_
 refine XK.take 2 3 rfl rfl ?_
 dsimp only [List.set]
 refine XK.weak [1, 2, 3, 4] rfl (by decide) (R' := [⟨w, fun b => b < w.heap.size ∧ ¬ F b⟩]) (by simp) ?_
 refine XK.give 1 3 rfl rfl ?_
 dsimp only [List.set]
 refine XK.closeFm (h := hL.h) (s := s) (z := { z with h0 := 2, w0 := v :: IntKind.u32.wrap st :: [] }) ⟨a1, a2, a3, a4, x1, x2, x3, y1, y2, y3, (An, cn), b1⟩ 0 rfl ?_
 dsimp only [List.set]
 refine XK.give 0 0 rfl rfl ?_
 dsimp only [List.set]
 exact XK.ret0 (.inr rfl) rfl fun w1 t => ⟨rfl, t.turns hF (by simp) (i := 0) rfl⟩
theorem fmReplyC1_m (f : Nat) (hL : HL) (s : Soc) (z : FmS) (x : HwS) (hH : s.okH) (hLo : HLOk hL s) (hok : HwOk s x) (st : Int) (v : Int) (r : List Int) (hw : z.w1 = v :: r) (hst : st ≠ 0) (w : World) (F : Nat → Prop) (hp : (MachH f hL s z x).sat F w) (hF : ∀ b, F b → b < w.heap.size) :
  Calls Tryz.prog 76 #[.pointer (some ⟨f, 0, none⟩), .int .i64 1, .int .i32 st] w (fun y w' => y = .returned (.tuple #[]) ∧ ∃ F', (MachH f hL s (replyF s x z 1 st) x).sat F' w' ∧ Turns w w' F F') := by
 have hr : replyF s x z 1 st = { z with h1 := 2, w1 := [v, IntKind.u32.wrap st] } := by simp [replyF, putBox, answF, boxW, hw, hst]
 rw [hr]
 refine XK.enterM (p := MachH f hL s z x) (F := F) (vs := [.pointer (some ⟨f, 0, none⟩), .int .i64 1, .int .i32 st]) Tryz.func76 rfl Tryz.ntmps76 (by simp) hp hF ?_
 refine XK.take 0 0 rfl rfl ?_
 dsimp only [List.set]
 refine XK.openEx 0 rfl fun L => ?_
 dsimp only [List.set]
 refine XK.box1 0 rfl hw fun b off hA hrd => ?_
 obtain ⟨a1, a2, a3, a4, x1, x2, x3, y1, y2, y3, b0, ⟨B1, c1⟩⟩ := L
 dsimp only at hA
 subst hA
 refine XK.take 0 0 rfl rfl ?_
 dsimp only [List.set, fmC]
 refine XK.go ?_
 refine kd (datA 1 13) ?_
 refine XK.go ?_
 refine XK.give 0 0 rfl rfl ?_
 dsimp only [List.set]
 refine XK.if_ rfl (fun _ => ?_) (fun h => absurd h (by simp [hw]))
 have hlen : z.w1.length = r.length + 1 := by rw [hw]; rfl
 refine XK.go ?_
 refine kd (dat 0 off) ?_
 refine kd (does_ld1 rfl hrd) ?_
 refine XK.go ?_
 refine XK.if_ rfl (fun h => absurd h (by simpa using hst)) (fun _ => ?_)
 refine XK.go ?_
 refine XK.take 0 0 rfl rfl ?_
 dsimp only [List.set]
 refine XK.drawB [7, 8] ?_
 refine XB.mv 0 ?_
 refine XB.mv 1 ?_
 refine XB.mv 2 ?_
 refine XB.mv 3 ?_
 refine XB.mv 4 ?_
 refine XB.q 7 ?_
 refine XB.q 8 ?_
 refine XB.next 5 rfl (by kernel_rfl) ?_
 refine xk_callN (f := 159) (fi := []) (ca := []) (by kernel_rfl) rfl rfl (by decide) (RowN (v :: IntKind.u32.wrap st :: [])) (fun w1 t => answer_any v st _ rfl none 0 0 [] w1 (⟨rfl, fun h => absurd h (by simp)⟩) rfl (by have := moreF_len s x z.w1; simp; try omega)) ?_
 rintro _ _ q9 ⟨An, cn, rfl, rfl⟩ _
 dsimp only [List.cons_append, List.nil_append]
 refine XB.bk ?_
 refine XB.next 6 rfl (by kernel_rfl) ?_
 refine xk_buildS (zs := [.int .i64 0, .slice none 0 0]) (L := [(0, 1), (1, 1)]) (zeroB_of (by kernel_rfl)) (by kernel_rfl) rfl (by simp [fillL, setN, Value.cells]; rfl) (by decide) ?_
 refine XB.bk ?_
 refine XB.next 9 rfl (by kernel_rfl) ?_
 refine kd (datA 1 13) ?_
 refine XB.bt ?_
 refine XB.next 10 rfl (by kernel_rfl) ?_
 refine xk_storeN 1 (t := 150) rfl rfl rfl (by kernel_rfl) (by simp [Value.cells, Value.oneCell']) (by simp [Value.cells, fmC]) ?_
 dsimp only [List.set, Value.cells, putN, fmC]
 refine XB.bt ?_
 refine XB.done (by kernel_rfl) ?_
 refine XK.ownPic 0 (Φ := BxP (An, cn) (v :: IntKind.u32.wrap st :: [])) (hm := BxP.le) rfl (fun p hp => hp) ?_
 refine XK.take 2 4 rfl rfl ?_
 dsimp only [List.set]
 refine XK.weak [1, 2, 3, 4] rfl (by decide) (R' := [⟨w, fun b => b < w.heap.size ∧ ¬ F b⟩]) (by simp) ?_
 refine XK.give 1 4 rfl rfl ?_
 dsimp only [List.set]
 refine XK.closeFm (h := hL.h) (s := s) (z := { z with h1 := 2, w1 := v :: IntKind.u32.wrap st :: [] }) ⟨a1, a2, a3, a4, x1, x2, x3, y1, y2, y3, b0, (An, cn)⟩ 0 rfl ?_
 dsimp only [List.set]
 refine XK.give 0 0 rfl rfl ?_
 dsimp only [List.set]
 exact XK.ret0 (.inr rfl) rfl fun w1 t => ⟨rfl, t.turns hF (by simp) (i := 0) rfl⟩
theorem fmReplyS0_m (f : Nat) (hL : HL) (s : Soc) (z : FmS) (x : HwS) (hH : s.okH) (hLo : HLOk hL s) (hok : HwOk s x) (v : Int) (r : List Int) (hw : z.w0 = v :: r) (hu : getZ v 28 4 = 0) (hph : (getZ v 10 8 = 17 ∧ getZ v 0 8 = 5) ∨ (getZ v 10 8 = 20 ∧ getZ v 0 8 = 6) → ∃ i, r = [i] ∧ 0 ≤ i ∧ i < 4294967296) (w : World) (F : Nat → Prop) (hp : (MachH f hL s z x).sat F w) (hF : ∀ b, F b → b < w.heap.size) :
  Calls Tryz.prog 76 #[.pointer (some ⟨f, 0, none⟩), .int .i64 0, .int .i32 0] w (fun y w' => y = .returned (.tuple #[]) ∧ ∃ F', (MachH f hL s (replyF s x z 0 0) x).sat F' w' ∧ Turns w w' F F') := by
 have hr : replyF s x z 0 0 = { z with h0 := 2, w0 := v :: 0 :: moreF s x z.w0 } := by simp [replyF, putBox, answF, boxW, hw]; rfl
 rw [hr]
 refine XK.enterM (p := MachH f hL s z x) (F := F) (vs := [.pointer (some ⟨f, 0, none⟩), .int .i64 0, .int .i32 0]) Tryz.func76 rfl Tryz.ntmps76 (by simp) hp hF ?_
 refine XK.take 0 0 rfl rfl ?_
 dsimp only [List.set]
 refine XK.openEx 0 rfl fun L => ?_
 dsimp only [List.set]
 refine XK.box0 0 rfl hw fun b off hA hrd => ?_
 obtain ⟨a1, a2, a3, a4, x1, x2, x3, y1, y2, y3, ⟨B0, c0⟩, b1⟩ := L
 dsimp only at hA
 subst hA
 refine XK.take 0 0 rfl rfl ?_
 dsimp only [List.set, fmC]
 refine XK.go ?_
 refine kd (datA 0 11) ?_
 refine XK.go ?_
 refine XK.give 0 0 rfl rfl ?_
 dsimp only [List.set]
 refine XK.if_ rfl (fun _ => ?_) (fun h => absurd h (by simp [hw]))
 have hlen : z.w0.length = r.length + 1 := by rw [hw]; rfl
 refine XK.go ?_
 refine kd (dat 0 off) ?_
 refine kd (does_ld1 rfl hrd) ?_
 refine XK.go ?_
 refine XK.take 1 1 rfl rfl ?_
 dsimp only [List.set]
 refine xk_call [] (f := 158) (fi := []) (ca := []) (by kernel_rfl) rfl rfl (by decide) (by simp) (fun v w w' => RowOk (moreF s x z.w0) v w w') (fun w1 t => by
  have hf : FirmR w1 f hL.h ⟨a1, a2, a3, a4, x1, x2, x3, y1, y2, y3, (some ⟨b, off, none⟩, c0), b1⟩ s z := t.firmR 1 rfl
  have hb := hf.b0
  rw [BxP, hw] at hb
  have := fmMore_any f _ s z hL x hH hok.dm _ c0 v r w1 hf (t.hardR 0 rfl hLo hok) hb hu hph
  rw [← hw] at this
  exact this) ?_
 rintro _ w3 q3 ⟨Am, cm, rfl, hsm⟩ hq3 _ hF3
 have hsm := hsm.le hq3
 refine XK.give 1 1 rfl rfl ?_
 dsimp only [List.set]
 refine XK.go ?_
 refine XK.take 0 0 rfl rfl ?_
 dsimp only [List.set]
 refine XK.drawB [7, 8] ?_
 refine XB.mv 0 ?_
 refine XB.mv 1 ?_
 refine XB.mv 2 ?_
 refine XB.mv 3 ?_
 refine XB.mv 4 ?_
 refine XB.q 7 ?_
 refine XB.q 8 ?_
 refine XB.next 5 rfl (by kernel_rfl) ?_
 refine xk_callN (f := 159) (fi := []) (ca := []) (by kernel_rfl) rfl rfl (by decide) (RowN (v :: 0 :: moreF s x z.w0)) (fun w1 t => answer_any v 0 0 rfl Am (moreF s x z.w0).length cm (moreF s x z.w0) w1 (hsm.le (t.le (by simp))) rfl (by have := moreF_len s x z.w0; simp; try omega)) ?_
 rintro _ _ q9 ⟨An, cn, rfl, rfl⟩ _
 dsimp only [List.cons_append, List.nil_append]
 refine XB.bk ?_
 refine XB.next 6 rfl (by kernel_rfl) ?_
 refine xk_buildS (zs := [.int .i64 0, .slice none 0 0]) (L := [(0, 1), (1, 1)]) (zeroB_of (by kernel_rfl)) (by kernel_rfl) rfl (by simp [fillL, setN, Value.cells]; rfl) (by decide) ?_
 refine XB.bk ?_
 refine XB.next 9 rfl (by kernel_rfl) ?_
 refine kd (datA 0 11) ?_
 refine XB.bt ?_
 refine XB.next 10 rfl (by kernel_rfl) ?_
 refine xk_storeN 1 (t := 150) rfl rfl rfl (by kernel_rfl) (by simp [Value.cells, Value.oneCell']) (by simp [Value.cells, fmC]) ?_
 dsimp only [List.set, Value.cells, putN, fmC]
 refine XB.bt ?_
 refine XB.done (by kernel_rfl) ?_
 refine XK.ownPic 0 (Φ := BxP (An, cn) (v :: 0 :: moreF s x z.w0)) (hm := BxP.le) rfl (fun p hp => hp) ?_
 refine XK.take 2 3 rfl rfl ?_
 dsimp only [List.set]
 refine XK.weak [1, 2, 3, 4] rfl (by decide) (R' := [⟨w, fun b => b < w.heap.size ∧ ¬ F b⟩]) (by simp) ?_
 refine XK.give 1 3 rfl rfl ?_
 dsimp only [List.set]
 refine XK.closeFm (h := hL.h) (s := s) (z := { z with h0 := 2, w0 := v :: 0 :: moreF s x z.w0 }) ⟨a1, a2, a3, a4, x1, x2, x3, y1, y2, y3, (An, cn), b1⟩ 0 rfl ?_
 dsimp only [List.set]
 refine XK.give 0 0 rfl rfl ?_
 dsimp only [List.set]
 exact XK.ret0 (.inr rfl) rfl fun w1 t => ⟨rfl, t.turns hF (by simp) (i := 0) rfl⟩
theorem fmReplyS1_m (f : Nat) (hL : HL) (s : Soc) (z : FmS) (x : HwS) (hH : s.okH) (hLo : HLOk hL s) (hok : HwOk s x) (v : Int) (r : List Int) (hw : z.w1 = v :: r) (hu : getZ v 28 4 = 0) (hph : (getZ v 10 8 = 17 ∧ getZ v 0 8 = 5) ∨ (getZ v 10 8 = 20 ∧ getZ v 0 8 = 6) → ∃ i, r = [i] ∧ 0 ≤ i ∧ i < 4294967296) (w : World) (F : Nat → Prop) (hp : (MachH f hL s z x).sat F w) (hF : ∀ b, F b → b < w.heap.size) :
  Calls Tryz.prog 76 #[.pointer (some ⟨f, 0, none⟩), .int .i64 1, .int .i32 0] w (fun y w' => y = .returned (.tuple #[]) ∧ ∃ F', (MachH f hL s (replyF s x z 1 0) x).sat F' w' ∧ Turns w w' F F') := by
 have hr : replyF s x z 1 0 = { z with h1 := 2, w1 := v :: 0 :: moreF s x z.w1 } := by simp [replyF, putBox, answF, boxW, hw]; rfl
 rw [hr]
 refine XK.enterM (p := MachH f hL s z x) (F := F) (vs := [.pointer (some ⟨f, 0, none⟩), .int .i64 1, .int .i32 0]) Tryz.func76 rfl Tryz.ntmps76 (by simp) hp hF ?_
 refine XK.take 0 0 rfl rfl ?_
 dsimp only [List.set]
 refine XK.openEx 0 rfl fun L => ?_
 dsimp only [List.set]
 refine XK.box1 0 rfl hw fun b off hA hrd => ?_
 obtain ⟨a1, a2, a3, a4, x1, x2, x3, y1, y2, y3, b0, ⟨B1, c1⟩⟩ := L
 dsimp only at hA
 subst hA
 refine XK.take 0 0 rfl rfl ?_
 dsimp only [List.set, fmC]
 refine XK.go ?_
 refine kd (datA 1 13) ?_
 refine XK.go ?_
 refine XK.give 0 0 rfl rfl ?_
 dsimp only [List.set]
 refine XK.if_ rfl (fun _ => ?_) (fun h => absurd h (by simp [hw]))
 have hlen : z.w1.length = r.length + 1 := by rw [hw]; rfl
 refine XK.go ?_
 refine kd (dat 0 off) ?_
 refine kd (does_ld1 rfl hrd) ?_
 refine XK.go ?_
 refine XK.take 1 1 rfl rfl ?_
 dsimp only [List.set]
 refine xk_call [] (f := 158) (fi := []) (ca := []) (by kernel_rfl) rfl rfl (by decide) (by simp) (fun v w w' => RowOk (moreF s x z.w1) v w w') (fun w1 t => by
  have hf : FirmR w1 f hL.h ⟨a1, a2, a3, a4, x1, x2, x3, y1, y2, y3, b0, (some ⟨b, off, none⟩, c1)⟩ s z := t.firmR 1 rfl
  have hb := hf.b1
  rw [BxP, hw] at hb
  have := fmMore_any f _ s z hL x hH hok.dm _ c1 v r w1 hf (t.hardR 0 rfl hLo hok) hb hu hph
  rw [← hw] at this
  exact this) ?_
 rintro _ w3 q3 ⟨Am, cm, rfl, hsm⟩ hq3 _ hF3
 have hsm := hsm.le hq3
 refine XK.give 1 1 rfl rfl ?_
 dsimp only [List.set]
 refine XK.go ?_
 refine XK.take 0 0 rfl rfl ?_
 dsimp only [List.set]
 refine XK.drawB [7, 8] ?_
 refine XB.mv 0 ?_
 refine XB.mv 1 ?_
 refine XB.mv 2 ?_
 refine XB.mv 3 ?_
 refine XB.mv 4 ?_
 refine XB.q 7 ?_
 refine XB.q 8 ?_
 refine XB.next 5 rfl (by kernel_rfl) ?_
 refine xk_callN (f := 159) (fi := []) (ca := []) (by kernel_rfl) rfl rfl (by decide) (RowN (v :: 0 :: moreF s x z.w1)) (fun w1 t => answer_any v 0 0 rfl Am (moreF s x z.w1).length cm (moreF s x z.w1) w1 (hsm.le (t.le (by simp))) rfl (by have := moreF_len s x z.w1; simp; try omega)) ?_
 rintro _ _ q9 ⟨An, cn, rfl, rfl⟩ _
 dsimp only [List.cons_append, List.nil_append]
 refine XB.bk ?_
 refine XB.next 6 rfl (by kernel_rfl) ?_
 refine xk_buildS (zs := [.int .i64 0, .slice none 0 0]) (L := [(0, 1), (1, 1)]) (zeroB_of (by kernel_rfl)) (by kernel_rfl) rfl (by simp [fillL, setN, Value.cells]; rfl) (by decide) ?_
 refine XB.bk ?_
 refine XB.next 9 rfl (by kernel_rfl) ?_
 refine kd (datA 1 13) ?_
 refine XB.bt ?_
 refine XB.next 10 rfl (by kernel_rfl) ?_
 refine xk_storeN 1 (t := 150) rfl rfl rfl (by kernel_rfl) (by simp [Value.cells, Value.oneCell']) (by simp [Value.cells, fmC]) ?_
 dsimp only [List.set, Value.cells, putN, fmC]
 refine XB.bt ?_
 refine XB.done (by kernel_rfl) ?_
 refine XK.ownPic 0 (Φ := BxP (An, cn) (v :: 0 :: moreF s x z.w1)) (hm := BxP.le) rfl (fun p hp => hp) ?_
 refine XK.take 2 4 rfl rfl ?_
 dsimp only [List.set]
 refine XK.weak [1, 2, 3, 4] rfl (by decide) (R' := [⟨w, fun b => b < w.heap.size ∧ ¬ F b⟩]) (by simp) ?_
 refine XK.give 1 4 rfl rfl ?_
 dsimp only [List.set]
 refine XK.closeFm (h := hL.h) (s := s) (z := { z with h1 := 2, w1 := v :: 0 :: moreF s x z.w1 }) ⟨a1, a2, a3, a4, x1, x2, x3, y1, y2, y3, b0, (An, cn)⟩ 0 rfl ?_
 dsimp only [List.set]
 refine XK.give 0 0 rfl rfl ?_
 dsimp only [List.set]
 exact XK.ret0 (.inr rfl) rfl fun w1 t => ⟨rfl, t.turns hF (by simp) (i := 0) rfl⟩
theorem fmReply_m (f : Nat) (hL : HL) (s : Soc) (z : FmS) (x : HwS) (hH : s.okH) (hLo : HLOk hL s) (hok : HwOk s x) (a : Nat) (ha : a < 2) (st : Int) (hst : st = 0 → ReplyOk (boxW z a)) (w : World) (F : Nat → Prop) (hp : (MachH f hL s z x).sat F w) (hF : ∀ b, F b → b < w.heap.size) :
  Calls Tryz.prog 76 #[.pointer (some ⟨f, 0, none⟩), .int .i64 (a : Int), .int .i32 st] w (fun y w' => y = .returned (.tuple #[]) ∧ ∃ F', (MachH f hL s (replyF s x z a st) x).sat F' w' ∧ Turns w w' F F') := by
 obtain rfl | rfl : a = 0 ∨ a = 1 := by omega
 ·by_cases h0 : st = 0
  ·subst h0
   obtain ⟨v, r, hw, hu, hph⟩ := (hst rfl).ne
   exact fmReplyS0_m f hL s z x hH hLo hok v r hw hu hph w F hp hF
  ·cases hw : z.w0 with
   | nil => exact fmReplyN0_m f hL s z x hH hLo hok st hw h0 w F hp hF
   | cons v r => exact fmReplyC0_m f hL s z x hH hLo hok st v r hw h0 w F hp hF
 ·by_cases h0 : st = 0
  ·subst h0
   obtain ⟨v, r, hw, hu, hph⟩ := (hst rfl).ne
   exact fmReplyS1_m f hL s z x hH hLo hok v r hw hu hph w F hp hF
  ·cases hw : z.w1 with
   | nil => exact fmReplyN1_m f hL s z x hH hLo hok st hw h0 w F hp hF
   | cons v r => exact fmReplyC1_m f hL s z x hH hLo hok st v r hw h0 w F hp hF
end
section
set_option maxHeartbeats 4000000
set_option maxRecDepth 20000
def hasB' (z : FmS) (a : Nat) : Int := if a = 0 then z.h0 else z.h1
def nextF (z : FmS) : Option Nat := if hasB' z (1 - z.last).toNat = 1 then some (1 - z.last).toNat else if hasB' z z.last.toNat = 1 then some z.last.toNat else none
def waitL (s : Soc) (x : HwS) : List Int := (List.range s.devs.length).map fun i => (wtN x.wt i : Int)
theorem fmTake_none (f : Nat) (hL : HL) (s : Soc) (z : FmS) (x : HwS) (hl : z.last = 0 ∨ z.last = 1) (hn : nextF z = none) (w : World) (F : Nat → Prop) (hp : (MachH f hL s z x).sat F w) (hF : ∀ b, F b → b < w.heap.size) :
  Calls Tryz.prog 74 #[.pointer (some ⟨f, 0, none⟩)] w (fun y w' => y = .returned (.bool false) ∧ ∃ F', (MachH f hL s z x).sat F' w' ∧ Turns w w' F F') := by
 have hno : z.h0 ≠ 1 ∧ z.h1 ≠ 1 := by
  unfold nextF at hn
  rcases hl with h | h <;> rw [h] at hn <;> simp [hasB'] at hn <;> by_cases p : z.h0 = 1 <;> by_cases q : z.h1 = 1 <;> simp [p, q] at hn ⊢
 refine XK.enterM (p := MachH f hL s z x) (F := F) (vs := [.pointer (some ⟨f, 0, none⟩)]) Tryz.func74 rfl Tryz.ntmps74 (by simp) hp hF ?_
 refine XK.take 0 0 rfl rfl ?_
 dsimp only [List.set]
 refine XK.openFm 0 rfl fun L => ?_
 dsimp only [List.set, fmC]
 rcases hl with hl | hl <;> rw [hl]
 ·refine XK.go ?_
  refine kd (datA 1 13) ?_
  refine XK.go ?_
  refine XK.if_ rfl (fun _ => ?_) (fun h => absurd h (by simp [hno.2]))
  refine XK.go ?_
  refine kd (datA 0 11) ?_
  refine XK.go ?_
  refine XK.if_ rfl (fun _ => ?_) (fun h => absurd h (by simp [hno.1]))
  refine XK.go ?_
  rw [← hl]
  refine XK.closeFm (h := hL.h) (s := s) (z := z) L 0 rfl ?_
  dsimp only [List.set]
  refine XK.give 0 0 rfl rfl ?_
  dsimp only [List.set]
  exact XK.ret1 rfl rfl fun w1 t => ⟨rfl, t.turns hF (by simp) (i := 0) rfl⟩
 ·refine XK.go ?_
  refine kd (datA 0 11) ?_
  refine XK.go ?_
  refine XK.if_ rfl (fun _ => ?_) (fun h => absurd h (by simp [hno.1]))
  refine XK.go ?_
  refine kd (datA 1 13) ?_
  refine XK.go ?_
  refine XK.if_ rfl (fun _ => ?_) (fun h => absurd h (by simp [hno.2]))
  refine XK.go ?_
  rw [← hl]
  refine XK.closeFm (h := hL.h) (s := s) (z := z) L 0 rfl ?_
  dsimp only [List.set]
  refine XK.give 0 0 rfl rfl ?_
  dsimp only [List.set]
  exact XK.ret1 rfl rfl fun w1 t => ⟨rfl, t.turns hF (by simp) (i := 0) rfl⟩
end
section
set_option maxHeartbeats 4000000
set_option maxRecDepth 20000
def Rounds (P : Program) (c : Code) (Q : Exit → Act → World → Prop) : Nat → Act → World → Prop
 | 0 => fun _ _ => False
 | n + 1 => c.wp P (Exit.then (Rounds P c Q n) Q)
section
variable {P : Program} {N : Frm} {w0 : World} {e : Env} {R : List Piece} {H : List HP} {Q : Exit → Act → World → Prop} {c : Code} {n : Nat}
theorem XK.rounds (n : Nat) (h : XK N w0 (Rounds P c Q n) e R H) : XK N w0 ((Code.loop c).wp P Q) e R H := fun a w hr st => by
 refine wp_loop_ix (Rounds P c Q) n (h a w hr st) fun n a w hI => ?_
 cases n with
 | zero => exact absurd hI (fun h => h)
 | succ n =>
  refine wp_mono hI fun x a' w' hq => ?_
  cases x with
  | normal => exact ⟨n, Nat.lt_succ_self n, hq⟩
  | _ => exact hq
theorem XK.cutT {y : Code} {x : Code} (M : Env → List Piece → List HP → Prop) (h : XK N w0 (x.wp P (Exit.then (fun a' w' => ∃ e' R' H', M e' R' H' ∧ Rep N e' a' ∧ St w0 R' H' w') Q)) e R H)
  (hy : ∀ e' R' H', M e' R' H' → XK N w0 (y.wp P Q) e' R' H') : XK N w0 (x.wp P (Exit.then (y.wp P Q) Q)) e R H := fun a w hr st =>
 wp_mono (h a w hr st) fun x a' w' hq => by
  cases x with
  | normal =>
   obtain ⟨e', R', H', hm, hr', st'⟩ := hq
   exact hy e' R' H' hm a' w' hr' st'
  | _ => exact hq
theorem XK.rnd (h : XK N w0 (c.wp P (Exit.then (Rounds P c Q n) Q)) e R H) : XK N w0 (Rounds P c Q (n + 1)) e R H := h
end
theorem done_len (x y : Wsh) (ag : Nat) (k id : Int) : (doneX x ag k id).d.length = x.d.length ∧ (doneX x ag k id).c.length = x.c.length ∧ (doneX x ag k id).l.length = x.l.length ∧ (doneY y ag k id).d.length = y.d.length ∧ (doneY y ag k id).c.length = y.c.length ∧ (doneY y ag k id).l.length = y.l.length := by
 have h : ∀ z : Wsh, (setW z k id).d.length = z.d.length ∧ (setW z k id).c.length = z.c.length ∧ (setW z k id).l.length = z.l.length := fun z => by
  unfold setW
  split
  ·exact ⟨setBL_len _ _ _, rfl, rfl⟩
  ·split
   ·exact ⟨rfl, setBL_len _ _ _, rfl⟩
   ·split
    ·exact ⟨rfl, rfl, setBL_len _ _ _⟩
    ·exact ⟨rfl, rfl, rfl⟩
 unfold doneX doneY
 split
 ·exact ⟨(h x).1, (h x).2.1, (h x).2.2, rfl, rfl, rfl⟩
 ·exact ⟨rfl, rfl, rfl, (h y).1, (h y).2.1, (h y).2.2⟩
theorem done_any (qx : Piece) (X1 X2 X3 Y1 Y2 Y3 : Option Addr) (xk1 xk2 xk3 yk1 yk2 yk3 : Nat) (x y : Wsh) (ag : Nat) (k id : Int) (w : World) (hqx : qx.Le (all w)) (hag : ag < 2) (hbx : x.sm) (hby : y.sm) (s0 : SlS qx 1 X1 x.d.length (boolCells x.d)) (s1 : SlS qx 1 X2 x.c.length (boolCells x.c)) (s2 : SlS qx 1 X3 x.l.length (boolCells x.l)) (s3 : SlS qx 1 Y1 y.d.length (boolCells y.d)) (s4 : SlS qx 1 Y2 y.c.length (boolCells y.c)) (s5 : SlS qx 1 Y3 y.l.length (boolCells y.l)) :
  Calls Tryz.prog 151 #[.agg #[.slice X1 x.d.length xk1, .slice X2 x.c.length xk2, .slice X3 x.l.length xk3, .slice Y1 y.d.length yk1, .slice Y2 y.c.length yk2, .slice Y3 y.l.length yk3], .int .i64 (ag : Int), .agg #[.int .u8 k, .int .i64 id]] w (RtW (fun v w w' => StR (fresh w w') (doneX x ag k id) (doneY y ag k id) v) w) := by
 obtain ⟨h0, h1, h2⟩ := hbx
 obtain ⟨h3, h4, h5⟩ := hby
 refine XK.enter (vs := [.agg #[.slice X1 x.d.length xk1, .slice X2 x.c.length xk2, .slice X3 x.l.length xk3, .slice Y1 y.d.length yk1, .slice Y2 y.c.length yk2, .slice Y3 y.l.length yk3], .int .i64 (ag : Int), .agg #[.int .u8 k, .int .i64 id]]) Tryz.func151 rfl Tryz.ntmps151 (by simp) ?_
 refine XK.piece qx (by simp) hqx ?_
 refine XK.go ?_
 refine xk_box rfl (by decide) fun g1 => ?_
 refine xk_box rfl (by decide) fun g2 => ?_
 dsimp only [Value.cells]
 refine xk_alloc (cs := [.slice none 0 0, .slice none 0 0, .slice none 0 0, .slice none 0 0, .slice none 0 0, .slice none 0 0]) (zeroB_of (by kernel_rfl)) (by decide) fun g3 => ?_
 refine XK.go ?_
 refine xk_alloc (cs := [.slice none 0 0, .slice none 0 0, .slice none 0 0, .slice none 0 0, .slice none 0 0, .slice none 0 0]) (zeroB_of (by kernel_rfl)) (by decide) fun g4 => ?_
 refine XK.go ?_
 refine XK.rounds 3 ?_
 refine XK.rnd ?_
 refine XK.go ?_
 refine xk_indexA 0 (len := 2) (n := 3) (by kernel_rfl) rfl rfl rfl (by decide) rfl (by decide) ?_
 refine xk_alloc (cs := [.slice none 0 0, .slice none 0 0, .slice none 0 0]) (zeroB_of (by kernel_rfl)) (by decide) fun g5 => ?_
 refine XK.go ?_
 refine XK.drawB [1, 2, 4, 5, 7, 8, 11] ?_
 refine XB.mv 0 ?_
 refine XB.q 1 ?_
 refine XB.q 2 ?_
 refine XB.q 4 ?_
 refine XB.q 5 ?_
 refine XB.q 7 ?_
 refine XB.q 8 ?_
 refine XB.q 11 ?_
 refine XB.next 3 rfl (by kernel_rfl) ?_
 refine xk_callN (f := 100) (fi := []) (ca := []) (by kernel_rfl) rfl rfl (by decide) (CloneOk_clone_bool x.d.length (boolCells x.d)) (fun w1 st => clone_bool _ _ _ _ w1 (s0.le (st.le (by simp))) (boolCells_one _) (by have := h0; omega)) ?_
 rintro _ _ q0 ⟨B0, c0, rfl, rfl⟩ _
 dsimp only [List.cons_append, List.nil_append]
 refine XB.bk ?_ (hS := fun _ h => h.tailR.tail)
 refine XB.next 6 rfl (by kernel_rfl) ?_
 refine xk_callN (f := 100) (fi := []) (ca := []) (by kernel_rfl) rfl rfl (by decide) (CloneOk_clone_bool x.c.length (boolCells x.c)) (fun w1 st => clone_bool _ _ _ _ w1 (s1.le (st.le (by simp))) (boolCells_one _) (by have := h1; omega)) ?_
 rintro _ _ q1 ⟨B1, c1, rfl, rfl⟩ _
 dsimp only [List.cons_append, List.nil_append]
 refine XB.bk ?_ (hS := fun _ h => h.tailR.tailR.tail.tail)
 refine XB.next 9 rfl (by kernel_rfl) ?_
 refine xk_callN (f := 100) (fi := []) (ca := []) (by kernel_rfl) rfl rfl (by decide) (CloneOk_clone_bool x.l.length (boolCells x.l)) (fun w1 st => clone_bool _ _ _ _ w1 (s2.le (st.le (by simp))) (boolCells_one _) (by have := h2; omega)) ?_
 rintro _ _ q2 ⟨B2, c2, rfl, rfl⟩ _
 dsimp only [List.cons_append, List.nil_append]
 refine XB.bk ?_ (hS := fun _ h => h.tailR.tailR.tailR.tail.tail.tail)
 refine XB.next 10 rfl (by kernel_rfl) ?_
 refine xk_buildS (zs := [.slice none 0 0, .slice none 0 0, .slice none 0 0]) (L := [(0, 1), (1, 1), (2, 1)]) (zeroB_of (by kernel_rfl)) (by kernel_rfl) rfl (by simp [fillL, setN, Value.cells]; rfl) (by decide) ?_
 refine XB.bk ?_ (hS := fun _ h => h.tailR.tailR.tailR.tail.tail.tail)
 refine XB.next 12 rfl (by kernel_rfl) ?_
 refine kd (datA (sz := 3) 0 0) ?_
 refine XB.bt ?_
 refine XB.next 13 rfl (by kernel_rfl) ?_
 refine xk_stN rfl rfl ?_; simp only [putN, Value.cells, List.set, List.take, List.drop, List.nil_append, List.append_nil, List.length_cons, List.length_nil, List.cons_append, Nat.reduceAdd]
 refine XB.bt ?_
 refine XB.done (by kernel_rfl) ?_
 refine XK.go ?_
 refine XK.weak [2, 1, 0, 4, 5, 6, 7] rfl (by decide) (R' := [qx, all w]) (by simp) ?_
 refine XK.rnd ?_
 refine XK.go ?_
 refine xk_indexA 1 (len := 2) (n := 3) (by kernel_rfl) rfl rfl rfl (by decide) rfl (by decide) ?_
 refine xk_alloc (cs := [.slice none 0 0, .slice none 0 0, .slice none 0 0]) (zeroB_of (by kernel_rfl)) (by decide) fun g6 => ?_
 refine XK.go ?_
 refine XK.drawB [1, 2, 4, 5, 7, 8, 11] ?_
 refine XB.mv 0 ?_
 refine XB.q 1 ?_
 refine XB.q 2 ?_
 refine XB.q 4 ?_
 refine XB.q 5 ?_
 refine XB.q 7 ?_
 refine XB.q 8 ?_
 refine XB.q 11 ?_
 refine XB.next 3 rfl (by kernel_rfl) ?_
 refine xk_callN (f := 100) (fi := []) (ca := []) (by kernel_rfl) rfl rfl (by decide) (CloneOk_clone_bool y.d.length (boolCells y.d)) (fun w1 st => clone_bool _ _ _ _ w1 (s3.le (st.le (by simp))) (boolCells_one _) (by have := h3; omega)) ?_
 rintro _ _ q3 ⟨B3, c3, rfl, rfl⟩ _
 dsimp only [List.cons_append, List.nil_append]
 refine XB.bk ?_ (hS := fun _ h => h.tailR.tail)
 refine XB.next 6 rfl (by kernel_rfl) ?_
 refine xk_callN (f := 100) (fi := []) (ca := []) (by kernel_rfl) rfl rfl (by decide) (CloneOk_clone_bool y.c.length (boolCells y.c)) (fun w1 st => clone_bool _ _ _ _ w1 (s4.le (st.le (by simp))) (boolCells_one _) (by have := h4; omega)) ?_
 rintro _ _ q4 ⟨B4, c4, rfl, rfl⟩ _
 dsimp only [List.cons_append, List.nil_append]
 refine XB.bk ?_ (hS := fun _ h => h.tailR.tailR.tail.tail)
 refine XB.next 9 rfl (by kernel_rfl) ?_
 refine xk_callN (f := 100) (fi := []) (ca := []) (by kernel_rfl) rfl rfl (by decide) (CloneOk_clone_bool y.l.length (boolCells y.l)) (fun w1 st => clone_bool _ _ _ _ w1 (s5.le (st.le (by simp))) (boolCells_one _) (by have := h5; omega)) ?_
 rintro _ _ q5 ⟨B5, c5, rfl, rfl⟩ _
 dsimp only [List.cons_append, List.nil_append]
 refine XB.bk ?_ (hS := fun _ h => h.tailR.tailR.tailR.tail.tail.tail)
 refine XB.next 10 rfl (by kernel_rfl) ?_
 refine xk_buildS (zs := [.slice none 0 0, .slice none 0 0, .slice none 0 0]) (L := [(0, 1), (1, 1), (2, 1)]) (zeroB_of (by kernel_rfl)) (by kernel_rfl) rfl (by simp [fillL, setN, Value.cells]; rfl) (by decide) ?_
 refine XB.bk ?_ (hS := fun _ h => h.tailR.tailR.tailR.tail.tail.tail)
 refine XB.next 12 rfl (by kernel_rfl) ?_
 refine kd (datA (sz := 3) 1 3) ?_
 refine XB.bt ?_
 refine XB.next 13 rfl (by kernel_rfl) ?_
 refine xk_stN rfl rfl ?_; simp only [putN, Value.cells, List.set, List.take, List.drop, List.nil_append, List.append_nil, List.length_cons, List.length_nil, List.cons_append, Nat.reduceAdd]
 refine XB.bt ?_
 refine XB.done (by kernel_rfl) ?_
 refine XK.go ?_
 refine XK.weak [4, 5, 6, 2, 1, 0, 9, 7, 8] rfl (by decide) (R' := [qx, all w]) (by simp) ?_
 refine XK.rnd ?_
 refine XK.go ?_
 refine xk_split (t := 33) rfl (fun h => absurd h (by omega)) (fun _ => ?_)
 refine XK.go ?_
 refine XK.if_ rfl (fun h => absurd h (by omega)) (fun _ => ?_)
 refine XK.go ?_
 obtain rfl | rfl : ag = 0 ∨ ag = 1 := by omega
 ·refine XK.drawB [1, 2, 3, 4] ?_
  refine XB.mv 0 ?_
  refine XB.q 1 ?_
  refine XB.q 2 ?_ (hdo := datA (sz := 3) 0 0)
  refine XB.q 3 ?_
  refine XB.q 4 ?_
  refine XB.next 5 rfl (by kernel_rfl) ?_
  refine kcall (fun w1 t => list_any g4 0 k (.slice B0 x.d.length c0) (.slice B1 x.c.length c1) (.slice B2 x.l.length c2) w1 (by simpa using (t.box (i := 7) rfl).at_ (j := 0) rfl) (by simpa using (t.box (i := 7) rfl).at_ (j := 1) rfl) (by simpa using (t.box (i := 7) rfl).at_ (j := 2) rfl)) ?_
  refine XB.bt ?_
  refine XB.next 6 rfl (by kernel_rfl) ?_
  refine kdo ?_
  refine XB.bt ?_
  refine XB.done (by kernel_rfl) ?_
  refine XK.norm ?_
  refine XK.weak [0, 1, 2, 3, 4, 5, 6, 7, 8] rfl (by decide) (fun _ h => h) ?_
  refine XK.envS [(10, listV k (.slice B0 x.d.length c0) (.slice B1 x.c.length c1) (.slice B2 x.l.length c2)), (7, .pointer (some ⟨g4, 0, none⟩)), (6, .pointer (some ⟨g3, 0, none⟩)), (5, .pointer (some ⟨g2, 0, none⟩))] ?_
  refine XK.cutT (fun e R H => e = [(7, .pointer (some ⟨g4, 0, none⟩)), (6, .pointer (some ⟨g3, 0, none⟩))] ∧ R = [qx, all w] ∧ ∃ x2 y2 : Wsh, x2 = doneX x 0 k id ∧ y2 = doneY y 0 k id ∧ H = [HP.own 4 1 (.slice B0 x.d.length c0) x.d.length (boolCells x2.d), HP.own 4 1 (.slice B1 x.c.length c1) x.c.length (boolCells x2.c), HP.own 4 1 (.slice B2 x.l.length c2) x.l.length (boolCells x2.l), HP.own 4 1 (.slice B3 y.d.length c3) y.d.length (boolCells y2.d), HP.own 4 1 (.slice B4 y.c.length c4) y.c.length (boolCells y2.c), HP.own 4 1 (.slice B5 y.l.length c5) y.l.length (boolCells y2.l), HP.blk g2 63 [.int .u8 k, .int .i64 id], HP.blk g4 71 [.slice B0 x.d.length c0, .slice B1 x.c.length c1, .slice B2 x.l.length c2, .slice B3 y.d.length c3, .slice B4 y.c.length c4, .slice B5 y.l.length c5], HP.blk g3 71 [.slice none 0 0, .slice none 0 0, .slice none 0 0, .slice none 0 0, .slice none 0 0, .slice none 0 0]]) ?_ ?_
  ·by_cases k0 : k = 117 ∨ k = 100 ∨ k = 107
   ·rw [show listV k (.slice B0 x.d.length c0) (.slice B1 x.c.length c1) (.slice B2 x.l.length c2) = .slice B0 x.d.length c0 by rw [listV, if_pos k0]]
    refine XK.go ?_
    refine xk_split (t := 47) rfl (fun hid => ?_) (fun hid => ?_)
    ·refine XK.go ?_
     refine XK.if_ rfl (fun hid2 => ?_) (fun hid2 => ?_)
     ·have hin : 0 ≤ id ∧ id < (x.d.length : Int) := ⟨hid, hid2⟩
      have e1 : doneX x 0 k id = ⟨setBL x.d id (decide (onB k)), x.c, x.l⟩ := by simp [doneX, setW, k0]
      have e2 : doneY y 0 k id = y := by simp [doneY, setW, k0]
      refine XK.ownAt 0 rfl (by omega) ?_
      rintro ⟨gb, rfl⟩
      refine XK.openOwn 0 rfl fun cs hcl hct hnc hcm => ?_
      dsimp only [List.set]
      have hct1 : cs.take x.d.length = boolCells x.d := by simpa using hct
      have hcl1 : cs.length = c0 := by simpa using hcl
      refine XK.drawB [1, 2, 3, 4] ?_
      refine XB.mv 0 ?_
      refine XB.q 1 ?_
      refine XB.q 2 ?_
      refine XB.q 3 ?_
      refine XB.q 4 ?_
      refine XB.next 5 rfl (by kernel_rfl) ?_
      refine kcall (fun w1 t => on_any k w1) ?_
      refine XB.bk ?_
      refine XB.next 6 rfl (by kernel_rfl) ?_
      refine kd (dat id.toNat id.toNat) ?_
      refine XB.bt ?_
      refine XB.next 7 rfl (by kernel_rfl) ?_
      refine kst rfl rfl ?_
      dsimp only [List.set]
      refine XB.bt ?_
      refine XB.done (by kernel_rfl) ?_
      refine XK.go ?_
      refine XK.closeOwn 0 (n := x.d.length) (c := c0) (sz := 1) (xs := boolCells (setBL x.d id (decide (onB k)))) rfl (by simpa using hcl) (by rw [Nat.mul_one, ← boolCells_setB _ hin, ← hct1, List.take_set]) hnc hcm ?_
      dsimp only [List.set]
      exact XK.weak [0, 1, 2, 3, 4, 5, 6, 7, 8] rfl (by decide) (fun _ h => h) (XK.envS [(7, .pointer (some ⟨g4, 0, none⟩)), (6, .pointer (some ⟨g3, 0, none⟩))] (XK.meet ⟨rfl, rfl, ⟨setBL x.d id (decide (onB k)), x.c, x.l⟩, y, e1.symm, e2.symm, rfl⟩))
     ·have hin : ¬ (0 ≤ id ∧ id < (x.d.length : Int)) := fun h => hid2 h.2
      have e1 : doneX x 0 k id = x := by simp [doneX, setW, k0, setBL_out _ hin]
      have e2 : doneY y 0 k id = y := by simp [doneY, setW, k0, setBL_out _ hin]
      refine XK.go ?_
      exact XK.weak [0, 1, 2, 3, 4, 5, 6, 7, 8] rfl (by decide) (fun _ h => h) (XK.envS [(7, .pointer (some ⟨g4, 0, none⟩)), (6, .pointer (some ⟨g3, 0, none⟩))] (XK.meet ⟨rfl, rfl, x, y, e1.symm, e2.symm, rfl⟩))
    ·have hin : ¬ (0 ≤ id ∧ id < (x.d.length : Int)) := fun h => hid h.1
     have e1 : doneX x 0 k id = x := by simp [doneX, setW, k0, setBL_out _ hin]
     have e2 : doneY y 0 k id = y := by simp [doneY, setW, k0, setBL_out _ hin]
     refine XK.go ?_
     exact XK.weak [0, 1, 2, 3, 4, 5, 6, 7, 8] rfl (by decide) (fun _ h => h) (XK.envS [(7, .pointer (some ⟨g4, 0, none⟩)), (6, .pointer (some ⟨g3, 0, none⟩))] (XK.meet ⟨rfl, rfl, x, y, e1.symm, e2.symm, rfl⟩))
   by_cases k1 : k = 99 ∨ k = 111
   ·rw [show listV k (.slice B0 x.d.length c0) (.slice B1 x.c.length c1) (.slice B2 x.l.length c2) = .slice B1 x.c.length c1 by rw [listV, if_neg k0, if_pos k1]]
    refine XK.go ?_
    refine xk_split (t := 47) rfl (fun hid => ?_) (fun hid => ?_)
    ·refine XK.go ?_
     refine XK.if_ rfl (fun hid2 => ?_) (fun hid2 => ?_)
     ·have hin : 0 ≤ id ∧ id < (x.c.length : Int) := ⟨hid, hid2⟩
      have e1 : doneX x 0 k id = ⟨x.d, setBL x.c id (decide (onB k)), x.l⟩ := by simp [doneX, setW, k0, k1]
      have e2 : doneY y 0 k id = y := by simp [doneY, setW, k0, k1]
      refine XK.ownAt 1 rfl (by omega) ?_
      rintro ⟨gb, rfl⟩
      refine XK.openOwn 1 rfl fun cs hcl hct hnc hcm => ?_
      dsimp only [List.set]
      have hct1 : cs.take x.c.length = boolCells x.c := by simpa using hct
      have hcl1 : cs.length = c1 := by simpa using hcl
      refine XK.drawB [1, 2, 3, 4] ?_
      refine XB.mv 0 ?_
      refine XB.q 1 ?_
      refine XB.q 2 ?_
      refine XB.q 3 ?_
      refine XB.q 4 ?_
      refine XB.next 5 rfl (by kernel_rfl) ?_
      refine kcall (fun w1 t => on_any k w1) ?_
      refine XB.bk ?_
      refine XB.next 6 rfl (by kernel_rfl) ?_
      refine kd (dat id.toNat id.toNat) ?_
      refine XB.bt ?_
      refine XB.next 7 rfl (by kernel_rfl) ?_
      refine kst rfl rfl ?_
      dsimp only [List.set]
      refine XB.bt ?_
      refine XB.done (by kernel_rfl) ?_
      refine XK.go ?_
      refine XK.closeOwn 1 (n := x.c.length) (c := c1) (sz := 1) (xs := boolCells (setBL x.c id (decide (onB k)))) rfl (by simpa using hcl) (by rw [Nat.mul_one, ← boolCells_setB _ hin, ← hct1, List.take_set]) hnc hcm ?_
      dsimp only [List.set]
      exact XK.weak [0, 1, 2, 3, 4, 5, 6, 7, 8] rfl (by decide) (fun _ h => h) (XK.envS [(7, .pointer (some ⟨g4, 0, none⟩)), (6, .pointer (some ⟨g3, 0, none⟩))] (XK.meet ⟨rfl, rfl, ⟨x.d, setBL x.c id (decide (onB k)), x.l⟩, y, e1.symm, e2.symm, rfl⟩))
     ·have hin : ¬ (0 ≤ id ∧ id < (x.c.length : Int)) := fun h => hid2 h.2
      have e1 : doneX x 0 k id = x := by simp [doneX, setW, k0, k1, setBL_out _ hin]
      have e2 : doneY y 0 k id = y := by simp [doneY, setW, k0, k1, setBL_out _ hin]
      refine XK.go ?_
      exact XK.weak [0, 1, 2, 3, 4, 5, 6, 7, 8] rfl (by decide) (fun _ h => h) (XK.envS [(7, .pointer (some ⟨g4, 0, none⟩)), (6, .pointer (some ⟨g3, 0, none⟩))] (XK.meet ⟨rfl, rfl, x, y, e1.symm, e2.symm, rfl⟩))
    ·have hin : ¬ (0 ≤ id ∧ id < (x.c.length : Int)) := fun h => hid h.1
     have e1 : doneX x 0 k id = x := by simp [doneX, setW, k0, k1, setBL_out _ hin]
     have e2 : doneY y 0 k id = y := by simp [doneY, setW, k0, k1, setBL_out _ hin]
     refine XK.go ?_
     exact XK.weak [0, 1, 2, 3, 4, 5, 6, 7, 8] rfl (by decide) (fun _ h => h) (XK.envS [(7, .pointer (some ⟨g4, 0, none⟩)), (6, .pointer (some ⟨g3, 0, none⟩))] (XK.meet ⟨rfl, rfl, x, y, e1.symm, e2.symm, rfl⟩))
   by_cases k2 : k = 114 ∨ k = 97
   ·rw [show listV k (.slice B0 x.d.length c0) (.slice B1 x.c.length c1) (.slice B2 x.l.length c2) = .slice B2 x.l.length c2 by rw [listV, if_neg k0, if_neg k1, if_pos k2]]
    refine XK.go ?_
    refine xk_split (t := 47) rfl (fun hid => ?_) (fun hid => ?_)
    ·refine XK.go ?_
     refine XK.if_ rfl (fun hid2 => ?_) (fun hid2 => ?_)
     ·have hin : 0 ≤ id ∧ id < (x.l.length : Int) := ⟨hid, hid2⟩
      have e1 : doneX x 0 k id = ⟨x.d, x.c, setBL x.l id (decide (onB k))⟩ := by simp [doneX, setW, k0, k1, k2]
      have e2 : doneY y 0 k id = y := by simp [doneY, setW, k0, k1, k2]
      refine XK.ownAt 2 rfl (by omega) ?_
      rintro ⟨gb, rfl⟩
      refine XK.openOwn 2 rfl fun cs hcl hct hnc hcm => ?_
      dsimp only [List.set]
      have hct1 : cs.take x.l.length = boolCells x.l := by simpa using hct
      have hcl1 : cs.length = c2 := by simpa using hcl
      refine XK.drawB [1, 2, 3, 4] ?_
      refine XB.mv 0 ?_
      refine XB.q 1 ?_
      refine XB.q 2 ?_
      refine XB.q 3 ?_
      refine XB.q 4 ?_
      refine XB.next 5 rfl (by kernel_rfl) ?_
      refine kcall (fun w1 t => on_any k w1) ?_
      refine XB.bk ?_
      refine XB.next 6 rfl (by kernel_rfl) ?_
      refine kd (dat id.toNat id.toNat) ?_
      refine XB.bt ?_
      refine XB.next 7 rfl (by kernel_rfl) ?_
      refine kst rfl rfl ?_
      dsimp only [List.set]
      refine XB.bt ?_
      refine XB.done (by kernel_rfl) ?_
      refine XK.go ?_
      refine XK.closeOwn 2 (n := x.l.length) (c := c2) (sz := 1) (xs := boolCells (setBL x.l id (decide (onB k)))) rfl (by simpa using hcl) (by rw [Nat.mul_one, ← boolCells_setB _ hin, ← hct1, List.take_set]) hnc hcm ?_
      dsimp only [List.set]
      exact XK.weak [0, 1, 2, 3, 4, 5, 6, 7, 8] rfl (by decide) (fun _ h => h) (XK.envS [(7, .pointer (some ⟨g4, 0, none⟩)), (6, .pointer (some ⟨g3, 0, none⟩))] (XK.meet ⟨rfl, rfl, ⟨x.d, x.c, setBL x.l id (decide (onB k))⟩, y, e1.symm, e2.symm, rfl⟩))
     ·have hin : ¬ (0 ≤ id ∧ id < (x.l.length : Int)) := fun h => hid2 h.2
      have e1 : doneX x 0 k id = x := by simp [doneX, setW, k0, k1, k2, setBL_out _ hin]
      have e2 : doneY y 0 k id = y := by simp [doneY, setW, k0, k1, k2, setBL_out _ hin]
      refine XK.go ?_
      exact XK.weak [0, 1, 2, 3, 4, 5, 6, 7, 8] rfl (by decide) (fun _ h => h) (XK.envS [(7, .pointer (some ⟨g4, 0, none⟩)), (6, .pointer (some ⟨g3, 0, none⟩))] (XK.meet ⟨rfl, rfl, x, y, e1.symm, e2.symm, rfl⟩))
    ·have hin : ¬ (0 ≤ id ∧ id < (x.l.length : Int)) := fun h => hid h.1
     have e1 : doneX x 0 k id = x := by simp [doneX, setW, k0, k1, k2, setBL_out _ hin]
     have e2 : doneY y 0 k id = y := by simp [doneY, setW, k0, k1, k2, setBL_out _ hin]
     refine XK.go ?_
     exact XK.weak [0, 1, 2, 3, 4, 5, 6, 7, 8] rfl (by decide) (fun _ h => h) (XK.envS [(7, .pointer (some ⟨g4, 0, none⟩)), (6, .pointer (some ⟨g3, 0, none⟩))] (XK.meet ⟨rfl, rfl, x, y, e1.symm, e2.symm, rfl⟩))
   rw [show listV k (.slice B0 x.d.length c0) (.slice B1 x.c.length c1) (.slice B2 x.l.length c2) = .slice none 0 0 by rw [listV, if_neg k0, if_neg k1, if_neg k2]]
   have e1 : doneX x 0 k id = x := by simp [doneX, setW, k0, k1, k2]
   have e2 : doneY y 0 k id = y := by simp [doneY, setW, k0, k1, k2]
   refine XK.go ?_
   refine xk_split (t := 47) rfl (fun hid => ?_) (fun hid => ?_)
   ·refine XK.go ?_
    refine XK.if_ rfl (fun h => absurd h (by omega)) (fun _ => ?_)
    refine XK.go ?_
    exact XK.weak [0, 1, 2, 3, 4, 5, 6, 7, 8] rfl (by decide) (fun _ h => h) (XK.envS [(7, .pointer (some ⟨g4, 0, none⟩)), (6, .pointer (some ⟨g3, 0, none⟩))] (XK.meet ⟨rfl, rfl, x, y, e1.symm, e2.symm, rfl⟩))
   ·refine XK.go ?_
    exact XK.weak [0, 1, 2, 3, 4, 5, 6, 7, 8] rfl (by decide) (fun _ h => h) (XK.envS [(7, .pointer (some ⟨g4, 0, none⟩)), (6, .pointer (some ⟨g3, 0, none⟩))] (XK.meet ⟨rfl, rfl, x, y, e1.symm, e2.symm, rfl⟩))
  ·rintro _ _ _ ⟨rfl, rfl, x2, y2, hx2, hy2, rfl⟩
   refine XK.weak [7, 8, 0, 1, 2, 3, 4, 5] rfl (by decide) (fun _ h => h) ?_
   refine XK.go ?_
   refine XK.still [] [2, 3, 4, 5, 6, 7] [0, 1] (by simp) rfl (by decide) (by decide) fun q hq _ hfr => ?_
   obtain ⟨F0, sf0, zf0⟩ := hq 2 _ (by simp) rfl
   have hs0 := SlS.own (q := q) ⟨F0, sf0, zf0⟩
   obtain ⟨F1, sf1, zf1⟩ := hq 3 _ (by simp) rfl
   have hs1 := SlS.own (q := q) ⟨F1, sf1, zf1⟩
   obtain ⟨F2, sf2, zf2⟩ := hq 4 _ (by simp) rfl
   have hs2 := SlS.own (q := q) ⟨F2, sf2, zf2⟩
   obtain ⟨F3, sf3, zf3⟩ := hq 5 _ (by simp) rfl
   have hs3 := SlS.own (q := q) ⟨F3, sf3, zf3⟩
   obtain ⟨F4, sf4, zf4⟩ := hq 6 _ (by simp) rfl
   have hs4 := SlS.own (q := q) ⟨F4, sf4, zf4⟩
   obtain ⟨F5, sf5, zf5⟩ := hq 7 _ (by simp) rfl
   have hs5 := SlS.own (q := q) ⟨F5, sf5, zf5⟩
   refine XK.retC rfl (n := 6) (vs := [.slice B0 x.d.length c0, .slice B1 x.c.length c1, .slice B2 x.l.length c2, .slice B3 y.d.length c3, .slice B4 y.c.length c4, .slice B5 y.l.length c5]) (by kernel_rfl) rfl rfl (RdN.whole 1 rfl) fun w1 st => ⟨⟨_, rfl, ?_⟩, st.below (by simp)⟩
   have hle := st.fresh_le (by simp) (hfr (by simp) (by simp))
   have l1 : x2.d.length = x.d.length ∧ x2.c.length = x.c.length ∧ x2.l.length = x.l.length ∧ y2.d.length = y.d.length ∧ y2.c.length = y.c.length ∧ y2.l.length = y.l.length := by
    rw [hx2, hy2]
    exact done_len x y _ k id
   rw [← hx2, ← hy2]
   obtain ⟨l1, l2, l3, l4, l5, l6⟩ := l1
   refine ⟨B0, c0, B1, c1, B2, c2, B3, c3, B4, c4, B5, c5, ?_, ?_, ?_, ?_, ?_, ?_, ?_⟩
   ·rw [l1, l2, l3, l4, l5, l6]
   ·rw [l1]; exact hs0.le hle
   ·rw [l2]; exact hs1.le hle
   ·rw [l3]; exact hs2.le hle
   ·rw [l4]; exact hs3.le hle
   ·rw [l5]; exact hs4.le hle
   ·rw [l6]; exact hs5.le hle
 ·refine XK.drawB [1, 2, 3, 4] ?_
  refine XB.mv 0 ?_
  refine XB.q 1 ?_
  refine XB.q 2 ?_ (hdo := datA (sz := 3) 1 3)
  refine XB.q 3 ?_
  refine XB.q 4 ?_
  refine XB.next 5 rfl (by kernel_rfl) ?_
  refine kcall (fun w1 t => list_any g4 3 k (.slice B3 y.d.length c3) (.slice B4 y.c.length c4) (.slice B5 y.l.length c5) w1 (by simpa using (t.box (i := 7) rfl).at_ (j := 3) rfl) (by simpa using (t.box (i := 7) rfl).at_ (j := 4) rfl) (by simpa using (t.box (i := 7) rfl).at_ (j := 5) rfl)) ?_
  refine XB.bt ?_
  refine XB.next 6 rfl (by kernel_rfl) ?_
  refine kdo ?_
  refine XB.bt ?_
  refine XB.done (by kernel_rfl) ?_
  refine XK.norm ?_
  refine XK.weak [0, 1, 2, 3, 4, 5, 6, 7, 8] rfl (by decide) (fun _ h => h) ?_
  refine XK.envS [(10, listV k (.slice B3 y.d.length c3) (.slice B4 y.c.length c4) (.slice B5 y.l.length c5)), (7, .pointer (some ⟨g4, 0, none⟩)), (6, .pointer (some ⟨g3, 0, none⟩)), (5, .pointer (some ⟨g2, 0, none⟩))] ?_
  refine XK.cutT (fun e R H => e = [(7, .pointer (some ⟨g4, 0, none⟩)), (6, .pointer (some ⟨g3, 0, none⟩))] ∧ R = [qx, all w] ∧ ∃ x2 y2 : Wsh, x2 = doneX x 1 k id ∧ y2 = doneY y 1 k id ∧ H = [HP.own 4 1 (.slice B0 x.d.length c0) x.d.length (boolCells x2.d), HP.own 4 1 (.slice B1 x.c.length c1) x.c.length (boolCells x2.c), HP.own 4 1 (.slice B2 x.l.length c2) x.l.length (boolCells x2.l), HP.own 4 1 (.slice B3 y.d.length c3) y.d.length (boolCells y2.d), HP.own 4 1 (.slice B4 y.c.length c4) y.c.length (boolCells y2.c), HP.own 4 1 (.slice B5 y.l.length c5) y.l.length (boolCells y2.l), HP.blk g2 63 [.int .u8 k, .int .i64 id], HP.blk g4 71 [.slice B0 x.d.length c0, .slice B1 x.c.length c1, .slice B2 x.l.length c2, .slice B3 y.d.length c3, .slice B4 y.c.length c4, .slice B5 y.l.length c5], HP.blk g3 71 [.slice none 0 0, .slice none 0 0, .slice none 0 0, .slice none 0 0, .slice none 0 0, .slice none 0 0]]) ?_ ?_
  ·by_cases k0 : k = 117 ∨ k = 100 ∨ k = 107
   ·rw [show listV k (.slice B3 y.d.length c3) (.slice B4 y.c.length c4) (.slice B5 y.l.length c5) = .slice B3 y.d.length c3 by rw [listV, if_pos k0]]
    refine XK.go ?_
    refine xk_split (t := 47) rfl (fun hid => ?_) (fun hid => ?_)
    ·refine XK.go ?_
     refine XK.if_ rfl (fun hid2 => ?_) (fun hid2 => ?_)
     ·have hin : 0 ≤ id ∧ id < (y.d.length : Int) := ⟨hid, hid2⟩
      have e1 : doneX x 1 k id = x := by simp [doneX, setW, k0]
      have e2 : doneY y 1 k id = ⟨setBL y.d id (decide (onB k)), y.c, y.l⟩ := by simp [doneY, setW, k0]
      refine XK.ownAt 3 rfl (by omega) ?_
      rintro ⟨gb, rfl⟩
      refine XK.openOwn 3 rfl fun cs hcl hct hnc hcm => ?_
      dsimp only [List.set]
      have hct1 : cs.take y.d.length = boolCells y.d := by simpa using hct
      have hcl1 : cs.length = c3 := by simpa using hcl
      refine XK.drawB [1, 2, 3, 4] ?_
      refine XB.mv 0 ?_
      refine XB.q 1 ?_
      refine XB.q 2 ?_
      refine XB.q 3 ?_
      refine XB.q 4 ?_
      refine XB.next 5 rfl (by kernel_rfl) ?_
      refine kcall (fun w1 t => on_any k w1) ?_
      refine XB.bk ?_
      refine XB.next 6 rfl (by kernel_rfl) ?_
      refine kd (dat id.toNat id.toNat) ?_
      refine XB.bt ?_
      refine XB.next 7 rfl (by kernel_rfl) ?_
      refine kst rfl rfl ?_
      dsimp only [List.set]
      refine XB.bt ?_
      refine XB.done (by kernel_rfl) ?_
      refine XK.go ?_
      refine XK.closeOwn 3 (n := y.d.length) (c := c3) (sz := 1) (xs := boolCells (setBL y.d id (decide (onB k)))) rfl (by simpa using hcl) (by rw [Nat.mul_one, ← boolCells_setB _ hin, ← hct1, List.take_set]) hnc hcm ?_
      dsimp only [List.set]
      exact XK.weak [0, 1, 2, 3, 4, 5, 6, 7, 8] rfl (by decide) (fun _ h => h) (XK.envS [(7, .pointer (some ⟨g4, 0, none⟩)), (6, .pointer (some ⟨g3, 0, none⟩))] (XK.meet ⟨rfl, rfl, x, ⟨setBL y.d id (decide (onB k)), y.c, y.l⟩, e1.symm, e2.symm, rfl⟩))
     ·have hin : ¬ (0 ≤ id ∧ id < (y.d.length : Int)) := fun h => hid2 h.2
      have e1 : doneX x 1 k id = x := by simp [doneX, setW, k0, setBL_out _ hin]
      have e2 : doneY y 1 k id = y := by simp [doneY, setW, k0, setBL_out _ hin]
      refine XK.go ?_
      exact XK.weak [0, 1, 2, 3, 4, 5, 6, 7, 8] rfl (by decide) (fun _ h => h) (XK.envS [(7, .pointer (some ⟨g4, 0, none⟩)), (6, .pointer (some ⟨g3, 0, none⟩))] (XK.meet ⟨rfl, rfl, x, y, e1.symm, e2.symm, rfl⟩))
    ·have hin : ¬ (0 ≤ id ∧ id < (y.d.length : Int)) := fun h => hid h.1
     have e1 : doneX x 1 k id = x := by simp [doneX, setW, k0, setBL_out _ hin]
     have e2 : doneY y 1 k id = y := by simp [doneY, setW, k0, setBL_out _ hin]
     refine XK.go ?_
     exact XK.weak [0, 1, 2, 3, 4, 5, 6, 7, 8] rfl (by decide) (fun _ h => h) (XK.envS [(7, .pointer (some ⟨g4, 0, none⟩)), (6, .pointer (some ⟨g3, 0, none⟩))] (XK.meet ⟨rfl, rfl, x, y, e1.symm, e2.symm, rfl⟩))
   by_cases k1 : k = 99 ∨ k = 111
   ·rw [show listV k (.slice B3 y.d.length c3) (.slice B4 y.c.length c4) (.slice B5 y.l.length c5) = .slice B4 y.c.length c4 by rw [listV, if_neg k0, if_pos k1]]
    refine XK.go ?_
    refine xk_split (t := 47) rfl (fun hid => ?_) (fun hid => ?_)
    ·refine XK.go ?_
     refine XK.if_ rfl (fun hid2 => ?_) (fun hid2 => ?_)
     ·have hin : 0 ≤ id ∧ id < (y.c.length : Int) := ⟨hid, hid2⟩
      have e1 : doneX x 1 k id = x := by simp [doneX, setW, k0, k1]
      have e2 : doneY y 1 k id = ⟨y.d, setBL y.c id (decide (onB k)), y.l⟩ := by simp [doneY, setW, k0, k1]
      refine XK.ownAt 4 rfl (by omega) ?_
      rintro ⟨gb, rfl⟩
      refine XK.openOwn 4 rfl fun cs hcl hct hnc hcm => ?_
      dsimp only [List.set]
      have hct1 : cs.take y.c.length = boolCells y.c := by simpa using hct
      have hcl1 : cs.length = c4 := by simpa using hcl
      refine XK.drawB [1, 2, 3, 4] ?_
      refine XB.mv 0 ?_
      refine XB.q 1 ?_
      refine XB.q 2 ?_
      refine XB.q 3 ?_
      refine XB.q 4 ?_
      refine XB.next 5 rfl (by kernel_rfl) ?_
      refine kcall (fun w1 t => on_any k w1) ?_
      refine XB.bk ?_
      refine XB.next 6 rfl (by kernel_rfl) ?_
      refine kd (dat id.toNat id.toNat) ?_
      refine XB.bt ?_
      refine XB.next 7 rfl (by kernel_rfl) ?_
      refine kst rfl rfl ?_
      dsimp only [List.set]
      refine XB.bt ?_
      refine XB.done (by kernel_rfl) ?_
      refine XK.go ?_
      refine XK.closeOwn 4 (n := y.c.length) (c := c4) (sz := 1) (xs := boolCells (setBL y.c id (decide (onB k)))) rfl (by simpa using hcl) (by rw [Nat.mul_one, ← boolCells_setB _ hin, ← hct1, List.take_set]) hnc hcm ?_
      dsimp only [List.set]
      exact XK.weak [0, 1, 2, 3, 4, 5, 6, 7, 8] rfl (by decide) (fun _ h => h) (XK.envS [(7, .pointer (some ⟨g4, 0, none⟩)), (6, .pointer (some ⟨g3, 0, none⟩))] (XK.meet ⟨rfl, rfl, x, ⟨y.d, setBL y.c id (decide (onB k)), y.l⟩, e1.symm, e2.symm, rfl⟩))
     ·have hin : ¬ (0 ≤ id ∧ id < (y.c.length : Int)) := fun h => hid2 h.2
      have e1 : doneX x 1 k id = x := by simp [doneX, setW, k0, k1, setBL_out _ hin]
      have e2 : doneY y 1 k id = y := by simp [doneY, setW, k0, k1, setBL_out _ hin]
      refine XK.go ?_
      exact XK.weak [0, 1, 2, 3, 4, 5, 6, 7, 8] rfl (by decide) (fun _ h => h) (XK.envS [(7, .pointer (some ⟨g4, 0, none⟩)), (6, .pointer (some ⟨g3, 0, none⟩))] (XK.meet ⟨rfl, rfl, x, y, e1.symm, e2.symm, rfl⟩))
    ·have hin : ¬ (0 ≤ id ∧ id < (y.c.length : Int)) := fun h => hid h.1
     have e1 : doneX x 1 k id = x := by simp [doneX, setW, k0, k1, setBL_out _ hin]
     have e2 : doneY y 1 k id = y := by simp [doneY, setW, k0, k1, setBL_out _ hin]
     refine XK.go ?_
     exact XK.weak [0, 1, 2, 3, 4, 5, 6, 7, 8] rfl (by decide) (fun _ h => h) (XK.envS [(7, .pointer (some ⟨g4, 0, none⟩)), (6, .pointer (some ⟨g3, 0, none⟩))] (XK.meet ⟨rfl, rfl, x, y, e1.symm, e2.symm, rfl⟩))
   by_cases k2 : k = 114 ∨ k = 97
   ·rw [show listV k (.slice B3 y.d.length c3) (.slice B4 y.c.length c4) (.slice B5 y.l.length c5) = .slice B5 y.l.length c5 by rw [listV, if_neg k0, if_neg k1, if_pos k2]]
    refine XK.go ?_
    refine xk_split (t := 47) rfl (fun hid => ?_) (fun hid => ?_)
    ·refine XK.go ?_
     refine XK.if_ rfl (fun hid2 => ?_) (fun hid2 => ?_)
     ·have hin : 0 ≤ id ∧ id < (y.l.length : Int) := ⟨hid, hid2⟩
      have e1 : doneX x 1 k id = x := by simp [doneX, setW, k0, k1, k2]
      have e2 : doneY y 1 k id = ⟨y.d, y.c, setBL y.l id (decide (onB k))⟩ := by simp [doneY, setW, k0, k1, k2]
      refine XK.ownAt 5 rfl (by omega) ?_
      rintro ⟨gb, rfl⟩
      refine XK.openOwn 5 rfl fun cs hcl hct hnc hcm => ?_
      dsimp only [List.set]
      have hct1 : cs.take y.l.length = boolCells y.l := by simpa using hct
      have hcl1 : cs.length = c5 := by simpa using hcl
      refine XK.drawB [1, 2, 3, 4] ?_
      refine XB.mv 0 ?_
      refine XB.q 1 ?_
      refine XB.q 2 ?_
      refine XB.q 3 ?_
      refine XB.q 4 ?_
      refine XB.next 5 rfl (by kernel_rfl) ?_
      refine kcall (fun w1 t => on_any k w1) ?_
      refine XB.bk ?_
      refine XB.next 6 rfl (by kernel_rfl) ?_
      refine kd (dat id.toNat id.toNat) ?_
      refine XB.bt ?_
      refine XB.next 7 rfl (by kernel_rfl) ?_
      refine kst rfl rfl ?_
      dsimp only [List.set]
      refine XB.bt ?_
      refine XB.done (by kernel_rfl) ?_
      refine XK.go ?_
      refine XK.closeOwn 5 (n := y.l.length) (c := c5) (sz := 1) (xs := boolCells (setBL y.l id (decide (onB k)))) rfl (by simpa using hcl) (by rw [Nat.mul_one, ← boolCells_setB _ hin, ← hct1, List.take_set]) hnc hcm ?_
      dsimp only [List.set]
      exact XK.weak [0, 1, 2, 3, 4, 5, 6, 7, 8] rfl (by decide) (fun _ h => h) (XK.envS [(7, .pointer (some ⟨g4, 0, none⟩)), (6, .pointer (some ⟨g3, 0, none⟩))] (XK.meet ⟨rfl, rfl, x, ⟨y.d, y.c, setBL y.l id (decide (onB k))⟩, e1.symm, e2.symm, rfl⟩))
     ·have hin : ¬ (0 ≤ id ∧ id < (y.l.length : Int)) := fun h => hid2 h.2
      have e1 : doneX x 1 k id = x := by simp [doneX, setW, k0, k1, k2, setBL_out _ hin]
      have e2 : doneY y 1 k id = y := by simp [doneY, setW, k0, k1, k2, setBL_out _ hin]
      refine XK.go ?_
      exact XK.weak [0, 1, 2, 3, 4, 5, 6, 7, 8] rfl (by decide) (fun _ h => h) (XK.envS [(7, .pointer (some ⟨g4, 0, none⟩)), (6, .pointer (some ⟨g3, 0, none⟩))] (XK.meet ⟨rfl, rfl, x, y, e1.symm, e2.symm, rfl⟩))
    ·have hin : ¬ (0 ≤ id ∧ id < (y.l.length : Int)) := fun h => hid h.1
     have e1 : doneX x 1 k id = x := by simp [doneX, setW, k0, k1, k2, setBL_out _ hin]
     have e2 : doneY y 1 k id = y := by simp [doneY, setW, k0, k1, k2, setBL_out _ hin]
     refine XK.go ?_
     exact XK.weak [0, 1, 2, 3, 4, 5, 6, 7, 8] rfl (by decide) (fun _ h => h) (XK.envS [(7, .pointer (some ⟨g4, 0, none⟩)), (6, .pointer (some ⟨g3, 0, none⟩))] (XK.meet ⟨rfl, rfl, x, y, e1.symm, e2.symm, rfl⟩))
   rw [show listV k (.slice B3 y.d.length c3) (.slice B4 y.c.length c4) (.slice B5 y.l.length c5) = .slice none 0 0 by rw [listV, if_neg k0, if_neg k1, if_neg k2]]
   have e1 : doneX x 1 k id = x := by simp [doneX, setW, k0, k1, k2]
   have e2 : doneY y 1 k id = y := by simp [doneY, setW, k0, k1, k2]
   refine XK.go ?_
   refine xk_split (t := 47) rfl (fun hid => ?_) (fun hid => ?_)
   ·refine XK.go ?_
    refine XK.if_ rfl (fun h => absurd h (by omega)) (fun _ => ?_)
    refine XK.go ?_
    exact XK.weak [0, 1, 2, 3, 4, 5, 6, 7, 8] rfl (by decide) (fun _ h => h) (XK.envS [(7, .pointer (some ⟨g4, 0, none⟩)), (6, .pointer (some ⟨g3, 0, none⟩))] (XK.meet ⟨rfl, rfl, x, y, e1.symm, e2.symm, rfl⟩))
   ·refine XK.go ?_
    exact XK.weak [0, 1, 2, 3, 4, 5, 6, 7, 8] rfl (by decide) (fun _ h => h) (XK.envS [(7, .pointer (some ⟨g4, 0, none⟩)), (6, .pointer (some ⟨g3, 0, none⟩))] (XK.meet ⟨rfl, rfl, x, y, e1.symm, e2.symm, rfl⟩))
  ·rintro _ _ _ ⟨rfl, rfl, x2, y2, hx2, hy2, rfl⟩
   refine XK.weak [7, 8, 0, 1, 2, 3, 4, 5] rfl (by decide) (fun _ h => h) ?_
   refine XK.go ?_
   refine XK.still [] [2, 3, 4, 5, 6, 7] [0, 1] (by simp) rfl (by decide) (by decide) fun q hq _ hfr => ?_
   obtain ⟨F0, sf0, zf0⟩ := hq 2 _ (by simp) rfl
   have hs0 := SlS.own (q := q) ⟨F0, sf0, zf0⟩
   obtain ⟨F1, sf1, zf1⟩ := hq 3 _ (by simp) rfl
   have hs1 := SlS.own (q := q) ⟨F1, sf1, zf1⟩
   obtain ⟨F2, sf2, zf2⟩ := hq 4 _ (by simp) rfl
   have hs2 := SlS.own (q := q) ⟨F2, sf2, zf2⟩
   obtain ⟨F3, sf3, zf3⟩ := hq 5 _ (by simp) rfl
   have hs3 := SlS.own (q := q) ⟨F3, sf3, zf3⟩
   obtain ⟨F4, sf4, zf4⟩ := hq 6 _ (by simp) rfl
   have hs4 := SlS.own (q := q) ⟨F4, sf4, zf4⟩
   obtain ⟨F5, sf5, zf5⟩ := hq 7 _ (by simp) rfl
   have hs5 := SlS.own (q := q) ⟨F5, sf5, zf5⟩
   refine XK.retC rfl (n := 6) (vs := [.slice B0 x.d.length c0, .slice B1 x.c.length c1, .slice B2 x.l.length c2, .slice B3 y.d.length c3, .slice B4 y.c.length c4, .slice B5 y.l.length c5]) (by kernel_rfl) rfl rfl (RdN.whole 1 rfl) fun w1 st => ⟨⟨_, rfl, ?_⟩, st.below (by simp)⟩
   have hle := st.fresh_le (by simp) (hfr (by simp) (by simp))
   have l1 : x2.d.length = x.d.length ∧ x2.c.length = x.c.length ∧ x2.l.length = x.l.length ∧ y2.d.length = y.d.length ∧ y2.c.length = y.c.length ∧ y2.l.length = y.l.length := by
    rw [hx2, hy2]
    exact done_len x y _ k id
   rw [← hx2, ← hy2]
   obtain ⟨l1, l2, l3, l4, l5, l6⟩ := l1
   refine ⟨B0, c0, B1, c1, B2, c2, B3, c3, B4, c4, B5, c5, ?_, ?_, ?_, ?_, ?_, ?_, ?_⟩
   ·rw [l1, l2, l3, l4, l5, l6]
   ·rw [l1]; exact hs0.le hle
   ·rw [l2]; exact hs1.le hle
   ·rw [l3]; exact hs2.le hle
   ·rw [l4]; exact hs3.le hle
   ·rw [l5]; exact hs4.le hle
   ·rw [l6]; exact hs5.le hle
end
end Go.Proofs.YticjkhagldkejaaGreatDoor
