/- package table: what the words of a message alone tell. -/
import Derived.Test.YtbcfbafpeidifaaTableTwiceK3
namespace Go.Proofs.Ytbcfbafpeidifaa
set_option linter.all false
open Go.RowKit

theorem number_S (s : Soc) (A1 A2 A3 A4 : Option Addr) (n1 k1 n2 k2 n3 k3 n4 k4 : Nat) (p : Int) {w0 : World} (w : World) (hS : SocW w0 s A1 n1 A2 n2 A3 n3 A4 n4) : Calls Try.prog 52 #[.agg #[.slice A1 n1 k1, .slice A2 n2 k2, .slice A3 n3 k3, .slice A4 n4 k4], .int .i64 p] w (Rt (.int .i64 (numF s p)) w) := by
  obtain ⟨h1, h2, h3, h4⟩ := And.intro hS.len1 (And.intro hS.len2 (And.intro hS.len3 hS.len4))
  subst h1 h2 h3 h4
  exact number_any s A1 A2 A3 A4 k1 k2 k3 k4 p w
theorem read_any (s : Soc) (A1 A2 A3 A4 : Option Addr) (n1 k1 n2 k2 n3 k3 n4 k4 : Nat) (A : Option Addr) (n c : Nat) (l : List Int) (w : World) (hS : SocW w s A1 n1 A2 n2 A3 n3 A4 n4) (hl : SlS (all w) 1 A n (u32Cells l)) (hn : n = l.length) (hn2 : n ≤ 1000000) (hu : U32s l) :
    Calls Try.prog 15 #[.agg #[.slice A1 n1 k1, .slice A2 n2 k2, .slice A3 n3 k3, .slice A4 n4 k4], .slice A n c] w (Rt (actV (readF s l)) w) := by
  refine XK.enter (vs := [.agg #[.slice A1 n1 k1, .slice A2 n2 k2, .slice A3 n3 k3, .slice A4 n4 k4], .slice A n c]) Try.func15 rfl Try.ntmps15 (by simp) ?_
  refine XK.seq ?_

  refine XK.region ?_
  refine xk_box rfl (by decide) fun g1 => ?_
  refine xk_assign rfl (by decide) ?_
  refine xk_alloc (cs := [.int .u8 0, .int .i64 0]) (zeroB_of (by kernel_rfl)) (by decide) fun g2 => ?_
  refine XK.nilN ?_
  refine XK.seq ?_
  refine XK.seq ?_

  refine XK.region ?_
  refine xk_move rfl (by decide) ?_
  refine xk_len (el := 54) (by kernel_rfl) rfl (by decide) ?_
  refine xk_eql rfl rfl (by decide) ?_
  refine XK.nilN ?_
  refine XK.if_ rfl (fun h => ?_) (fun h => ?_)
  ·
    refine XK.seq ?_

    refine XK.region ?_
    refine xk_buildS (zs := [.int .u8 0, .int .i64 0]) (L := [(0, 1), (1, 1)]) (zeroB_of (by kernel_rfl)) (by kernel_rfl) rfl (by simp [fillL, setN, Value.cells]; rfl) (by decide) ?_
    refine xk_assign rfl (by decide) ?_
    (first | (refine xk_storeN 0 rfl rfl rfl (by kernel_rfl) (by simp [Value.cells, Value.oneCell']) (by simp [Value.cells]) ?_) | (refine xk_storeN 1 rfl rfl rfl (by kernel_rfl) (by simp [Value.cells, Value.oneCell']) (by simp [Value.cells]) ?_) | (refine xk_storeN 2 rfl rfl rfl (by kernel_rfl) (by simp [Value.cells, Value.oneCell']) (by simp [Value.cells]) ?_) | (refine xk_storeN 3 rfl rfl rfl (by kernel_rfl) (by simp [Value.cells, Value.oneCell']) (by simp [Value.cells]) ?_) | (refine xk_storeN 4 rfl rfl rfl (by kernel_rfl) (by simp [Value.cells, Value.oneCell']) (by simp [Value.cells]) ?_) | (refine xk_storeN 5 rfl rfl rfl (by kernel_rfl) (by simp [Value.cells, Value.oneCell']) (by simp [Value.cells]) ?_) | (refine xk_storeN 6 rfl rfl rfl (by kernel_rfl) (by simp [Value.cells, Value.oneCell']) (by simp [Value.cells]) ?_) | (refine xk_storeN 7 rfl rfl rfl (by kernel_rfl) (by simp [Value.cells, Value.oneCell']) (by simp [Value.cells]) ?_) | (refine xk_storeN 8 rfl rfl rfl (by kernel_rfl) (by simp [Value.cells, Value.oneCell']) (by simp [Value.cells]) ?_)); simp only [putN, Value.cells, List.set, List.take, List.drop, List.nil_append, List.append_nil, List.length_cons, List.length_nil, List.cons_append, Nat.reduceAdd]
    refine XK.nilN ?_
    refine XK.ret ?_
    refine XK.norm ?_
    have hn0 : l = [] := List.eq_nil_of_length_eq_zero (by have h' : (n : Int) = 0 := h; omega)
    subst hn0
    exact XK.retTC (n := 2) (vs := [.int .u8 0, .int .i64 0]) rfl (by kernel_rfl) rfl rfl (by first | assumption | exact RdN.whole 0 rfl | exact RdN.whole 1 rfl | exact RdN.whole 2 rfl | exact RdN.whole 3 rfl | exact RdN.whole 4 rfl | exact RdN.whole 5 rfl | exact RdN.whole 6 rfl | exact RdN.whole 7 rfl | exact RdN.whole 8 rfl | exact RdN.roc (by simp) (by assumption)) rfl fun w9 st => ⟨rfl, st.below (by simp)⟩
  ·
    obtain ⟨b, off, rfl, hcell⟩ := hl.u32 (show 0 < n by have h' : ¬ (n : Int) = 0 := h; omega)
    obtain ⟨w1, r, rfl⟩ : ∃ x r, l = x :: r := by
      cases l with
      | nil => exact absurd (by simpa using hn) (show ¬ n = 0 by have h' : ¬ (n : Int) = 0 := h; omega)
      | cons x r => exact ⟨x, r, rfl⟩
    have hw1 := hcell 0 w1 rfl
    have hlen : n = r.length + 1 := by simpa using hn
    refine XK.skip ?_
    refine XK.norm ?_
    refine XK.seq ?_

    refine XK.region ?_
    refine xk_move rfl (by decide) ?_
    refine xk_at 0 off (el := 54) (sz := 1) (by kernel_rfl) (by kernel_rfl) rfl rfl (by rfl) (by omega) (by omega) (by decide) ?_
    refine xk_ld rfl ?_
    refine xk_callR (f := 50) (fi := []) (ca := []) (by kernel_rfl) rfl rfl (by decide) (v0 := .tuple #[.agg #[.int .i64 (hMsg w1), .int .i64 (hTyp w1), .int .i64 (hPro w1), .int .i64 (hTok w1)], .int .i64 (unpackE w1)]) (fun w2 st => (unpack_any w1 w2).mono fun x w3 hx => Rt.conv hx (by rw [unpackH_eq]; rfl)) ?_
    refine xk_move rfl (by decide) ?_
    refine xk_extract rfl rfl (by decide) ?_
    refine xk_extract rfl rfl (by decide) ?_
    refine xk_alloc (cs := [.int .i64 0, .int .i64 0, .int .i64 0, .int .i64 0]) (zeroB_of (by kernel_rfl)) (by decide) fun g3 => ?_
    (first | (refine xk_storeN 0 rfl rfl rfl (by kernel_rfl) (by simp [Value.cells, Value.oneCell']) (by simp [Value.cells]) ?_) | (refine xk_storeN 1 rfl rfl rfl (by kernel_rfl) (by simp [Value.cells, Value.oneCell']) (by simp [Value.cells]) ?_) | (refine xk_storeN 2 rfl rfl rfl (by kernel_rfl) (by simp [Value.cells, Value.oneCell']) (by simp [Value.cells]) ?_) | (refine xk_storeN 3 rfl rfl rfl (by kernel_rfl) (by simp [Value.cells, Value.oneCell']) (by simp [Value.cells]) ?_) | (refine xk_storeN 4 rfl rfl rfl (by kernel_rfl) (by simp [Value.cells, Value.oneCell']) (by simp [Value.cells]) ?_) | (refine xk_storeN 5 rfl rfl rfl (by kernel_rfl) (by simp [Value.cells, Value.oneCell']) (by simp [Value.cells]) ?_) | (refine xk_storeN 6 rfl rfl rfl (by kernel_rfl) (by simp [Value.cells, Value.oneCell']) (by simp [Value.cells]) ?_) | (refine xk_storeN 7 rfl rfl rfl (by kernel_rfl) (by simp [Value.cells, Value.oneCell']) (by simp [Value.cells]) ?_) | (refine xk_storeN 8 rfl rfl rfl (by kernel_rfl) (by simp [Value.cells, Value.oneCell']) (by simp [Value.cells]) ?_)); simp only [putN, Value.cells, List.set, List.take, List.drop, List.nil_append, List.append_nil, List.length_cons, List.length_nil, List.cons_append, Nat.reduceAdd]
    refine xk_assign rfl (by decide) ?_
    refine XK.nilN ?_
    refine XK.seq ?_
    refine XK.cutB 30 (unpackE w1 ≠ 0 ∨ hTyp w1 ≠ 0) ?_ ?_
    · skip

      refine XK.region ?_
      refine xk_move rfl (by decide) ?_
      refine xk_neq rfl rfl (by decide) ?_
      refine xk_move rfl (by decide) ?_
      (first | refine xk_split (t := 26) rfl (fun hg => ?_) (fun hg => ?_) | refine xk_splitB (t := 26) rfl (fun hg => ?_) (fun hg => ?_))
      ·
        refine xk_guardF rfl rfl rfl (by decide) ?_
        refine xk_guardF rfl rfl rfl (by decide) ?_
        refine xk_guardF rfl rfl rfl (by decide) ?_
        (first | refine xk_pickT rfl rfl (by decide) ?_ | refine xk_pickF rfl rfl (by decide) ?_)
        refine XK.nilN ?_
        exact XK.meetB (by repeat (first | exact trivial | refine ⟨rfl, ?_⟩)) (by first | exact get_iff rfl (by simp_all [notF, swit]) | exact get_false rfl (by simp_all [notF, swit]) | exact get_true rfl (by simp_all [notF, swit]))
      ·
        refine xk_guardT rfl rfl ?_; refine xk_field (off := 1) (by kernel_rfl) rfl (by decide) ?_
        refine xk_guardT rfl rfl ?_; refine xk_ld rfl ?_
        refine xk_guardT rfl rfl ?_; refine xk_neq rfl rfl (by decide) ?_
        (first | refine xk_pickT rfl rfl (by decide) ?_ | refine xk_pickF rfl rfl (by decide) ?_)
        refine XK.nilN ?_
        exact XK.meetB (by repeat (first | exact trivial | refine ⟨rfl, ?_⟩)) (by first | exact get_iff rfl (by simp_all [notF, swit]) | exact get_false rfl (by simp_all [notF, swit]) | exact get_true rfl (by simp_all [notF, swit]))
    refine XK.if_ rfl (fun h4 => ?_) (fun h4 => ?_)
    ·
      refine XK.seq ?_

      refine XK.region ?_
      refine xk_buildS (zs := [.int .u8 0, .int .i64 0]) (L := [(0, 1), (1, 1)]) (zeroB_of (by kernel_rfl)) (by kernel_rfl) rfl (by simp [fillL, setN, Value.cells]; rfl) (by decide) ?_
      refine xk_assign rfl (by decide) ?_
      (first | (refine xk_storeN 0 rfl rfl rfl (by kernel_rfl) (by simp [Value.cells, Value.oneCell']) (by simp [Value.cells]) ?_) | (refine xk_storeN 1 rfl rfl rfl (by kernel_rfl) (by simp [Value.cells, Value.oneCell']) (by simp [Value.cells]) ?_) | (refine xk_storeN 2 rfl rfl rfl (by kernel_rfl) (by simp [Value.cells, Value.oneCell']) (by simp [Value.cells]) ?_) | (refine xk_storeN 3 rfl rfl rfl (by kernel_rfl) (by simp [Value.cells, Value.oneCell']) (by simp [Value.cells]) ?_) | (refine xk_storeN 4 rfl rfl rfl (by kernel_rfl) (by simp [Value.cells, Value.oneCell']) (by simp [Value.cells]) ?_) | (refine xk_storeN 5 rfl rfl rfl (by kernel_rfl) (by simp [Value.cells, Value.oneCell']) (by simp [Value.cells]) ?_) | (refine xk_storeN 6 rfl rfl rfl (by kernel_rfl) (by simp [Value.cells, Value.oneCell']) (by simp [Value.cells]) ?_) | (refine xk_storeN 7 rfl rfl rfl (by kernel_rfl) (by simp [Value.cells, Value.oneCell']) (by simp [Value.cells]) ?_) | (refine xk_storeN 8 rfl rfl rfl (by kernel_rfl) (by simp [Value.cells, Value.oneCell']) (by simp [Value.cells]) ?_)); simp only [putN, Value.cells, List.set, List.take, List.drop, List.nil_append, List.append_nil, List.length_cons, List.length_nil, List.cons_append, Nat.reduceAdd]
      refine XK.nilN ?_
      refine XK.ret ?_
      refine XK.norm ?_
      exact XK.retTC (n := 2) (vs := [.int .u8 0, .int .i64 0]) rfl (by kernel_rfl) rfl rfl (by first | assumption | exact RdN.whole 0 rfl | exact RdN.whole 1 rfl | exact RdN.whole 2 rfl | exact RdN.whole 3 rfl | exact RdN.whole 4 rfl | exact RdN.whole 5 rfl | exact RdN.whole 6 rfl | exact RdN.whole 7 rfl | exact RdN.whole 8 rfl | exact RdN.roc (by simp) (by assumption)) rfl fun w9 st => ⟨by
        rw [readF, if_pos h4]; rfl, st.below (by simp)⟩
    ·
      refine XK.skip ?_
      refine XK.norm ?_
      refine XK.cut (fun e R H => ∃ g4, e = [(9, .bool (frmOf (hPro w1) (hMsg w1)).isSome), (8, .pointer (some ⟨g4, 0, none⟩)), (7, .int .i64 (unpackE w1)), (6, .pointer (some ⟨g3, 0, none⟩)), (5, .pointer (some ⟨g2, 0, none⟩)), (2, .pointer (some ⟨g1, 0, none⟩)), (1, .slice (some ⟨b, off, none⟩) n c)] ∧ R = [all w] ∧ H = [HP.blk g4 102 [.int .i64 (frmD (hPro w1) (hMsg w1)).n, .int .i64 (frmD (hPro w1) (hMsg w1)).m, .int .u8 (frmD (hPro w1) (hMsg w1)).a, .int .u8 (frmD (hPro w1) (hMsg w1)).b, .int .u8 (frmD (hPro w1) (hMsg w1)).c], HP.blk g3 53 [.int .i64 (hMsg w1), .int .i64 (hTyp w1), .int .i64 (hPro w1), .int .i64 (hTok w1)], HP.blk g2 43 [.int .u8 0, .int .i64 0], HP.blk g1 30 [.slice A1 n1 k1, .slice A2 n2 k2, .slice A3 n3 k3, .slice A4 n4 k4]]) ?_ ?_
      ·

        refine XK.draw 12 (by kernel_rfl) (by kernel_rfl) ?_
        refine XA.dA 1 rfl rfl rfl (does_field (off := 2) (by kernel_rfl) rfl) ?_
        refine XA.dA 2 rfl rfl rfl (does_ld rfl) ?_
        refine XA.dA 3 rfl rfl rfl (does_field (off := 0) (by kernel_rfl) rfl) ?_
        refine XA.dA 4 rfl rfl rfl (does_ld rfl) ?_
        refine XA.dA 5 rfl rfl rfl (does_buildS (zs := [.int .i64 0, .int .i64 0]) (L := [(0, 1), (1, 1)]) (zeroB_of (by kernel_rfl)) (by kernel_rfl) rfl (by simp [fillL, setN, Value.cells]; rfl)) ?_
        refine XA.either 0 10 rfl rfl (by kernel_rfl) ?_ ?_
        · refine xk_callN (f := 51) (fi := []) (ca := []) (by kernel_rfl) rfl rfl (by decide) FormsOk (fun w2 _ => forms_any w2) ?_
          rintro _ _ q1 ⟨gm, sub, rfl, hsub, rfl⟩ _
          simp only [List.cons_append, List.nil_append]
          refine XK.nil ?_; refine XK.thenN ?_; refine XA.back (fun _ h => h.tailR.tail) ?_
          refine XA.either 6 10 rfl rfl (by kernel_rfl) ?_ ?_
          · refine xk_lookupT (v := .agg #[.int .i64 (frmD (hPro w1) (hMsg w1)).n, .int .i64 (frmD (hPro w1) (hMsg w1)).m, .int .u8 (frmD (hPro w1) (hMsg w1)).a, .int .u8 (frmD (hPro w1) (hMsg w1)).b, .int .u8 (frmD (hPro w1) (hMsg w1)).c]) (et := 102) (l := sub.reverse.map frmE) Try.underlying104 msgK (z := frm 0 0 0 0 0) (by kernel_rfl) rfl (k := (hPro w1, hMsg w1)) rfl (fun w2 st => st.mapV (i := 0) rfl) (frm_look hsub _ _).1 (frm_look hsub _ _).2 (by decide) ?_
            refine XK.nil ?_; refine XK.thenN ?_; refine XA.back (fun _ h => h.tailR.tail) ?_
            refine XA.do_ 7 rfl rfl rfl (by decide) (does_move rfl) (by kernel_rfl) (fun _ _ _ h => h) (fun _ h => h.tailR.tail) ?_
            refine XA.do_ 8 rfl rfl rfl (by decide) (does_extract rfl rfl) (by kernel_rfl) (fun _ _ _ h => h) (fun _ h => h.tailR.tail) ?_
            refine XA.do_ 9 rfl rfl rfl (by decide) (does_extract rfl rfl) (by kernel_rfl) (fun _ _ _ h => h) (fun _ h => h.tailR.tail) ?_
            refine XA.next 10 rfl (by kernel_rfl) ?_
            refine xk_alloc (cs := [.int .i64 0, .int .i64 0, .int .u8 0, .int .u8 0, .int .u8 0]) (zeroB_of (by kernel_rfl)) (by decide) fun g4 => ?_
            refine XK.nil ?_; refine XK.thenN ?_; refine XA.back (fun _ h => h.tailR.tail.tail) ?_
            refine XA.next 11 rfl (by kernel_rfl) ?_
            (first | (refine xk_storeN 0 rfl rfl rfl (by kernel_rfl) (by simp [Value.cells, Value.oneCell']) (by simp [Value.cells]) ?_) | (refine xk_storeN 1 rfl rfl rfl (by kernel_rfl) (by simp [Value.cells, Value.oneCell']) (by simp [Value.cells]) ?_) | (refine xk_storeN 2 rfl rfl rfl (by kernel_rfl) (by simp [Value.cells, Value.oneCell']) (by simp [Value.cells]) ?_) | (refine xk_storeN 3 rfl rfl rfl (by kernel_rfl) (by simp [Value.cells, Value.oneCell']) (by simp [Value.cells]) ?_) | (refine xk_storeN 4 rfl rfl rfl (by kernel_rfl) (by simp [Value.cells, Value.oneCell']) (by simp [Value.cells]) ?_) | (refine xk_storeN 5 rfl rfl rfl (by kernel_rfl) (by simp [Value.cells, Value.oneCell']) (by simp [Value.cells]) ?_) | (refine xk_storeN 6 rfl rfl rfl (by kernel_rfl) (by simp [Value.cells, Value.oneCell']) (by simp [Value.cells]) ?_) | (refine xk_storeN 7 rfl rfl rfl (by kernel_rfl) (by simp [Value.cells, Value.oneCell']) (by simp [Value.cells]) ?_) | (refine xk_storeN 8 rfl rfl rfl (by kernel_rfl) (by simp [Value.cells, Value.oneCell']) (by simp [Value.cells]) ?_)); simp only [putN, Value.cells, List.set, List.take, List.drop, List.nil_append, List.append_nil, List.length_cons, List.length_nil, List.cons_append, Nat.reduceAdd]
            refine XK.nil ?_; refine XK.thenN ?_; refine XA.back (fun _ h => h.tailR.tail.tail) ?_
            refine XA.next 12 rfl (by kernel_rfl) ?_
            refine xk_assign rfl (by decide) ?_
            refine XA.bt ?_
            refine XA.done (by kernel_rfl) ?_
            refine XK.norm ?_
            exact XK.weak [0, 2, 3, 4] rfl (by decide) (by simp) (XK.envS [(9, .bool (frmOf (hPro w1) (hMsg w1)).isSome), (8, .pointer (some ⟨g4, 0, none⟩)), (7, .int .i64 (unpackE w1)), (6, .pointer (some ⟨g3, 0, none⟩)), (5, .pointer (some ⟨g2, 0, none⟩)), (2, .pointer (some ⟨g1, 0, none⟩)), (1, .slice (some ⟨b, off, none⟩) n c)] (XK.meet ⟨g4, rfl, rfl, rfl⟩))
          · refine xk_alloc (cs := [.int .i64 0, .int .i64 0, .int .u8 0, .int .u8 0, .int .u8 0]) (zeroB_of (by kernel_rfl)) (by decide) fun g4 => ?_
            refine XK.nil ?_; refine XK.thenN ?_; refine XA.back (fun _ h => h.tailR.tail.tail) ?_
            refine XA.next 6 rfl (by kernel_rfl) ?_
            refine xk_lookupT (v := .agg #[.int .i64 (frmD (hPro w1) (hMsg w1)).n, .int .i64 (frmD (hPro w1) (hMsg w1)).m, .int .u8 (frmD (hPro w1) (hMsg w1)).a, .int .u8 (frmD (hPro w1) (hMsg w1)).b, .int .u8 (frmD (hPro w1) (hMsg w1)).c]) (et := 102) (l := sub.reverse.map frmE) Try.underlying104 msgK (z := frm 0 0 0 0 0) (by kernel_rfl) rfl (k := (hPro w1, hMsg w1)) rfl (fun w2 st => st.mapV (i := 1) rfl) (frm_look hsub _ _).1 (frm_look hsub _ _).2 (by decide) ?_
            refine XK.nil ?_; refine XK.thenN ?_; refine XA.back (fun _ h => h.tailR.tail.tail) ?_
            refine XA.do_ 7 rfl rfl rfl (by decide) (does_move rfl) (by kernel_rfl) (fun _ _ _ h => h) (fun _ h => h.tailR.tail.tail) ?_
            refine XA.do_ 8 rfl rfl rfl (by decide) (does_extract rfl rfl) (by kernel_rfl) (fun _ _ _ h => h) (fun _ h => h.tailR.tail.tail) ?_
            refine XA.do_ 9 rfl rfl rfl (by decide) (does_extract rfl rfl) (by kernel_rfl) (fun _ _ _ h => h) (fun _ h => h.tailR.tail.tail) ?_
            refine XA.next 11 rfl (by kernel_rfl) ?_
            (first | (refine xk_storeN 0 rfl rfl rfl (by kernel_rfl) (by simp [Value.cells, Value.oneCell']) (by simp [Value.cells]) ?_) | (refine xk_storeN 1 rfl rfl rfl (by kernel_rfl) (by simp [Value.cells, Value.oneCell']) (by simp [Value.cells]) ?_) | (refine xk_storeN 2 rfl rfl rfl (by kernel_rfl) (by simp [Value.cells, Value.oneCell']) (by simp [Value.cells]) ?_) | (refine xk_storeN 3 rfl rfl rfl (by kernel_rfl) (by simp [Value.cells, Value.oneCell']) (by simp [Value.cells]) ?_) | (refine xk_storeN 4 rfl rfl rfl (by kernel_rfl) (by simp [Value.cells, Value.oneCell']) (by simp [Value.cells]) ?_) | (refine xk_storeN 5 rfl rfl rfl (by kernel_rfl) (by simp [Value.cells, Value.oneCell']) (by simp [Value.cells]) ?_) | (refine xk_storeN 6 rfl rfl rfl (by kernel_rfl) (by simp [Value.cells, Value.oneCell']) (by simp [Value.cells]) ?_) | (refine xk_storeN 7 rfl rfl rfl (by kernel_rfl) (by simp [Value.cells, Value.oneCell']) (by simp [Value.cells]) ?_) | (refine xk_storeN 8 rfl rfl rfl (by kernel_rfl) (by simp [Value.cells, Value.oneCell']) (by simp [Value.cells]) ?_)); simp only [putN, Value.cells, List.set, List.take, List.drop, List.nil_append, List.append_nil, List.length_cons, List.length_nil, List.cons_append, Nat.reduceAdd]
            refine XK.nil ?_; refine XK.thenN ?_; refine XA.back (fun _ h => h.tailR.tail.tail) ?_
            refine XA.next 12 rfl (by kernel_rfl) ?_
            refine xk_assign rfl (by decide) ?_
            refine XA.bt ?_
            refine XA.done (by kernel_rfl) ?_
            refine XK.norm ?_
            exact XK.weak [0, 2, 3, 4] rfl (by decide) (by simp) (XK.envS [(9, .bool (frmOf (hPro w1) (hMsg w1)).isSome), (8, .pointer (some ⟨g4, 0, none⟩)), (7, .int .i64 (unpackE w1)), (6, .pointer (some ⟨g3, 0, none⟩)), (5, .pointer (some ⟨g2, 0, none⟩)), (2, .pointer (some ⟨g1, 0, none⟩)), (1, .slice (some ⟨b, off, none⟩) n c)] (XK.meet ⟨g4, rfl, rfl, rfl⟩))
        · refine xk_alloc (cs := [.int .i64 0, .int .i64 0, .int .u8 0, .int .u8 0, .int .u8 0]) (zeroB_of (by kernel_rfl)) (by decide) fun g4 => ?_
          refine XK.nil ?_; refine XK.thenN ?_; refine XA.back (fun _ h => h.tail) ?_
          refine XA.next 0 rfl (by kernel_rfl) ?_
          refine xk_callN (f := 51) (fi := []) (ca := []) (by kernel_rfl) rfl rfl (by decide) FormsOk (fun w2 _ => forms_any w2) ?_
          rintro _ _ q1 ⟨gm, sub, rfl, hsub, rfl⟩ _
          simp only [List.cons_append, List.nil_append]
          refine XK.nil ?_; refine XK.thenN ?_; refine XA.back (fun _ h => h.tailR.tail.tail) ?_
          refine XA.next 6 rfl (by kernel_rfl) ?_
          refine xk_lookupT (v := .agg #[.int .i64 (frmD (hPro w1) (hMsg w1)).n, .int .i64 (frmD (hPro w1) (hMsg w1)).m, .int .u8 (frmD (hPro w1) (hMsg w1)).a, .int .u8 (frmD (hPro w1) (hMsg w1)).b, .int .u8 (frmD (hPro w1) (hMsg w1)).c]) (et := 102) (l := sub.reverse.map frmE) Try.underlying104 msgK (z := frm 0 0 0 0 0) (by kernel_rfl) rfl (k := (hPro w1, hMsg w1)) rfl (fun w2 st => st.mapV (i := 0) rfl) (frm_look hsub _ _).1 (frm_look hsub _ _).2 (by decide) ?_
          refine XK.nil ?_; refine XK.thenN ?_; refine XA.back (fun _ h => h.tailR.tail.tail) ?_
          refine XA.do_ 7 rfl rfl rfl (by decide) (does_move rfl) (by kernel_rfl) (fun _ _ _ h => h) (fun _ h => h.tailR.tail.tail) ?_
          refine XA.do_ 8 rfl rfl rfl (by decide) (does_extract rfl rfl) (by kernel_rfl) (fun _ _ _ h => h) (fun _ h => h.tailR.tail.tail) ?_
          refine XA.do_ 9 rfl rfl rfl (by decide) (does_extract rfl rfl) (by kernel_rfl) (fun _ _ _ h => h) (fun _ h => h.tailR.tail.tail) ?_
          refine XA.next 11 rfl (by kernel_rfl) ?_
          (first | (refine xk_storeN 0 rfl rfl rfl (by kernel_rfl) (by simp [Value.cells, Value.oneCell']) (by simp [Value.cells]) ?_) | (refine xk_storeN 1 rfl rfl rfl (by kernel_rfl) (by simp [Value.cells, Value.oneCell']) (by simp [Value.cells]) ?_) | (refine xk_storeN 2 rfl rfl rfl (by kernel_rfl) (by simp [Value.cells, Value.oneCell']) (by simp [Value.cells]) ?_) | (refine xk_storeN 3 rfl rfl rfl (by kernel_rfl) (by simp [Value.cells, Value.oneCell']) (by simp [Value.cells]) ?_) | (refine xk_storeN 4 rfl rfl rfl (by kernel_rfl) (by simp [Value.cells, Value.oneCell']) (by simp [Value.cells]) ?_) | (refine xk_storeN 5 rfl rfl rfl (by kernel_rfl) (by simp [Value.cells, Value.oneCell']) (by simp [Value.cells]) ?_) | (refine xk_storeN 6 rfl rfl rfl (by kernel_rfl) (by simp [Value.cells, Value.oneCell']) (by simp [Value.cells]) ?_) | (refine xk_storeN 7 rfl rfl rfl (by kernel_rfl) (by simp [Value.cells, Value.oneCell']) (by simp [Value.cells]) ?_) | (refine xk_storeN 8 rfl rfl rfl (by kernel_rfl) (by simp [Value.cells, Value.oneCell']) (by simp [Value.cells]) ?_)); simp only [putN, Value.cells, List.set, List.take, List.drop, List.nil_append, List.append_nil, List.length_cons, List.length_nil, List.cons_append, Nat.reduceAdd]
          refine XK.nil ?_; refine XK.thenN ?_; refine XA.back (fun _ h => h.tailR.tail.tail) ?_
          refine XA.next 12 rfl (by kernel_rfl) ?_
          refine xk_assign rfl (by decide) ?_
          refine XA.bt ?_
          refine XA.done (by kernel_rfl) ?_
          refine XK.norm ?_
          exact XK.weak [1, 2, 3, 4] rfl (by decide) (by simp) (XK.envS [(9, .bool (frmOf (hPro w1) (hMsg w1)).isSome), (8, .pointer (some ⟨g4, 0, none⟩)), (7, .int .i64 (unpackE w1)), (6, .pointer (some ⟨g3, 0, none⟩)), (5, .pointer (some ⟨g2, 0, none⟩)), (2, .pointer (some ⟨g1, 0, none⟩)), (1, .slice (some ⟨b, off, none⟩) n c)] (XK.meet ⟨g4, rfl, rfl, rfl⟩))
      rintro _ _ _ ⟨g4, rfl, rfl, rfl⟩
      obtain ⟨hF1, hF2, hF3, hF4, hF5⟩ := frm_ok (hPro w1) (hMsg w1)
      refine XK.seq ?_
      refine XK.seq ?_

      refine XK.region ?_
      refine xk_move rfl (by decide) ?_
      (first | refine xk_notD rfl (by decide) ?_ | refine xk_not rfl (by decide) ?_)
      refine XK.nilN ?_
      refine XK.cond rfl (fun h7 => ?_) (fun h7 => ?_)
      ·
        refine XK.seq ?_

        refine XK.region ?_
        refine xk_buildS (zs := [.int .u8 0, .int .i64 0]) (L := [(0, 1), (1, 1)]) (zeroB_of (by kernel_rfl)) (by kernel_rfl) rfl (by simp [fillL, setN, Value.cells]; rfl) (by decide) ?_
        refine xk_assign rfl (by decide) ?_
        (first | (refine xk_storeN 0 rfl rfl rfl (by kernel_rfl) (by simp [Value.cells, Value.oneCell']) (by simp [Value.cells]) ?_) | (refine xk_storeN 1 rfl rfl rfl (by kernel_rfl) (by simp [Value.cells, Value.oneCell']) (by simp [Value.cells]) ?_) | (refine xk_storeN 2 rfl rfl rfl (by kernel_rfl) (by simp [Value.cells, Value.oneCell']) (by simp [Value.cells]) ?_) | (refine xk_storeN 3 rfl rfl rfl (by kernel_rfl) (by simp [Value.cells, Value.oneCell']) (by simp [Value.cells]) ?_) | (refine xk_storeN 4 rfl rfl rfl (by kernel_rfl) (by simp [Value.cells, Value.oneCell']) (by simp [Value.cells]) ?_) | (refine xk_storeN 5 rfl rfl rfl (by kernel_rfl) (by simp [Value.cells, Value.oneCell']) (by simp [Value.cells]) ?_) | (refine xk_storeN 6 rfl rfl rfl (by kernel_rfl) (by simp [Value.cells, Value.oneCell']) (by simp [Value.cells]) ?_) | (refine xk_storeN 7 rfl rfl rfl (by kernel_rfl) (by simp [Value.cells, Value.oneCell']) (by simp [Value.cells]) ?_) | (refine xk_storeN 8 rfl rfl rfl (by kernel_rfl) (by simp [Value.cells, Value.oneCell']) (by simp [Value.cells]) ?_)); simp only [putN, Value.cells, List.set, List.take, List.drop, List.nil_append, List.append_nil, List.length_cons, List.length_nil, List.cons_append, Nat.reduceAdd]
        refine XK.nilN ?_
        refine XK.ret ?_
        refine XK.norm ?_
        exact XK.retTC (n := 2) (vs := [.int .u8 0, .int .i64 0]) rfl (by kernel_rfl) rfl rfl (by first | assumption | exact RdN.whole 0 rfl | exact RdN.whole 1 rfl | exact RdN.whole 2 rfl | exact RdN.whole 3 rfl | exact RdN.whole 4 rfl | exact RdN.whole 5 rfl | exact RdN.whole 6 rfl | exact RdN.whole 7 rfl | exact RdN.whole 8 rfl | exact RdN.roc (by simp) (by assumption)) rfl fun w9 st => ⟨by
          rw [readF, if_neg h4, if_pos (by revert h7; cases (frmOf (hPro w1) (hMsg w1)).isSome <;> simp)]; rfl, st.below (by simp)⟩
      ·
        have h7' : ¬ (frmOf (hPro w1) (hMsg w1)).isSome = false := by revert h7; cases (frmOf (hPro w1) (hMsg w1)).isSome <;> simp
        refine XK.skip ?_
        refine XK.norm ?_
        refine XK.seq ?_
        refine XK.seq ?_

        refine XK.region ?_
        refine xk_move rfl (by decide) ?_
        refine xk_len (el := 54) (by kernel_rfl) rfl (by decide) ?_
        refine xk_sub rfl rfl (wrap_in (by omega)) (by decide) ?_
        refine xk_field (off := 0) (by kernel_rfl) rfl (by decide) ?_
        refine xk_ld rfl ?_
        refine xk_neq rfl rfl (by decide) ?_
        refine XK.nilN ?_
        refine XK.if_ rfl (fun h9 => ?_) (fun h9 => ?_)
        ·
          refine XK.seq ?_

          refine XK.region ?_
          refine xk_buildS (zs := [.int .u8 0, .int .i64 0]) (L := [(0, 1), (1, 1)]) (zeroB_of (by kernel_rfl)) (by kernel_rfl) rfl (by simp [fillL, setN, Value.cells]; rfl) (by decide) ?_
          refine xk_assign rfl (by decide) ?_
          (first | (refine xk_storeN 0 rfl rfl rfl (by kernel_rfl) (by simp [Value.cells, Value.oneCell']) (by simp [Value.cells]) ?_) | (refine xk_storeN 1 rfl rfl rfl (by kernel_rfl) (by simp [Value.cells, Value.oneCell']) (by simp [Value.cells]) ?_) | (refine xk_storeN 2 rfl rfl rfl (by kernel_rfl) (by simp [Value.cells, Value.oneCell']) (by simp [Value.cells]) ?_) | (refine xk_storeN 3 rfl rfl rfl (by kernel_rfl) (by simp [Value.cells, Value.oneCell']) (by simp [Value.cells]) ?_) | (refine xk_storeN 4 rfl rfl rfl (by kernel_rfl) (by simp [Value.cells, Value.oneCell']) (by simp [Value.cells]) ?_) | (refine xk_storeN 5 rfl rfl rfl (by kernel_rfl) (by simp [Value.cells, Value.oneCell']) (by simp [Value.cells]) ?_) | (refine xk_storeN 6 rfl rfl rfl (by kernel_rfl) (by simp [Value.cells, Value.oneCell']) (by simp [Value.cells]) ?_) | (refine xk_storeN 7 rfl rfl rfl (by kernel_rfl) (by simp [Value.cells, Value.oneCell']) (by simp [Value.cells]) ?_) | (refine xk_storeN 8 rfl rfl rfl (by kernel_rfl) (by simp [Value.cells, Value.oneCell']) (by simp [Value.cells]) ?_)); simp only [putN, Value.cells, List.set, List.take, List.drop, List.nil_append, List.append_nil, List.length_cons, List.length_nil, List.cons_append, Nat.reduceAdd]
          refine XK.nilN ?_
          refine XK.ret ?_
          refine XK.norm ?_
          exact XK.retTC (n := 2) (vs := [.int .u8 0, .int .i64 0]) rfl (by kernel_rfl) rfl rfl (by first | assumption | exact RdN.whole 0 rfl | exact RdN.whole 1 rfl | exact RdN.whole 2 rfl | exact RdN.whole 3 rfl | exact RdN.whole 4 rfl | exact RdN.whole 5 rfl | exact RdN.whole 6 rfl | exact RdN.whole 7 rfl | exact RdN.whole 8 rfl | exact RdN.roc (by simp) (by assumption)) rfl fun w9 st => ⟨by
            rw [readF, if_neg h4, if_neg h7', if_pos (by omega)]; rfl, st.below (by simp)⟩
        ·
          have h9' : ¬ (r.length : Int) ≠ (frmD (hPro w1) (hMsg w1)).n := by omega
          refine XK.skip ?_
          refine XK.norm ?_
          refine XK.seq ?_
          refine XK.seq ?_

          refine XK.region ?_
          refine xk_field (off := 0) (by kernel_rfl) rfl (by decide) ?_
          refine xk_ld rfl ?_
          refine xk_eql rfl rfl (by decide) ?_
          refine XK.nilN ?_
          refine XK.if_ rfl (fun h11 => ?_) (fun h11 => ?_)
          ·
            refine XK.seq ?_

            refine XK.region ?_
            refine xk_buildS (zs := [.int .u8 0, .int .i64 0]) (L := [(0, 1), (1, 1)]) (zeroB_of (by kernel_rfl)) (by kernel_rfl) rfl (by simp [fillL, setN, Value.cells]; rfl) (by decide) ?_
            refine xk_assign rfl (by decide) ?_
            (first | (refine xk_storeN 0 rfl rfl rfl (by kernel_rfl) (by simp [Value.cells, Value.oneCell']) (by simp [Value.cells]) ?_) | (refine xk_storeN 1 rfl rfl rfl (by kernel_rfl) (by simp [Value.cells, Value.oneCell']) (by simp [Value.cells]) ?_) | (refine xk_storeN 2 rfl rfl rfl (by kernel_rfl) (by simp [Value.cells, Value.oneCell']) (by simp [Value.cells]) ?_) | (refine xk_storeN 3 rfl rfl rfl (by kernel_rfl) (by simp [Value.cells, Value.oneCell']) (by simp [Value.cells]) ?_) | (refine xk_storeN 4 rfl rfl rfl (by kernel_rfl) (by simp [Value.cells, Value.oneCell']) (by simp [Value.cells]) ?_) | (refine xk_storeN 5 rfl rfl rfl (by kernel_rfl) (by simp [Value.cells, Value.oneCell']) (by simp [Value.cells]) ?_) | (refine xk_storeN 6 rfl rfl rfl (by kernel_rfl) (by simp [Value.cells, Value.oneCell']) (by simp [Value.cells]) ?_) | (refine xk_storeN 7 rfl rfl rfl (by kernel_rfl) (by simp [Value.cells, Value.oneCell']) (by simp [Value.cells]) ?_) | (refine xk_storeN 8 rfl rfl rfl (by kernel_rfl) (by simp [Value.cells, Value.oneCell']) (by simp [Value.cells]) ?_)); simp only [putN, Value.cells, List.set, List.take, List.drop, List.nil_append, List.append_nil, List.length_cons, List.length_nil, List.cons_append, Nat.reduceAdd]
            refine XK.nilN ?_
            refine XK.ret ?_
            refine XK.norm ?_
            exact XK.retTC (n := 2) (vs := [.int .u8 0, .int .i64 0]) rfl (by kernel_rfl) rfl rfl (by first | assumption | exact RdN.whole 0 rfl | exact RdN.whole 1 rfl | exact RdN.whole 2 rfl | exact RdN.whole 3 rfl | exact RdN.whole 4 rfl | exact RdN.whole 5 rfl | exact RdN.whole 6 rfl | exact RdN.whole 7 rfl | exact RdN.whole 8 rfl | exact RdN.roc (by simp) (by assumption)) rfl fun w9 st => ⟨by
              rw [readF, if_neg h4, if_neg h7', if_neg h9', if_pos h11]; rfl, st.below (by simp)⟩
          ·
            obtain ⟨id, hid⟩ : ∃ x, r[0]? = some x := ⟨r[0]'(by omega), List.getElem?_eq_getElem _⟩
            obtain ⟨v, hv⟩ : ∃ x, r[(frmD (hPro w1) (hMsg w1)).n.toNat - 1]? = some x := ⟨r[(frmD (hPro w1) (hMsg w1)).n.toNat - 1]'(by omega), List.getElem?_eq_getElem _⟩
            have hid' : r.getD 0 0 = id := by rw [List.getD_eq_getElem?_getD, hid]; rfl
            have hv' : r.getD ((frmD (hPro w1) (hMsg w1)).n.toNat - 1) 0 = v := by rw [List.getD_eq_getElem?_getD, hv]; rfl
            have hbid := hu id (List.mem_cons_of_mem _ (List.mem_of_getElem? hid))
            have hbv := hu v (List.mem_cons_of_mem _ (List.mem_of_getElem? hv))
            have hcid := hcell 1 id (by simpa using hid)
            have hcv := hcell (frmD (hPro w1) (hMsg w1)).n.toNat v (by
              obtain ⟨t, ht⟩ : ∃ t, (frmD (hPro w1) (hMsg w1)).n.toNat = t + 1 := ⟨(frmD (hPro w1) (hMsg w1)).n.toNat - 1, by omega⟩
              rw [ht] at hv ⊢; simpa using hv)
            have hread : readF s (w1 :: r) = askF s (hPro w1) (frmD (hPro w1) (hMsg w1)) id v := by rw [readF, if_neg h4, if_neg h7', if_neg h9', if_neg h11, hid', hv']
            refine XK.skip ?_
            refine XK.norm ?_
            refine XK.seq ?_

            refine XK.region ?_
            refine xk_move rfl (by decide) ?_
            refine xk_at 1 (off + 1) (el := 54) (sz := 1) (by kernel_rfl) (by kernel_rfl) rfl rfl (by rfl) (by omega) (by omega) (by decide) ?_
            refine xk_ld rfl ?_
            refine xk_conv (ds := .int .u32) (by kernel_rfl) (by kernel_rfl) rfl (wrap_in (by omega)) (by decide) ?_
            refine xk_assign rfl (by decide) ?_
            refine XK.nilN ?_
            refine XK.seq ?_
            refine XK.seq ?_

            refine XK.region ?_
            refine xk_move rfl (by decide) ?_
            refine xk_ldN 4 rfl ?_
            refine xk_field (off := 2) (by kernel_rfl) rfl (by decide) ?_
            refine xk_ld rfl ?_
            refine xk_callR (f := 52) (fi := []) (ca := []) (by kernel_rfl) rfl rfl (by decide) (fun w2 st => number_S s A1 A2 A3 A4 n1 k1 n2 k2 n3 k3 n4 k4 (hPro w1) w2 hS) ?_
            refine xk_geq rfl rfl (by decide) ?_
            refine XK.nilN ?_
            refine XK.if_ rfl (fun h14 => ?_) (fun h14 => ?_)
            ·
              refine XK.seq ?_

              refine XK.region ?_
              refine xk_buildS (zs := [.int .u8 0, .int .i64 0]) (L := [(0, 1), (1, 1)]) (zeroB_of (by kernel_rfl)) (by kernel_rfl) rfl (by simp [fillL, setN, Value.cells]; rfl) (by decide) ?_
              refine xk_assign rfl (by decide) ?_
              (first | (refine xk_storeN 0 rfl rfl rfl (by kernel_rfl) (by simp [Value.cells, Value.oneCell']) (by simp [Value.cells]) ?_) | (refine xk_storeN 1 rfl rfl rfl (by kernel_rfl) (by simp [Value.cells, Value.oneCell']) (by simp [Value.cells]) ?_) | (refine xk_storeN 2 rfl rfl rfl (by kernel_rfl) (by simp [Value.cells, Value.oneCell']) (by simp [Value.cells]) ?_) | (refine xk_storeN 3 rfl rfl rfl (by kernel_rfl) (by simp [Value.cells, Value.oneCell']) (by simp [Value.cells]) ?_) | (refine xk_storeN 4 rfl rfl rfl (by kernel_rfl) (by simp [Value.cells, Value.oneCell']) (by simp [Value.cells]) ?_) | (refine xk_storeN 5 rfl rfl rfl (by kernel_rfl) (by simp [Value.cells, Value.oneCell']) (by simp [Value.cells]) ?_) | (refine xk_storeN 6 rfl rfl rfl (by kernel_rfl) (by simp [Value.cells, Value.oneCell']) (by simp [Value.cells]) ?_) | (refine xk_storeN 7 rfl rfl rfl (by kernel_rfl) (by simp [Value.cells, Value.oneCell']) (by simp [Value.cells]) ?_) | (refine xk_storeN 8 rfl rfl rfl (by kernel_rfl) (by simp [Value.cells, Value.oneCell']) (by simp [Value.cells]) ?_)); simp only [putN, Value.cells, List.set, List.take, List.drop, List.nil_append, List.append_nil, List.length_cons, List.length_nil, List.cons_append, Nat.reduceAdd]
              refine XK.nilN ?_
              refine XK.ret ?_
              refine XK.norm ?_
              exact XK.retTC (n := 2) (vs := [.int .u8 0, .int .i64 0]) rfl (by kernel_rfl) rfl rfl (by first | assumption | exact RdN.whole 0 rfl | exact RdN.whole 1 rfl | exact RdN.whole 2 rfl | exact RdN.whole 3 rfl | exact RdN.whole 4 rfl | exact RdN.whole 5 rfl | exact RdN.whole 6 rfl | exact RdN.whole 7 rfl | exact RdN.whole 8 rfl | exact RdN.roc (by simp) (by assumption)) rfl fun w9 st => ⟨by
                rw [hread, askF, if_pos h14]; rfl, st.below (by simp)⟩
            ·
              refine XK.skip ?_
              refine XK.norm ?_
              refine XK.seq ?_
              refine XK.seq ?_

              refine XK.region ?_
              refine xk_field (off := 1) (by kernel_rfl) rfl (by decide) ?_
              refine xk_ld rfl ?_
              refine xk_eql rfl rfl (by decide) ?_
              refine XK.nilN ?_
              refine XK.if_ rfl (fun h16 => ?_) (fun h16 => ?_)
              ·
                refine XK.seq ?_

                refine XK.region ?_
                refine xk_buildS (zs := [.int .u8 0, .int .i64 0]) (L := [(0, 1), (1, 1)]) (zeroB_of (by kernel_rfl)) (by kernel_rfl) rfl (by simp [fillL, setN, Value.cells]; rfl) (by decide) ?_
                refine xk_assign rfl (by decide) ?_
                (first | (refine xk_storeN 0 rfl rfl rfl (by kernel_rfl) (by simp [Value.cells, Value.oneCell']) (by simp [Value.cells]) ?_) | (refine xk_storeN 1 rfl rfl rfl (by kernel_rfl) (by simp [Value.cells, Value.oneCell']) (by simp [Value.cells]) ?_) | (refine xk_storeN 2 rfl rfl rfl (by kernel_rfl) (by simp [Value.cells, Value.oneCell']) (by simp [Value.cells]) ?_) | (refine xk_storeN 3 rfl rfl rfl (by kernel_rfl) (by simp [Value.cells, Value.oneCell']) (by simp [Value.cells]) ?_) | (refine xk_storeN 4 rfl rfl rfl (by kernel_rfl) (by simp [Value.cells, Value.oneCell']) (by simp [Value.cells]) ?_) | (refine xk_storeN 5 rfl rfl rfl (by kernel_rfl) (by simp [Value.cells, Value.oneCell']) (by simp [Value.cells]) ?_) | (refine xk_storeN 6 rfl rfl rfl (by kernel_rfl) (by simp [Value.cells, Value.oneCell']) (by simp [Value.cells]) ?_) | (refine xk_storeN 7 rfl rfl rfl (by kernel_rfl) (by simp [Value.cells, Value.oneCell']) (by simp [Value.cells]) ?_) | (refine xk_storeN 8 rfl rfl rfl (by kernel_rfl) (by simp [Value.cells, Value.oneCell']) (by simp [Value.cells]) ?_)); simp only [putN, Value.cells, List.set, List.take, List.drop, List.nil_append, List.append_nil, List.length_cons, List.length_nil, List.cons_append, Nat.reduceAdd]
                refine XK.nilN ?_
                refine XK.ret ?_
                refine XK.norm ?_
                exact XK.retTC (n := 2) (vs := [.int .u8 0, .int .i64 0]) rfl (by kernel_rfl) rfl rfl (by first | assumption | exact RdN.whole 0 rfl | exact RdN.whole 1 rfl | exact RdN.whole 2 rfl | exact RdN.whole 3 rfl | exact RdN.whole 4 rfl | exact RdN.whole 5 rfl | exact RdN.whole 6 rfl | exact RdN.whole 7 rfl | exact RdN.whole 8 rfl | exact RdN.roc (by simp) (by assumption)) rfl fun w9 st => ⟨by
                  rw [hread, askF, if_neg h14, if_pos h16]; rfl, st.below (by simp)⟩
              ·
                refine XK.skip ?_
                refine XK.norm ?_
                refine XK.seq ?_

                refine XK.region ?_
                refine xk_move rfl (by decide) ?_
                refine xk_field (off := 0) (by kernel_rfl) rfl (by decide) ?_
                refine xk_ld rfl ?_
                refine xk_at (frmD (hPro w1) (hMsg w1)).n.toNat (off + (frmD (hPro w1) (hMsg w1)).n.toNat) (el := 54) (sz := 1) (by kernel_rfl) (by kernel_rfl) rfl rfl (by omega) (by omega) (by omega) (by decide) ?_
                refine xk_ld rfl ?_
                refine xk_conv (ds := .int .u32) (by kernel_rfl) (by kernel_rfl) rfl (wrap_in (by omega)) (by decide) ?_
                refine xk_assign rfl (by decide) ?_
                refine XK.nilN ?_
                refine XK.seq ?_
                refine XK.seq ?_

                refine XK.region ?_
                refine xk_move rfl (by decide) ?_
                refine xk_field (off := 1) (by kernel_rfl) rfl (by decide) ?_
                refine xk_ld rfl ?_
                refine xk_geq rfl rfl (by decide) ?_
                refine XK.nilN ?_
                refine XK.if_ rfl (fun h19 => ?_) (fun h19 => ?_)
                ·
                  refine XK.seq ?_

                  refine XK.region ?_
                  refine xk_buildS (zs := [.int .u8 0, .int .i64 0]) (L := [(0, 1), (1, 1)]) (zeroB_of (by kernel_rfl)) (by kernel_rfl) rfl (by simp [fillL, setN, Value.cells]; rfl) (by decide) ?_
                  refine xk_assign rfl (by decide) ?_
                  (first | (refine xk_storeN 0 rfl rfl rfl (by kernel_rfl) (by simp [Value.cells, Value.oneCell']) (by simp [Value.cells]) ?_) | (refine xk_storeN 1 rfl rfl rfl (by kernel_rfl) (by simp [Value.cells, Value.oneCell']) (by simp [Value.cells]) ?_) | (refine xk_storeN 2 rfl rfl rfl (by kernel_rfl) (by simp [Value.cells, Value.oneCell']) (by simp [Value.cells]) ?_) | (refine xk_storeN 3 rfl rfl rfl (by kernel_rfl) (by simp [Value.cells, Value.oneCell']) (by simp [Value.cells]) ?_) | (refine xk_storeN 4 rfl rfl rfl (by kernel_rfl) (by simp [Value.cells, Value.oneCell']) (by simp [Value.cells]) ?_) | (refine xk_storeN 5 rfl rfl rfl (by kernel_rfl) (by simp [Value.cells, Value.oneCell']) (by simp [Value.cells]) ?_) | (refine xk_storeN 6 rfl rfl rfl (by kernel_rfl) (by simp [Value.cells, Value.oneCell']) (by simp [Value.cells]) ?_) | (refine xk_storeN 7 rfl rfl rfl (by kernel_rfl) (by simp [Value.cells, Value.oneCell']) (by simp [Value.cells]) ?_) | (refine xk_storeN 8 rfl rfl rfl (by kernel_rfl) (by simp [Value.cells, Value.oneCell']) (by simp [Value.cells]) ?_)); simp only [putN, Value.cells, List.set, List.take, List.drop, List.nil_append, List.append_nil, List.length_cons, List.length_nil, List.cons_append, Nat.reduceAdd]
                  refine XK.nilN ?_
                  refine XK.ret ?_
                  refine XK.norm ?_
                  exact XK.retTC (n := 2) (vs := [.int .u8 0, .int .i64 0]) rfl (by kernel_rfl) rfl rfl (by first | assumption | exact RdN.whole 0 rfl | exact RdN.whole 1 rfl | exact RdN.whole 2 rfl | exact RdN.whole 3 rfl | exact RdN.whole 4 rfl | exact RdN.whole 5 rfl | exact RdN.whole 6 rfl | exact RdN.whole 7 rfl | exact RdN.whole 8 rfl | exact RdN.roc (by simp) (by assumption)) rfl fun w9 st => ⟨by
                    rw [hread, askF, if_neg h14, if_neg h16, if_pos h19]; rfl, st.below (by simp)⟩
                ·
                  have hact : ([.int .i64 (frmD (hPro w1) (hMsg w1)).n, .int .i64 (frmD (hPro w1) (hMsg w1)).m, .int .u8 (frmD (hPro w1) (hMsg w1)).a, .int .u8 (frmD (hPro w1) (hMsg w1)).b, .int .u8 (frmD (hPro w1) (hMsg w1)).c] : List Value)[2 + v.toNat]? = some (.int .u8 ((frmD (hPro w1) (hMsg w1)).act v)) := by
                    unfold Frm.act
                    rcases (by omega : v = 0 ∨ v = 1 ∨ v = 2) with rfl | rfl | rfl <;> rfl
                  have hp17 := hF4 v hbv.1 (by omega)
                  generalize hk : (frmD (hPro w1) (hMsg w1)).act v = k at *
                  refine XK.skip ?_
                  refine XK.norm ?_
                  refine XK.seq ?_

                  refine XK.region ?_
                  refine xk_move rfl (by decide) ?_
                  refine xk_field (off := 2) (by kernel_rfl) rfl (by decide) ?_
                  refine xk_atA v.toNat (2 + v.toNat) (n := 3) (el := 5) (sz := 1) (by kernel_rfl) (by kernel_rfl) rfl rfl (by omega) (by omega) (by omega) (by decide) ?_
                  refine xk_load (by kernel_rfl) rfl (Rd.blk 0 rfl hact) (by decide) ?_
                  refine xk_move rfl (by decide) ?_
                  refine xk_buildS (zs := [.int .u8 0, .int .i64 0]) (L := [(0, 1), (1, 1)]) (zeroB_of (by kernel_rfl)) (by kernel_rfl) rfl (by simp [fillL, setN, Value.cells]; rfl) (by decide) ?_
                  refine xk_alloc (cs := [.int .u8 0, .int .i64 0]) (zeroB_of (by kernel_rfl)) (by decide) fun g5 => ?_
                  (first | (refine xk_storeN 0 rfl rfl rfl (by kernel_rfl) (by simp [Value.cells, Value.oneCell']) (by simp [Value.cells]) ?_) | (refine xk_storeN 1 rfl rfl rfl (by kernel_rfl) (by simp [Value.cells, Value.oneCell']) (by simp [Value.cells]) ?_) | (refine xk_storeN 2 rfl rfl rfl (by kernel_rfl) (by simp [Value.cells, Value.oneCell']) (by simp [Value.cells]) ?_) | (refine xk_storeN 3 rfl rfl rfl (by kernel_rfl) (by simp [Value.cells, Value.oneCell']) (by simp [Value.cells]) ?_) | (refine xk_storeN 4 rfl rfl rfl (by kernel_rfl) (by simp [Value.cells, Value.oneCell']) (by simp [Value.cells]) ?_) | (refine xk_storeN 5 rfl rfl rfl (by kernel_rfl) (by simp [Value.cells, Value.oneCell']) (by simp [Value.cells]) ?_) | (refine xk_storeN 6 rfl rfl rfl (by kernel_rfl) (by simp [Value.cells, Value.oneCell']) (by simp [Value.cells]) ?_) | (refine xk_storeN 7 rfl rfl rfl (by kernel_rfl) (by simp [Value.cells, Value.oneCell']) (by simp [Value.cells]) ?_) | (refine xk_storeN 8 rfl rfl rfl (by kernel_rfl) (by simp [Value.cells, Value.oneCell']) (by simp [Value.cells]) ?_)); simp only [putN, Value.cells, List.set, List.take, List.drop, List.nil_append, List.append_nil, List.length_cons, List.length_nil, List.cons_append, Nat.reduceAdd]
                  refine XK.nilN ?_
                  refine XK.seq ?_
                  refine XK.cutB 113 (notF s (hPro w1) ((frmD (hPro w1) (hMsg w1)).act v) id.toNat) ?_ ?_
                  · skip

                    refine XK.region ?_
                    refine xk_field (off := 0) (by kernel_rfl) rfl (by decide) ?_
                    refine xk_ld rfl ?_
                    refine xk_eql rfl rfl (by decide) ?_
                    refine xk_move rfl (by decide) ?_
                    (first | refine xk_split (t := 91) rfl (fun hg => ?_) (fun hg => ?_) | refine xk_splitB (t := 91) rfl (fun hg => ?_) (fun hg => ?_))
                    ·
                      have hp := hp17 (by simpa using hg)
                      obtain ⟨dm, hdm⟩ : ∃ d, s.domains[id.toNat]? = some d := ⟨s.domains[id.toNat]'(by rw [hp] at h14; simp only [numF, if_true] at h14; omega), List.getElem?_eq_getElem _⟩
                      obtain ⟨bD, oD, rD, rfl, _, rfl, hRD⟩ := hS.dom.row hdm
                      have hret : retOf s id.toNat = dm.ret := by rw [retOf, hdm]; rfl
                      have hlD := hS.len2
                      have hltD := (List.getElem?_eq_some_iff.1 hdm).1
                      have hcD := hRD.at_ (j := 2) rfl
                      refine xk_guardT rfl rfl ?_; refine xk_field (off := 1) (by kernel_rfl) rfl (by decide) ?_
                      refine xk_guardT rfl rfl ?_; refine xk_ld rfl ?_
                      refine xk_guardT rfl rfl ?_; refine xk_move rfl (by decide) ?_
                      refine xk_guardT rfl rfl ?_; refine xk_at id.toNat (oD + id.toNat * 3) (el := 57) (sz := 3) (by kernel_rfl) (by kernel_rfl) rfl rfl (by omega) (by omega) (by omega) (by decide) ?_
                      refine xk_guardT rfl rfl ?_; refine xk_field (off := 2) (by kernel_rfl) rfl (by decide) ?_
                      refine xk_guardT rfl rfl ?_; refine xk_ld rfl ?_
                      refine xk_guardT rfl rfl ?_; (first | refine xk_notD rfl (by decide) ?_ | refine xk_not rfl (by decide) ?_)
                      (first | refine xk_pickT rfl rfl (by decide) ?_ | refine xk_pickF rfl rfl (by decide) ?_)
                      refine xk_move rfl (by decide) ?_
                      (first | refine xk_split (t := 100) rfl (fun hg => ?_) (fun hg => ?_) | refine xk_splitB (t := 100) rfl (fun hg => ?_) (fun hg => ?_))
                      ·
                        refine xk_guardF rfl rfl rfl (by decide) ?_
                        refine xk_guardF rfl rfl rfl (by decide) ?_
                        refine xk_guardF rfl rfl rfl (by decide) ?_
                        refine xk_guardF rfl rfl rfl (by decide) ?_
                        refine xk_guardU rfl rfl (by decide) ?_
                        refine xk_guardU rfl rfl (by decide) ?_
                        refine xk_guardU rfl rfl (by decide) ?_
                        refine xk_guardU rfl rfl (by decide) ?_
                        refine xk_guardU rfl rfl (by decide) ?_
                        refine xk_guardU rfl rfl (by decide) ?_
                        refine xk_guardU rfl rfl (by decide) ?_
                        refine xk_guardF rfl rfl rfl (by decide) ?_
                        (first | refine xk_pickT rfl rfl (by decide) ?_ | refine xk_pickF rfl rfl (by decide) ?_)
                        refine XK.nilN ?_
                        exact XK.meetB (by repeat (first | exact trivial | refine ⟨rfl, ?_⟩)) (by first | exact get_iff rfl (by simp_all [notF, swit]) | exact get_false rfl (by simp_all [notF, swit]) | exact get_true rfl (by simp_all [notF, swit]))
                      ·
                        refine xk_guardT rfl rfl ?_; refine xk_field (off := 2) (by kernel_rfl) rfl (by decide) ?_
                        refine xk_guardT rfl rfl ?_; refine xk_ld rfl ?_
                        refine xk_guardT rfl rfl ?_; refine xk_eql rfl rfl (by decide) ?_
                        refine xk_guardT rfl rfl ?_; refine xk_move rfl (by decide) ?_
                        (first | refine xk_split (t := 104) rfl (fun hg => ?_) (fun hg => ?_) | refine xk_splitB (t := 104) rfl (fun hg => ?_) (fun hg => ?_))
                        ·
                          have hp : hPro w1 = 20 := by simpa using hg
                          obtain ⟨ck, hck⟩ : ∃ d, s.clocks[id.toNat]? = some d := ⟨s.clocks[id.toNat]'(by rw [hp] at h14; simp only [numF, if_true] at h14; simp at h14; omega), List.getElem?_eq_getElem _⟩
                          obtain ⟨bC, oC, rC, rfl, _, hRC, hC⟩ := hS.clk.row hck
                          obtain ⟨cA, cn, ccap, hrow, _⟩ := hRC
                          have hkind : kindOf s id.toNat = ck.kind := by rw [kindOf, hck]; rfl
                          have hlC := hS.len1
                          have hltC := (List.getElem?_eq_some_iff.1 hck).1
                          subst hrow
                          refine xk_guardT rfl rfl ?_; refine xk_field (off := 0) (by kernel_rfl) rfl (by decide) ?_
                          refine xk_guardT rfl rfl ?_; refine xk_ld rfl ?_
                          refine xk_guardT rfl rfl ?_; refine xk_move rfl (by decide) ?_
                          refine xk_guardT rfl rfl ?_; refine xk_at id.toNat (oC + id.toNat * 6) (el := 60) (sz := 6) (by kernel_rfl) (by kernel_rfl) rfl rfl (by omega) (by omega) (by omega) (by decide) ?_
                          refine xk_guardT rfl rfl ?_; refine xk_ldN 6 rfl ?_
                          refine xk_guardT rfl rfl ?_; refine xk_callR (f := 53) (fi := []) (ca := []) (by kernel_rfl) rfl rfl (by decide) (fun w2 st => switched_any ck.kind _ _ _ _ _ _ _ w2) ?_
                          refine xk_guardT rfl rfl ?_; (first | refine xk_notD rfl (by decide) ?_ | refine xk_not rfl (by decide) ?_)
                          refine xk_guardT rfl rfl ?_; (first | refine xk_pickT rfl rfl (by decide) ?_ | refine xk_pickF rfl rfl (by decide) ?_)
                          (first | refine xk_pickT rfl rfl (by decide) ?_ | refine xk_pickF rfl rfl (by decide) ?_)
                          refine XK.nilN ?_
                          exact XK.meetB (by repeat (first | exact trivial | refine ⟨rfl, ?_⟩)) (by first | exact get_iff rfl (by simp_all [notF, swit]) | exact get_false rfl (by simp_all [notF, swit]) | exact get_true rfl (by simp_all [notF, swit]))
                        ·
                          refine xk_guardF rfl rfl rfl (by decide) ?_
                          refine xk_guardF rfl rfl rfl (by decide) ?_
                          refine xk_guardF rfl rfl rfl (by decide) ?_
                          refine xk_guardF rfl rfl rfl (by decide) ?_
                          refine xk_guardF rfl rfl rfl (by decide) ?_
                          refine xk_guardF rfl rfl rfl (by decide) ?_
                          refine xk_guardF rfl rfl rfl (by decide) ?_
                          refine xk_guardT rfl rfl ?_; (first | refine xk_pickT rfl rfl (by decide) ?_ | refine xk_pickF rfl rfl (by decide) ?_)
                          (first | refine xk_pickT rfl rfl (by decide) ?_ | refine xk_pickF rfl rfl (by decide) ?_)
                          refine XK.nilN ?_
                          exact XK.meetB (by repeat (first | exact trivial | refine ⟨rfl, ?_⟩)) (by first | exact get_iff rfl (by simp_all [notF, swit]) | exact get_false rfl (by simp_all [notF, swit]) | exact get_true rfl (by simp_all [notF, swit]))
                    ·
                      refine xk_guardF rfl rfl rfl (by decide) ?_
                      refine xk_guardF rfl rfl rfl (by decide) ?_
                      refine xk_guardF rfl rfl rfl (by decide) ?_
                      refine xk_guardF rfl rfl rfl (by decide) ?_
                      refine xk_guardF rfl rfl rfl (by decide) ?_
                      refine xk_guardF rfl rfl rfl (by decide) ?_
                      refine xk_guardF rfl rfl rfl (by decide) ?_
                      (first | refine xk_pickT rfl rfl (by decide) ?_ | refine xk_pickF rfl rfl (by decide) ?_)
                      refine xk_move rfl (by decide) ?_
                      refine xk_guardT rfl rfl ?_; refine xk_field (off := 2) (by kernel_rfl) rfl (by decide) ?_
                      refine xk_guardT rfl rfl ?_; refine xk_ld rfl ?_
                      refine xk_guardT rfl rfl ?_; refine xk_eql rfl rfl (by decide) ?_
                      refine xk_guardT rfl rfl ?_; refine xk_move rfl (by decide) ?_
                      (first | refine xk_split (t := 104) rfl (fun hg => ?_) (fun hg => ?_) | refine xk_splitB (t := 104) rfl (fun hg => ?_) (fun hg => ?_))
                      ·
                        have hp : hPro w1 = 20 := by simpa using hg
                        obtain ⟨ck, hck⟩ : ∃ d, s.clocks[id.toNat]? = some d := ⟨s.clocks[id.toNat]'(by rw [hp] at h14; simp only [numF, if_true] at h14; simp at h14; omega), List.getElem?_eq_getElem _⟩
                        obtain ⟨bC, oC, rC, rfl, _, hRC, hC⟩ := hS.clk.row hck
                        obtain ⟨cA, cn, ccap, hrow, _⟩ := hRC
                        have hkind : kindOf s id.toNat = ck.kind := by rw [kindOf, hck]; rfl
                        have hlC := hS.len1
                        have hltC := (List.getElem?_eq_some_iff.1 hck).1
                        subst hrow
                        refine xk_guardT rfl rfl ?_; refine xk_field (off := 0) (by kernel_rfl) rfl (by decide) ?_
                        refine xk_guardT rfl rfl ?_; refine xk_ld rfl ?_
                        refine xk_guardT rfl rfl ?_; refine xk_move rfl (by decide) ?_
                        refine xk_guardT rfl rfl ?_; refine xk_at id.toNat (oC + id.toNat * 6) (el := 60) (sz := 6) (by kernel_rfl) (by kernel_rfl) rfl rfl (by omega) (by omega) (by omega) (by decide) ?_
                        refine xk_guardT rfl rfl ?_; refine xk_ldN 6 rfl ?_
                        refine xk_guardT rfl rfl ?_; refine xk_callR (f := 53) (fi := []) (ca := []) (by kernel_rfl) rfl rfl (by decide) (fun w2 st => switched_any ck.kind _ _ _ _ _ _ _ w2) ?_
                        refine xk_guardT rfl rfl ?_; (first | refine xk_notD rfl (by decide) ?_ | refine xk_not rfl (by decide) ?_)
                        refine xk_guardT rfl rfl ?_; (first | refine xk_pickT rfl rfl (by decide) ?_ | refine xk_pickF rfl rfl (by decide) ?_)
                        (first | refine xk_pickT rfl rfl (by decide) ?_ | refine xk_pickF rfl rfl (by decide) ?_)
                        refine XK.nilN ?_
                        exact XK.meetB (by repeat (first | exact trivial | refine ⟨rfl, ?_⟩)) (by first | exact get_iff rfl (by simp_all [notF, swit]) | exact get_false rfl (by simp_all [notF, swit]) | exact get_true rfl (by simp_all [notF, swit]))
                      ·
                        refine xk_guardF rfl rfl rfl (by decide) ?_
                        refine xk_guardF rfl rfl rfl (by decide) ?_
                        refine xk_guardF rfl rfl rfl (by decide) ?_
                        refine xk_guardF rfl rfl rfl (by decide) ?_
                        refine xk_guardF rfl rfl rfl (by decide) ?_
                        refine xk_guardF rfl rfl rfl (by decide) ?_
                        refine xk_guardF rfl rfl rfl (by decide) ?_
                        refine xk_guardT rfl rfl ?_; (first | refine xk_pickT rfl rfl (by decide) ?_ | refine xk_pickF rfl rfl (by decide) ?_)
                        (first | refine xk_pickT rfl rfl (by decide) ?_ | refine xk_pickF rfl rfl (by decide) ?_)
                        refine XK.nilN ?_
                        exact XK.meetB (by repeat (first | exact trivial | refine ⟨rfl, ?_⟩)) (by first | exact get_iff rfl (by simp_all [notF, swit]) | exact get_false rfl (by simp_all [notF, swit]) | exact get_true rfl (by simp_all [notF, swit]))
                  refine XK.if_ rfl (fun h22 => ?_) (fun h22 => ?_)
                  ·
                    refine XK.seq ?_

                    refine XK.region ?_
                    refine xk_buildS (zs := [.int .u8 0, .int .i64 0]) (L := [(0, 1), (1, 1)]) (zeroB_of (by kernel_rfl)) (by kernel_rfl) rfl (by simp [fillL, setN, Value.cells]; rfl) (by decide) ?_
                    refine xk_assign rfl (by decide) ?_
                    (first | (refine xk_storeN 0 rfl rfl rfl (by kernel_rfl) (by simp [Value.cells, Value.oneCell']) (by simp [Value.cells]) ?_) | (refine xk_storeN 1 rfl rfl rfl (by kernel_rfl) (by simp [Value.cells, Value.oneCell']) (by simp [Value.cells]) ?_) | (refine xk_storeN 2 rfl rfl rfl (by kernel_rfl) (by simp [Value.cells, Value.oneCell']) (by simp [Value.cells]) ?_) | (refine xk_storeN 3 rfl rfl rfl (by kernel_rfl) (by simp [Value.cells, Value.oneCell']) (by simp [Value.cells]) ?_) | (refine xk_storeN 4 rfl rfl rfl (by kernel_rfl) (by simp [Value.cells, Value.oneCell']) (by simp [Value.cells]) ?_) | (refine xk_storeN 5 rfl rfl rfl (by kernel_rfl) (by simp [Value.cells, Value.oneCell']) (by simp [Value.cells]) ?_) | (refine xk_storeN 6 rfl rfl rfl (by kernel_rfl) (by simp [Value.cells, Value.oneCell']) (by simp [Value.cells]) ?_) | (refine xk_storeN 7 rfl rfl rfl (by kernel_rfl) (by simp [Value.cells, Value.oneCell']) (by simp [Value.cells]) ?_) | (refine xk_storeN 8 rfl rfl rfl (by kernel_rfl) (by simp [Value.cells, Value.oneCell']) (by simp [Value.cells]) ?_)); simp only [putN, Value.cells, List.set, List.take, List.drop, List.nil_append, List.append_nil, List.length_cons, List.length_nil, List.cons_append, Nat.reduceAdd]
                    refine XK.nilN ?_
                    refine XK.ret ?_
                    refine XK.norm ?_
                    exact XK.retTC (n := 2) (vs := [.int .u8 0, .int .i64 0]) rfl (by kernel_rfl) rfl rfl (by first | assumption | exact RdN.whole 0 rfl | exact RdN.whole 1 rfl | exact RdN.whole 2 rfl | exact RdN.whole 3 rfl | exact RdN.whole 4 rfl | exact RdN.whole 5 rfl | exact RdN.whole 6 rfl | exact RdN.whole 7 rfl | exact RdN.whole 8 rfl | exact RdN.roc (by simp) (by assumption)) rfl fun w9 st => ⟨by
                      rw [hread, askF, if_neg h14, if_neg h16, if_neg h19, if_pos h22]; rfl, st.below (by simp)⟩
                  ·
                    refine XK.skip ?_
                    refine XK.norm ?_
                    refine XK.seq ?_

                    refine XK.draw 2 (by kernel_rfl) (by kernel_rfl) ?_
                    refine XA.dA 0 rfl rfl rfl (does_ldN 2 rfl) ?_
                    refine XA.dA 1 rfl rfl rfl (does_assign rfl) ?_
                    refine XA.next 2 rfl (by kernel_rfl) ?_
                    (first | (refine xk_storeN 0 rfl rfl rfl (by kernel_rfl) (by simp [Value.cells, Value.oneCell']) (by simp [Value.cells]) ?_) | (refine xk_storeN 1 rfl rfl rfl (by kernel_rfl) (by simp [Value.cells, Value.oneCell']) (by simp [Value.cells]) ?_) | (refine xk_storeN 2 rfl rfl rfl (by kernel_rfl) (by simp [Value.cells, Value.oneCell']) (by simp [Value.cells]) ?_) | (refine xk_storeN 3 rfl rfl rfl (by kernel_rfl) (by simp [Value.cells, Value.oneCell']) (by simp [Value.cells]) ?_) | (refine xk_storeN 4 rfl rfl rfl (by kernel_rfl) (by simp [Value.cells, Value.oneCell']) (by simp [Value.cells]) ?_) | (refine xk_storeN 5 rfl rfl rfl (by kernel_rfl) (by simp [Value.cells, Value.oneCell']) (by simp [Value.cells]) ?_) | (refine xk_storeN 6 rfl rfl rfl (by kernel_rfl) (by simp [Value.cells, Value.oneCell']) (by simp [Value.cells]) ?_) | (refine xk_storeN 7 rfl rfl rfl (by kernel_rfl) (by simp [Value.cells, Value.oneCell']) (by simp [Value.cells]) ?_) | (refine xk_storeN 8 rfl rfl rfl (by kernel_rfl) (by simp [Value.cells, Value.oneCell']) (by simp [Value.cells]) ?_)); simp only [putN, Value.cells, List.set, List.take, List.drop, List.nil_append, List.append_nil, List.length_cons, List.length_nil, List.cons_append, Nat.reduceAdd]
                    refine XA.bt ?_
                    refine XA.done (by kernel_rfl) ?_
                    refine XK.norm ?_
                    refine XK.ret ?_
                    refine XK.norm ?_
                    exact XK.retTC (n := 2) (vs := [.int .u8 k, .int .i64 id]) rfl (by kernel_rfl) rfl rfl (by first | assumption | exact RdN.whole 0 rfl | exact RdN.whole 1 rfl | exact RdN.whole 2 rfl | exact RdN.whole 3 rfl | exact RdN.whole 4 rfl | exact RdN.whole 5 rfl | exact RdN.whole 6 rfl | exact RdN.whole 7 rfl | exact RdN.whole 8 rfl | exact RdN.roc (by simp) (by assumption)) rfl fun w9 st => ⟨by
                      rw [hread, askF, if_neg h14, if_neg h16, if_neg h19, if_neg h22, hk]; rfl, st.below (by simp)⟩

end Go.Proofs.Ytbcfbafpeidifaa
/- table.Chain and plan.Wants, of a chip that is made. -/
namespace Go.Proofs.Ytbcfbafpeidifaa
set_option linter.all false
open Go.RowKit
def IntsOk (l : List Nat) (v : Value) (w w' : World) : Prop := ∃ A c, v = .slice A l.length c ∧ SlS (fresh w w') 1 A l.length (intCells (natI l))
theorem chain_any (q : Piece) (s : Soc) (A1 A2 A3 A4 : Option Addr) (n1 k1 n2 k2 n3 k3 n4 k4 : Nat) (c : Nat) (w : World) (hSP : SocP q s A1 n1 A2 n2 A3 n3 A4 n4) (hm : s.okT) (hq : q.Le (all w)) (hc : c < s.clocks.length) :
    Calls Try.prog 55 #[.agg #[.slice A1 n1 k1, .slice A2 n2 k2, .slice A3 n3 k3, .slice A4 n4 k4], .int .i64 (c : Int)] w (RtW (IntsOk (chainL s c)) w) := by
  obtain ⟨rfl, rfl, rfl, rfl⟩ := hSP.len
  refine XK.enter (vs := [.agg #[.slice A1 s.clocks.length k1, .slice A2 s.domains.length k2, .slice A3 s.resets.length k3, .slice A4 s.devs.length k4], .int .i64 (c : Int)]) Try.func55 rfl Try.ntmps55 (by simp) ?_
  refine XK.piece q (by simp) hq ?_
  refine XK.seq ?_

  refine XK.region ?_
  refine xk_box rfl (by decide) fun g1 => ?_
  refine xk_assign rfl (by decide) ?_
  refine XK.nilN ?_
  refine XK.seq ?_

  refine XK.region ?_
  refine xk_assign rfl (by decide) ?_
  refine XK.nilN ?_
  refine XK.seq ?_
  refine XK.nilrow 3 1 ?_
  refine XK.envS [(1, .int .i64 (c : Int)), (5, .slice none 0 0), (2, .pointer (some ⟨g1, 0, none⟩))] ?_
  refine XK.block ?_
  refine XK.loop (fun m e R H => ∃ (cur : Nat) (l : List Nat) (A : Option Addr) (k : Nat), cur < s.clocks.length ∧ l.length ≤ s.clocks.length ∧ m = s.clocks.length - l.length ∧ chainL s c = l ++ chainN s (s.clocks.length - l.length) cur ∧ e = [(1, .int .i64 (cur : Int)), (5, .slice A l.length k), (2, .pointer (some ⟨g1, 0, none⟩))] ∧ R = [q, all w] ∧ H = [HP.own 3 1 (.slice A l.length k) l.length (intCells (natI l)), HP.blk g1 30 [.slice A1 s.clocks.length k1, .slice A2 s.domains.length k2, .slice A3 s.resets.length k3, .slice A4 s.devs.length k4]]) s.clocks.length ⟨c, [], none, 0, hc, by simp, rfl, rfl, rfl, rfl, rfl⟩ fun m e R H hI => ?_
  obtain ⟨cur, l, A, k, hcur, hll, rfl, hch, rfl, rfl, rfl⟩ := hI
  refine XK.seq ?_
  refine XK.cutB 22 (l.length < s.clocks.length) ?_ ?_
  · skip

    refine XK.region ?_
    refine xk_move rfl (by decide) ?_
    refine xk_geq rfl rfl (by decide) ?_
    refine xk_move rfl (by decide) ?_
    refine xk_split (t := 8) rfl (fun hg => ?_) (fun hg => ?_)
    ·
      refine xk_guardT rfl rfl ?_; refine xk_move rfl (by decide) ?_
      refine xk_guardT rfl rfl ?_; refine xk_field (off := 0) (by kernel_rfl) rfl (by decide) ?_
      refine xk_guardT rfl rfl ?_; refine xk_ld rfl ?_
      refine xk_guardT rfl rfl ?_; refine xk_len (el := 60) (by kernel_rfl) rfl (by decide) ?_
      refine xk_guardT rfl rfl ?_; refine xk_lss rfl rfl (by decide) ?_
      (first | refine xk_pickT rfl rfl (by decide) ?_ | refine xk_pickF rfl rfl (by decide) ?_)
      refine xk_move rfl (by decide) ?_
      refine xk_split (t := 15) rfl (fun hg => ?_) (fun hg => ?_)
      ·
        refine xk_guardT rfl rfl ?_; refine xk_move rfl (by decide) ?_
        refine xk_guardT rfl rfl ?_; refine xk_len (el := 3) (by kernel_rfl) rfl (by decide) ?_
        refine xk_guardT rfl rfl ?_; refine xk_field (off := 0) (by kernel_rfl) rfl (by decide) ?_
        refine xk_guardT rfl rfl ?_; refine xk_ld rfl ?_
        refine xk_guardT rfl rfl ?_; refine xk_len (el := 60) (by kernel_rfl) rfl (by decide) ?_
        refine xk_guardT rfl rfl ?_; refine xk_lss rfl rfl (by decide) ?_
        (first | refine xk_pickT rfl rfl (by decide) ?_ | refine xk_pickF rfl rfl (by decide) ?_)
        refine XK.nilN ?_
        exact XK.meetB (by repeat (first | exact trivial | refine ⟨rfl, ?_⟩)) (get_iff rfl (by omega))
      ·
        refine xk_guardF rfl rfl rfl (by decide) ?_
        refine xk_guardF rfl rfl rfl (by decide) ?_
        refine xk_guardF rfl rfl rfl (by decide) ?_
        refine xk_guardF rfl rfl rfl (by decide) ?_
        refine xk_guardF rfl rfl rfl (by decide) ?_
        refine xk_guardF rfl rfl rfl (by decide) ?_
        (first | refine xk_pickT rfl rfl (by decide) ?_ | refine xk_pickF rfl rfl (by decide) ?_)
        refine XK.nilN ?_
        exact XK.meetB (by repeat (first | exact trivial | refine ⟨rfl, ?_⟩)) (get_false rfl (by omega))
    ·
      refine xk_guardF rfl rfl rfl (by decide) ?_
      refine xk_guardF rfl rfl rfl (by decide) ?_
      refine xk_guardF rfl rfl rfl (by decide) ?_
      refine xk_guardF rfl rfl rfl (by decide) ?_
      refine xk_guardF rfl rfl rfl (by decide) ?_
      (first | refine xk_pickT rfl rfl (by decide) ?_ | refine xk_pickF rfl rfl (by decide) ?_)
      refine xk_move rfl (by decide) ?_
      refine xk_guardF rfl rfl rfl (by decide) ?_
      refine xk_guardF rfl rfl rfl (by decide) ?_
      refine xk_guardF rfl rfl rfl (by decide) ?_
      refine xk_guardF rfl rfl rfl (by decide) ?_
      refine xk_guardF rfl rfl rfl (by decide) ?_
      refine xk_guardF rfl rfl rfl (by decide) ?_
      (first | refine xk_pickT rfl rfl (by decide) ?_ | refine xk_pickF rfl rfl (by decide) ?_)
      refine XK.nilN ?_
      exact XK.meetB (by repeat (first | exact trivial | refine ⟨rfl, ?_⟩)) (get_false rfl (by omega))
  refine XK.if_ rfl (fun h => ?_) (fun h => ?_)
  ·
    refine XK.skip ?_
    refine XK.norm ?_
    refine XK.block ?_
    refine XK.seq ?_
    have hlt : l.length < s.clocks.length := h
    obtain ⟨x, hx⟩ : ∃ x, s.clocks[cur]? = some x := ⟨_, List.getElem?_eq_getElem hcur⟩
    obtain ⟨k0, hk0⟩ : ∃ k0, s.clocks.length - l.length = k0 + 1 := ⟨s.clocks.length - l.length - 1, by omega⟩
    rw [hk0, chainN_cons hx] at hch
    have hn9 := hm.nc
    have hfit := (hm.clocks cur x hx).1

    refine XK.region ?_
    refine xk_move rfl (by decide) ?_
    refine xk_move rfl (by decide) ?_
    refine xk_slice (el := 3) (sz := 1) (zs := [.int .i64 0]) (by kernel_rfl) (zeroB_of (by kernel_rfl)) (by kernel_rfl) rfl (by decide) (by decide) rfl (by simp [fillL, setN, Value.cells, List.range_succ, List.set]; rfl) (by decide) fun g2 => ?_
    refine xk_appendT 1 1 8 1 (n' := l.length + 1) (el := 3) (by kernel_rfl) (by kernel_rfl) (by decide) rfl rfl rfl (sl_blk 0 rfl rfl) (by simp [Value.oneCell']) rfl (by omega) (by omega) (by decide) fun A' k' => ?_
    dsimp only [List.set]
    rw [show intCells (natI l) ++ [Value.int .i64 (cur : Int)] = intCells (natI (l ++ [cur])) by simp [intCells, natI]]
    refine XK.weak [1, 2] rfl (by decide) (R' := [q, all w]) (by simp) ?_
    refine xk_assign rfl (by decide) ?_
    refine XK.nilN ?_
    refine XK.seq ?_
    refine XK.seq ?_
    obtain ⟨bC, oC, rC, rfl, hzC, _, hR, hcC⟩ := hSP.clk.rowP hx
    obtain ⟨As, ns, ks, rfl, rfl, hsr⟩ := hR

    refine XK.region ?_
    refine xk_field (off := 0) (by kernel_rfl) rfl (by decide) ?_
    refine xk_ld rfl ?_
    refine xk_move rfl (by decide) ?_
    refine xk_at (cur) (oC + cur * 6) (el := 60) (sz := 6) (by kernel_rfl) (by kernel_rfl) rfl rfl (by omega) (by omega) (by omega) (by decide) ?_
    refine xk_field (off := 1) (by kernel_rfl) rfl (by decide) ?_
    refine xk_load (by kernel_rfl) rfl (Rd.ro (p := q) (by simp) hzC (hcC 1 _ rfl)) (by decide) ?_
    refine xk_len (el := 3) (by kernel_rfl) rfl (by decide) ?_
    refine xk_eql rfl rfl (by decide) ?_
    refine XK.nilN ?_
    refine XK.if_ rfl (fun h0 => ?_) (fun h0 => ?_)
    ·
      refine XK.exit ?_
      refine XK.norm ?_
      refine XK.seq ?_

      refine XK.region ?_
      refine xk_move rfl (by decide) ?_
      refine xk_assign rfl (by decide) ?_
      refine XK.nilN ?_
      refine XK.ret ?_
      refine XK.norm ?_
      have hs0 : x.src = [] := List.eq_nil_of_length_eq_zero (by have : ((x.src.length : Nat) : Int) = 0 := h0; omega)
      rw [hs0] at hch
      have hfin : (l ++ [cur]) = chainL s c := hch.symm
      refine XK.still [] [0] [] (by simp) rfl (by decide) (by decide) fun qf hqf _ hfr => ?_
      obtain ⟨Ff, sf, zf⟩ := hqf 0 _ (by simp) rfl
      obtain ⟨Av, cv, hv, hsv⟩ := SlS.of_own (Y := qf.Z) sf zf
      exact XK.ret1 rfl rfl fun w1 st => ⟨⟨_, rfl, by
        rw [← hfin]
        unfold IntsOk
        rw [hv]
        exact ⟨Av, cv, by simp, by simpa using SlS.le hsv (st.fresh_le (by simp) (hfr (by simp) (by simp)))⟩⟩, st.below (by simp)⟩
    ·
      refine XK.skip ?_
      refine XK.norm ?_
      obtain ⟨f, fs, hs0⟩ : ∃ f fs, x.src = f :: fs := by
        cases hs0 : x.src with
        | nil => exact absurd (by rw [hs0]; rfl) h0
        | cons f fs => exact ⟨f, fs, rfl⟩
      have hf := hfit f (by rw [hs0]; simp)
      obtain ⟨f', rfl⟩ : ∃ f' : Nat, f = (f' : Int) := ⟨f.toNat, by omega⟩
      rw [hs0] at hch
      obtain ⟨bS, oS, rfl, hzS, hcS⟩ := hsr.2 (by rw [hs0]; simp)

      refine XK.region ?_
      refine xk_field (off := 0) (by kernel_rfl) rfl (by decide) ?_
      refine xk_ld rfl ?_
      refine xk_move rfl (by decide) ?_
      refine xk_at (cur) (oC + cur * 6) (el := 60) (sz := 6) (by kernel_rfl) (by kernel_rfl) rfl rfl (by omega) (by omega) (by omega) (by decide) ?_
      refine xk_field (off := 1) (by kernel_rfl) rfl (by decide) ?_
      refine xk_load (by kernel_rfl) rfl (Rd.ro (p := q) (by simp) hzC (hcC 1 _ rfl)) (by decide) ?_
      refine xk_at 0 oS (el := 3) (sz := 1) (by kernel_rfl) (by kernel_rfl) rfl rfl rfl (by rw [hs0]; simp) (by omega) (by decide) ?_
      refine xk_load (by kernel_rfl) rfl (Rd.ro (p := q) (by simp) hzS (hcS 0 _ (by rw [hs0]; rfl))) (by decide) ?_
      refine xk_assign rfl (by decide) ?_
      refine XK.nilN ?_
      exact XK.envS [(1, .int .i64 (f' : Int)), (5, .slice A' (l.length + 1) k'), (2, .pointer (some ⟨g1, 0, none⟩))] (XK.round (s.clocks.length - (l.length + 1)) (by omega) ⟨f', l ++ [cur], A', k', by omega, by simp; omega, by simp, by rw [hch]; simp [show s.clocks.length - (l.length + 1) = k0 by omega], by simp, rfl, by simp⟩)
  ·
    refine XK.exit ?_
    refine XK.norm ?_
    refine XK.seq ?_

    refine XK.region ?_
    refine xk_move rfl (by decide) ?_
    refine xk_assign rfl (by decide) ?_
    refine XK.nilN ?_
    refine XK.ret ?_
    refine XK.norm ?_
    have hge : ¬ l.length < s.clocks.length := h
    rw [show s.clocks.length - l.length = 0 by omega] at hch
    have hfin : l = chainL s c := by rw [hch]; simp [chainN]
    refine XK.still [] [0] [] (by simp) rfl (by decide) (by decide) fun qf hqf _ hfr => ?_
    obtain ⟨Ff, sf, zf⟩ := hqf 0 _ (by simp) rfl
    obtain ⟨Av, cv, hv, hsv⟩ := SlS.of_own (Y := qf.Z) sf zf
    exact XK.ret1 rfl rfl fun w1 st => ⟨⟨_, rfl, by
      rw [← hfin]
      unfold IntsOk
      rw [hv]
      exact ⟨Av, cv, rfl, SlS.le hsv (st.fresh_le (by simp) (hfr (by simp) (by simp)))⟩⟩, st.below (by simp)⟩

end Go.Proofs.Ytbcfbafpeidifaa
/- package table: what is denied, what waits, what is decided. No walk in sight. -/
namespace Go.Proofs.Ytbcfbafpeidifaa
set_option linter.all false
open Go.RowKit
def idxF (l : List Int) (x : Int) : Int := if x ∈ l then (l.idxOf x : Int) else -1
theorem idxF_get {l : List Int} {x : Int} {i : Nat} (hno : ∀ j y, j < i → l[j]? = some y → y ≠ x) (h : l[i]? = some x) : idxF l x = i := by
  have hm : x ∈ l := List.mem_of_getElem? h
  rw [idxF, if_pos hm]
  have h2 : l.idxOf x = i := by
    induction l generalizing i with
    | nil => simp at h
    | cons a r ih =>
      cases i with
      | zero => simp at h; subst h; simp
      | succ i =>
        have ha : a ≠ x := hno 0 a (by omega) rfl
        simp at h
        have hmr : x ∈ r := List.mem_of_getElem? h
        have hi := ih (fun j y hj hy => hno (j + 1) y (by omega) (by simpa using hy)) h hmr
        have hb : (a == x) = false := by simpa using ha
        rw [List.idxOf_cons, hb]
        simp [hi]
  rw [h2]
theorem idxF_none {l : List Int} {x : Int} (hno : ∀ (j : Nat) (y : Int), l[j]? = some y → y ≠ x) : idxF l x = -1 := by
  rw [idxF, if_neg]
  intro hm
  obtain ⟨j, hj⟩ := List.getElem?_of_mem hm
  exact hno j x hj rfl
theorem idxF_mem (l : List Int) (x : Int) : decide (0 ≤ idxF l x) = decide (x ∈ l) := by
  unfold idxF
  by_cases h : x ∈ l <;> simp [h]
/-- a clock's chain has id -/
def chainB (s : Soc) (c id : Int) : Bool := decide (id ∈ natI (chainL s c.toNat))
/-- something on its way to this device keeps an act of this kind waiting -/
def hitB (s : Soc) (k id : Int) (d : Dev) : Bool :=
  if k = 100 ∨ k = 107 then decide (d.domain = id) else if k = 111 then chainB s d.clock id else if k = 97 then decide (d.reset = id) else false
def busyAt (s : Soc) (wt : List Int) (k id : Int) (i : Nat) : Bool := decide (0 < (wt[i]?).getD 0) && ((s.devs[i]?).any fun d => hitB s k id d)
def busyF (s : Soc) (wt : List Int) (k id : Int) : Bool := (List.range s.devs.length).any (busyAt s wt k id)
theorem busyF_true {s : Soc} {wt : List Int} {k id : Int} {i : Nat} (hi : i < s.devs.length) (h : busyAt s wt k id i = true) : busyF s wt k id = true := by
  rw [busyF, List.any_eq_true]; exact ⟨i, List.mem_range.2 hi, h⟩
theorem busyF_false {s : Soc} {wt : List Int} {k id : Int} (h : ∀ i, i < s.devs.length → busyAt s wt k id i = false) : busyF s wt k id = false := by
  rw [busyF, List.any_eq_false]; intro i hi; simp [h i (List.mem_range.1 hi)]
/-- what hangs on it is wished by any -/
def hangAt (s : Soc) (x y : Wsh) (k id : Int) (i : Nat) : Bool :=
  if k = 100 ∨ k = 107 then ((s.domains[i]?).any fun d => decide (d.above = id)) && wishedF x y k i
  else decide ((i : Int) ≠ id) && (wishedF x y k i && chainB s i id)
def hangN (s : Soc) (k : Int) : Nat := if k = 100 ∨ k = 107 then s.domains.length else if k = 111 then s.clocks.length else 0
def hangF (s : Soc) (x y : Wsh) (k id : Int) : Bool := (List.range (hangN s k)).any (hangAt s x y k id)
theorem hangF_true {s : Soc} {x y : Wsh} {k id : Int} {i : Nat} (hi : i < hangN s k) (h : hangAt s x y k id i = true) : hangF s x y k id = true := by
  rw [hangF, List.any_eq_true]; exact ⟨i, List.mem_range.2 hi, h⟩
theorem hangF_false {s : Soc} {x y : Wsh} {k id : Int} (h : ∀ i, i < hangN s k → hangAt s x y k id i = false) : hangF s x y k id = false := by
  rw [hangF, List.any_eq_false]; intro i hi; simp [h i (List.mem_range.1 hi)]
def deniedF (s : Soc) (x y : Wsh) (ag : Nat) (k id : Int) : Bool := wishF (if ag = 0 then y else x) k id || hangF s x y k id
/-- what a message has as status, and what is to be done -/
def decF (s : Soc) (x y : Wsh) (wt : List Int) (ag : Nat) (l : List Int) : Int × Int × Int :=
  if (readF s l).1 ≠ 0 ∨ (readF s l).2.1 = 0 ∨ wishF (if ag = 0 then x else y) (readF s l).2.1 (readF s l).2.2 = decide (onB (readF s l).2.1) then ((readF s l).1, 0, 0)
  else if onB (readF s l).2.1 then
    (if (readF s l).2.1 = 117 ∧ (s.domains[(readF s l).2.2.toNat]?).any (fun d => decide (d.above ≠ -1) && !wishedF x y 117 d.above) = true then (-3, 0, 0) else (0, (readF s l).2))
  else if deniedF s x y ag (readF s l).2.1 (readF s l).2.2 then (-3, 0, 0)
  else if busyF s wt (readF s l).2.1 (readF s l).2.2 then (-6, 0, 0)
  else (0, (readF s l).2)
/-- the protocol that acts of a kind belong to -/
def kPro (k : Int) : Int := if k = 117 ∨ k = 100 ∨ k = 107 then 17 else if k = 99 ∨ k = 111 then 20 else 22
def kindB (k : Int) : Prop := k = 117 ∨ k = 100 ∨ k = 107 ∨ k = 99 ∨ k = 111 ∨ k = 114 ∨ k = 97
theorem frm_act (p m : Int) (v : Int) (h0 : 0 ≤ v) (hv : v < (frmD p m).m) : kPro ((frmD p m).act v) = p ∧ kindB ((frmD p m).act v) := by
  have h1 : ∀ f : Frm, frmOf p m = some f → v < f.m → kPro (f.act v) = p ∧ kindB (f.act v) := by
    intro f hf hv
    unfold frmOf at hf
    have hv3 : f.m ≤ 3 := by
      have := (frm_ok p m).2.2.1
      unfold frmD frmOf at this
      rw [hf] at this
      exact this
    rcases (by omega : v = 0 ∨ v = 1 ∨ v = 2) with rfl | rfl | rfl <;>
    · repeat' split at hf
      all_goals first
        | (cases hf; done)
        | (cases hf; simp at hv; done)
        | (cases hf; simp_all [kPro, kindB, Frm.act])
  unfold frmD at hv ⊢
  cases h : frmOf p m with
  | none => rw [h] at hv; simp at hv; omega
  | some f => rw [h] at hv; exact h1 f h hv
theorem readF_ok {s : Soc} {l : List Int} (hu : U32s l) : ((readF s l).2.1 = 0 ∧ (readF s l).2.2 = 0) ∨ ((readF s l).1 = 0 ∧ kindB (readF s l).2.1 ∧ 0 ≤ (readF s l).2.2 ∧ (readF s l).2.2 < (numF s (kPro (readF s l).2.1) : Int) ∧
    ((readF s l).2.1 = 107 → retOf s (readF s l).2.2.toNat = true) ∧ (kPro (readF s l).2.1 = 20 → swit s (readF s l).2.2.toNat)) := by
  unfold readF
  split
  · exact .inl ⟨rfl, rfl⟩
  · rename_i w r
    split
    · exact .inl ⟨rfl, rfl⟩
    · split
      · exact .inl ⟨rfl, rfl⟩
      · split
        · exact .inl ⟨rfl, rfl⟩
        · split
          · exact .inl ⟨rfl, rfl⟩
          · have hd : ∀ i, 0 ≤ r.getD i 0 := fun i => by
              rw [List.getD_eq_getElem?_getD]
              cases hi : r[i]? with
              | none => exact Int.le_refl _
              | some x => exact (hu x (List.mem_cons_of_mem _ (List.mem_of_getElem? hi))).1
            have hid := hd 0
            have hv := hd ((frmD (hPro w) (hMsg w)).n.toNat - 1)
            generalize r.getD 0 0 = id at *
            generalize r.getD ((frmD (hPro w) (hMsg w)).n.toNat - 1) 0 = v at *
            unfold askF
            split
            · exact .inl ⟨rfl, rfl⟩
            · split
              · exact .inl ⟨rfl, rfl⟩
              · split
                · exact .inl ⟨rfl, rfl⟩
                · split
                  · exact .inl ⟨rfl, rfl⟩
                  · rename_i h1 h2 h3 h4
                    obtain ⟨a1, a2⟩ := frm_act (hPro w) (hMsg w) v hv (by omega)
                    refine .inr ⟨rfl, a2, hid, by dsimp only; rw [a1]; omega, fun h5 => ?_, fun h5 => ?_⟩
                    · dsimp only at h5 ⊢
                      cases hr : retOf s id.toNat with
                      | true => rfl
                      | false => exact absurd (.inl ⟨h5, hr⟩) h4
                    · dsimp only at h5 ⊢
                      rw [a1] at h5
                      exact Decidable.byContradiction fun hs => h4 (.inr ⟨h5, hs⟩)
theorem SlS.int {w : World} {A : Option Addr} {n : Nat} {l : List Int} (h : SlS (all w) 1 A n (intCells l)) (hn : 0 < n) : ∃ b off, A = some ⟨b, off, none⟩ ∧ ∀ (i : Nat) (x : Int), l[i]? = some x → ROc w b (off + i) (.int .i64 x) := by
  obtain ⟨b, off, hA, hb, hc⟩ := h.2 hn
  refine ⟨b, off, hA, fun i x hx => ⟨hb, hc i _ ?_⟩⟩
  simp only [intCells, List.getElem?_map, hx, Option.map_some]
theorem SocW.P {w : World} {s : Soc} {A1 A2 A3 A4 : Option Addr} {n1 n2 n3 n4 : Nat} (h : SocW w s A1 n1 A2 n2 A3 n3 A4 n4) : SocP (all w) s A1 n1 A2 n2 A3 n3 A4 n4 := ⟨h.clk, h.dom, h.rst, h.dev⟩
end Go.Proofs.Ytbcfbafpeidifaa
/- package table: what is denied, and what waits. -/
namespace Go.Proofs.Ytbcfbafpeidifaa
set_option linter.all false
open Go.RowKit

theorem index_any (A : Option Addr) (n c : Nat) (l : List Int) (x : Int) (w : World) (hs : SlS (all w) 1 A n (intCells l)) (hn : n = l.length) (hn2 : n ≤ 1000000) :
    Calls Try.prog 77 #[.slice A n c, .int .i64 x] w (Rt (.int .i64 (idxF l x)) w) := by
  refine XK.enter (vs := [.slice A n c, .int .i64 x]) Try.func77 rfl Try.ntmps77 (by simp) ?_
  refine XK.seq ?_

  refine XK.region ?_
  refine xk_assign rfl (by decide) ?_
  refine XK.nilN ?_
  refine XK.seq ?_
  refine XK.seq ?_

  refine XK.region ?_
  refine xk_move rfl (by decide) ?_
  refine xk_len (el := 3) (by kernel_rfl) rfl (by decide) ?_
  refine xk_move rfl (by decide) ?_
  refine XK.nilN ?_
  refine XK.envS [(8, .int .i64 0), (7, .int .i64 n), (1, .int .i64 x), (0, .slice A n c)] ?_
  refine XK.block ?_
  refine XK.loop (fun m e R H => ∃ (i : Nat), i ≤ n ∧ m = n - i ∧ (∀ (j : Nat) (y : Int), j < i → l[j]? = some y → y ≠ x) ∧ e = [(8, .int .i64 i), (7, .int .i64 n), (1, .int .i64 x), (0, .slice A n c)] ∧ R = [all w] ∧ H = []) n ⟨0, by omega, rfl, (fun j y hj => absurd hj (Nat.not_lt_zero j)), rfl, rfl, rfl⟩ fun m e R H hI => ?_
  obtain ⟨i, hi, rfl, hno, rfl, rfl, rfl⟩ := hI
  refine XK.seq ?_

  refine XK.region ?_
  refine xk_lss rfl rfl (by decide) ?_
  refine XK.nilN ?_
  refine XK.seq ?_
  refine XK.if_ rfl (fun h => ?_) (fun h => ?_)
  ·
    refine XK.skip ?_
    refine XK.norm ?_
    refine XK.seq ?_
    refine XK.block ?_
    refine XK.seq ?_
    have hil : i < n := by have h' : (i : Int) < (n : Int) := h; omega
    obtain ⟨y, hy⟩ : ∃ y, l[i]? = some y := ⟨l[i]'(by omega), List.getElem?_eq_getElem _⟩
    obtain ⟨b, off, rfl, hc⟩ := hs.int (by omega)
    have hcy := hc i y hy

    refine XK.region ?_
    refine xk_move rfl (by decide) ?_
    refine xk_assign rfl (by decide) ?_
    refine XK.nilN ?_
    refine XK.seq ?_

    refine XK.region ?_
    refine xk_move rfl (by decide) ?_
    refine xk_move rfl (by decide) ?_
    refine xk_move rfl (by decide) ?_
    refine xk_at (i) (off + i) (el := 3) (sz := 1) (by kernel_rfl) (by kernel_rfl) rfl rfl (by omega) (by omega) (by omega) (by decide) ?_
    refine xk_ld rfl ?_
    refine xk_eql rfl rfl (by decide) ?_
    refine XK.nilN ?_
    refine XK.if_ rfl (fun h2 => ?_) (fun h2 => ?_)
    ·
      refine XK.seq ?_

      refine XK.region ?_
      refine xk_move rfl (by decide) ?_
      refine xk_assign rfl (by decide) ?_
      refine XK.nilN ?_
      refine XK.ret ?_
      refine XK.norm ?_
      exact XK.ret1 rfl rfl fun w1 st => ⟨by rw [idxF_get (i := i) hno (h2 ▸ hy)], st.below (by simp)⟩
    ·
      refine XK.skip ?_
      refine XK.norm ?_

      refine XK.region ?_
      refine xk_add rfl rfl (wrap_in (by omega)) (by decide) ?_
      refine xk_move rfl (by decide) ?_
      refine XK.nilN ?_
      exact XK.envS [(8, .int .i64 ((i : Int) + 1)), (7, .int .i64 n), (1, .int .i64 x), (0, .slice (some ⟨b, off, none⟩) n c)] (XK.round (n - (i + 1)) (by omega) ⟨i + 1, by omega, rfl, (fun j y' hj hy' => by
        rcases Nat.lt_or_ge j i with h1 | h1
        · exact hno j y' h1 hy'
        · have hji : j = i := by omega
          subst hji
          rw [hy] at hy'
          cases hy'
          exact fun h => h2 h.symm), rfl, rfl, rfl⟩)
  ·
    refine XK.exit ?_
    refine XK.norm ?_
    refine XK.seq ?_

    refine XK.region ?_
    refine xk_assign rfl (by decide) ?_
    refine XK.nilN ?_
    refine XK.ret ?_
    refine XK.norm ?_
    have hin : i = n := by have h' : ¬ (i : Int) < (n : Int) := h; omega
    subst hin
    exact XK.ret1 rfl rfl fun w1 st => ⟨by rw [idxF_none (fun j y hy => hno j y (by have := (List.getElem?_eq_some_iff.1 hy).1; omega) hy)], st.below (by simp)⟩

theorem contains_any (A : Option Addr) (n c : Nat) (l : List Int) (x : Int) (w : World) (hs : SlS (all w) 1 A n (intCells l)) (hn : n = l.length) (hn2 : n ≤ 1000000) :
    Calls Try.prog 54 #[.slice A n c, .int .i64 x] w (Rt (.bool (decide (x ∈ l))) w) := by
  refine XK.enter (vs := [.slice A n c, .int .i64 x]) Try.func54 rfl Try.ntmps54 (by simp) ?_
  refine XK.seq ?_

  refine XK.region ?_
  refine xk_assign rfl (by decide) ?_
  refine XK.nilN ?_
  refine XK.seq ?_

  refine XK.region ?_
  refine xk_move rfl (by decide) ?_
  refine xk_move rfl (by decide) ?_
  refine xk_callR (f := 77) (fi := []) (ca := []) (by kernel_rfl) rfl rfl (by decide) (fun w1 st => index_any A n c l x w1 (hs.le (st.le (by simp))) hn hn2) ?_
  refine xk_geq rfl rfl (by decide) ?_
  refine xk_assign rfl (by decide) ?_
  refine XK.nilN ?_
  refine XK.ret ?_
  refine XK.norm ?_
  exact XK.ret1 rfl rfl fun w1 st => ⟨by rw [← idxF_mem], st.below (by simp)⟩

theorem busy_any (q : Piece) (s : Soc) (A1 A2 A3 A4 : Option Addr) (n1 k1 n2 k2 n3 k3 n4 k4 : Nat) (Aw : Option Addr) (nw cw : Nat) (wt : List Int) (k id : Int) (w : World) (hSP : SocP q s A1 n1 A2 n2 A3 n3 A4 n4) (hm : s.okT) (hq : q.Le (all w)) (hw : SlS (all w) 1 Aw nw (intCells wt)) (hnw : nw = wt.length) :
    Calls Try.prog 20 #[.agg #[.slice A1 n1 k1, .slice A2 n2 k2, .slice A3 n3 k3, .slice A4 n4 k4], .slice Aw nw cw, .agg #[.int .u8 k, .int .i64 id]] w (Rt (.bool (busyF s wt k id)) w) := by
  refine XK.enter (vs := [.agg #[.slice A1 n1 k1, .slice A2 n2 k2, .slice A3 n3 k3, .slice A4 n4 k4], .slice Aw nw cw, .agg #[.int .u8 k, .int .i64 id]]) Try.func20 rfl Try.ntmps20 (by simp) ?_
  refine XK.seq ?_
  refine XK.piece q (by simp) hq ?_
  obtain ⟨rfl, rfl, rfl, rfl⟩ := hSP.len

  refine XK.region ?_
  refine xk_box rfl (by decide) fun g1 => ?_
  refine xk_box rfl (by decide) fun g2 => ?_
  refine xk_assign rfl (by decide) ?_
  refine XK.nilN ?_
  refine XK.seq ?_
  refine XK.seq ?_

  refine XK.region ?_
  refine xk_field (off := 3) (by kernel_rfl) rfl (by decide) ?_
  refine xk_ld rfl ?_
  refine xk_len (el := 67) (by kernel_rfl) rfl (by decide) ?_
  refine xk_move rfl (by decide) ?_
  refine XK.nilN ?_
  refine XK.envS [(12, .int .i64 0), (11, .int .i64 s.devs.length), (10, .slice A4 s.devs.length k4), (5, .pointer (some ⟨g2, 0, none⟩)), (3, .pointer (some ⟨g1, 0, none⟩)), (1, .slice Aw nw cw)] ?_
  refine XK.block ?_
  refine XK.loop (fun m e R H => ∃ (i : Nat), i ≤ s.devs.length ∧ m = s.devs.length - i ∧ (∀ j, j < i → busyAt s wt k id j = false) ∧ e = [(12, .int .i64 i), (11, .int .i64 s.devs.length), (10, .slice A4 s.devs.length k4), (5, .pointer (some ⟨g2, 0, none⟩)), (3, .pointer (some ⟨g1, 0, none⟩)), (1, .slice Aw nw cw)] ∧ R = [q, all w] ∧ H = [HP.blk g2 43 [.int .u8 k, .int .i64 id], HP.blk g1 30 [.slice A1 s.clocks.length k1, .slice A2 s.domains.length k2, .slice A3 s.resets.length k3, .slice A4 s.devs.length k4]]) s.devs.length ⟨0, by omega, rfl, (fun j hj => absurd hj (Nat.not_lt_zero j)), rfl, rfl, rfl⟩ fun m e R H hI => ?_
  obtain ⟨i, hi, rfl, hno, rfl, rfl, rfl⟩ := hI
  refine XK.seq ?_

  refine XK.region ?_
  refine xk_lss rfl rfl (by decide) ?_
  refine XK.nilN ?_
  refine XK.seq ?_
  refine XK.if_ rfl (fun h => ?_) (fun h => ?_)
  ·
    refine XK.skip ?_
    refine XK.norm ?_
    refine XK.seq ?_
    refine XK.block ?_
    refine XK.seq ?_
    have hil : i < s.devs.length := by have h' : (i : Int) < (s.devs.length : Int) := h; omega
    obtain ⟨d, hd⟩ : ∃ d, s.devs[i]? = some d := ⟨_, List.getElem?_eq_getElem hil⟩
    obtain ⟨hx1, hx2, hx3, hx4, hx5, hx6, _⟩ := hm.devs i d hd
    have hnc := hm.nc
    have hnd := hm.nd
    have hnv := hm.nv
    obtain ⟨bV, oV, rV, rfl, hzV, _, hR, hcV⟩ := hSP.dev.rowP hd
    obtain ⟨Ar, nr, kr, An, nn, kn, rfl, _⟩ := hR
    obtain ⟨xc, hxc⟩ : ∃ xc : Nat, d.clock = (xc : Int) := ⟨d.clock.toNat, by omega⟩
    have hgo : busyAt s wt k id i = false → ∀ j, j < i + 1 → busyAt s wt k id j = false := fun h j hj => by
      rcases Nat.lt_or_ge j i with h1 | h1
      · exact hno j h1
      · have hji : j = i := by omega
        subst hji; exact h
    rw [hxc] at hcV
    have hbat : busyAt s wt k id i = (decide (0 < (wt[i]?).getD 0) && hitB s k id d) := by rw [busyAt, hd]; rfl

    refine XK.region ?_
    refine xk_move rfl (by decide) ?_
    refine xk_at (i) (oV + i * 6) (el := 67) (sz := 6) (by kernel_rfl) (by kernel_rfl) rfl rfl (by omega) (by omega) (by omega) (by decide) ?_
    refine xk_loadN 6 (by kernel_rfl) rfl (RdN.of (vs := [.int .i64 (xc : Int), .int .i64 d.domain, .int .i64 d.reset, .int .u32 d.clamp, .slice Ar nr kr, .slice An nn kn]) fun f v hf => Rd.ro (p := q) (by simp) hzV (hcV f v hf)) rfl (by decide) ?_
    refine xk_alloc (cs := [.int .i64 0, .int .i64 0, .int .i64 0, .int .u32 0, .slice none 0 0, .slice none 0 0]) (zeroB_of (by kernel_rfl)) (by decide) fun g3 => ?_
    refine xk_assign rfl (by decide) ?_
    (first | (refine xk_storeN 0 rfl rfl rfl (by kernel_rfl) (by simp [Value.cells, Value.oneCell']) (by simp [Value.cells]) ?_) | (refine xk_storeN 1 rfl rfl rfl (by kernel_rfl) (by simp [Value.cells, Value.oneCell']) (by simp [Value.cells]) ?_) | (refine xk_storeN 2 rfl rfl rfl (by kernel_rfl) (by simp [Value.cells, Value.oneCell']) (by simp [Value.cells]) ?_) | (refine xk_storeN 3 rfl rfl rfl (by kernel_rfl) (by simp [Value.cells, Value.oneCell']) (by simp [Value.cells]) ?_) | (refine xk_storeN 4 rfl rfl rfl (by kernel_rfl) (by simp [Value.cells, Value.oneCell']) (by simp [Value.cells]) ?_) | (refine xk_storeN 5 rfl rfl rfl (by kernel_rfl) (by simp [Value.cells, Value.oneCell']) (by simp [Value.cells]) ?_) | (refine xk_storeN 6 rfl rfl rfl (by kernel_rfl) (by simp [Value.cells, Value.oneCell']) (by simp [Value.cells]) ?_) | (refine xk_storeN 7 rfl rfl rfl (by kernel_rfl) (by simp [Value.cells, Value.oneCell']) (by simp [Value.cells]) ?_) | (refine xk_storeN 8 rfl rfl rfl (by kernel_rfl) (by simp [Value.cells, Value.oneCell']) (by simp [Value.cells]) ?_)); simp only [putN, Value.cells, List.set, List.take, List.drop, List.nil_append, List.append_nil, List.length_cons, List.length_nil, List.cons_append, Nat.reduceAdd]
    refine XK.nilN ?_
    refine XK.seq ?_
    refine XK.cutB 27 ((nw : Int) ≤ i ∨ (wt[i]?).getD 0 ≤ 0) ?_ ?_
    · skip

      refine XK.region ?_
      refine xk_move rfl (by decide) ?_
      refine xk_move rfl (by decide) ?_
      refine xk_len (el := 3) (by kernel_rfl) rfl (by decide) ?_
      refine xk_geq rfl rfl (by decide) ?_
      refine xk_move rfl (by decide) ?_
      (first | refine xk_split (t := 21) rfl (fun hg => ?_) (fun hg => ?_) | refine xk_splitB (t := 21) rfl (fun hg => ?_) (fun hg => ?_))
      ·
        refine xk_guardF rfl rfl rfl (by decide) ?_
        refine xk_guardF rfl rfl rfl (by decide) ?_
        refine xk_guardF rfl rfl rfl (by decide) ?_
        refine xk_guardF rfl rfl rfl (by decide) ?_
        refine xk_guardF rfl rfl rfl (by decide) ?_
        (first | refine xk_pickT rfl rfl (by decide) ?_ | refine xk_pickF rfl rfl (by decide) ?_)
        refine XK.nilN ?_
        exact XK.meetB (by repeat (first | exact trivial | refine ⟨rfl, ?_⟩)) (by first | (refine get_iff rfl ?_; omega) | (refine get_iff rfl ?_; simp_all; done) | (refine get_false rfl ?_; first | omega | (simp_all; done)) | (refine get_true rfl ?_; first | omega | (simp_all; done)) | (refine get_bool rfl ?_; simp_all; done) | (refine get_iff rfl ⟨fun hh => ?_, fun hh => ?_⟩ <;> first | omega | (simp_all; done) | (simp_all; omega)) | (exfalso; omega))
      ·
        have hiw : i < nw := by omega
        obtain ⟨y, hy⟩ : ∃ y, wt[i]? = some y := ⟨wt[i]'(by omega), List.getElem?_eq_getElem _⟩
        obtain ⟨bW, oW, rfl, hcW⟩ := hw.int (by omega)
        have hcy := hcW i y hy
        have hgy : (wt[i]?).getD 0 = y := by rw [hy]; rfl
        refine xk_guardT rfl rfl ?_; refine xk_move rfl (by decide) ?_
        refine xk_guardT rfl rfl ?_; refine xk_move rfl (by decide) ?_
        refine xk_guardT rfl rfl ?_; refine xk_at (i) (oW + i) (el := 3) (sz := 1) (by kernel_rfl) (by kernel_rfl) rfl rfl (by omega) (by omega) (by omega) (by decide) ?_
        refine xk_guardT rfl rfl ?_; refine xk_ld rfl ?_
        refine xk_guardT rfl rfl ?_; refine xk_leq rfl rfl (by decide) ?_
        (first | refine xk_pickT rfl rfl (by decide) ?_ | refine xk_pickF rfl rfl (by decide) ?_)
        refine XK.nilN ?_
        exact XK.meetB (by repeat (first | exact trivial | refine ⟨rfl, ?_⟩)) (by first | (refine get_iff rfl ?_; omega) | (refine get_iff rfl ?_; simp_all; done) | (refine get_false rfl ?_; first | omega | (simp_all; done)) | (refine get_true rfl ?_; first | omega | (simp_all; done)) | (refine get_bool rfl ?_; simp_all; done) | (refine get_iff rfl ⟨fun hh => ?_, fun hh => ?_⟩ <;> first | omega | (simp_all; done) | (simp_all; omega)) | (exfalso; omega))
    refine XK.if_ rfl (fun h4 => ?_) (fun h4 => ?_)
    ·
      refine XK.exit ?_
      refine XK.norm ?_

      refine XK.region ?_
      refine xk_add rfl rfl (wrap_in (by omega)) (by decide) ?_
      refine xk_move rfl (by decide) ?_
      refine XK.nilN ?_
      have hf2 : busyAt s wt k id i = false := by
        rw [hbat]
        have h5 : (wt[i]?).getD 0 ≤ 0 := by
          rcases h4 with h4 | h4
          · rw [List.getElem?_eq_none (by omega)]; exact Int.le_refl _
          · exact h4
        simp [show ¬ 0 < (wt[i]?).getD 0 by omega]
      exact XK.weak [1, 2] rfl (by decide) (by simp) (XK.envS [(12, .int .i64 ((i : Int) + 1)), (11, .int .i64 s.devs.length), (10, .slice (some ⟨bV, oV, none⟩) s.devs.length k4), (5, .pointer (some ⟨g2, 0, none⟩)), (3, .pointer (some ⟨g1, 0, none⟩)), (1, .slice Aw nw cw)] (XK.round (s.devs.length - (i + 1)) (by omega) ⟨i + 1, by omega, rfl, hgo hf2, rfl, rfl, rfl⟩))
    ·
      have h5 : 0 < (wt[i]?).getD 0 := by have h' := fun h => h4 (.inr h); omega
      rw [show decide (0 < (wt[i]?).getD 0) = true from decide_eq_true h5, Bool.true_and] at hbat
      refine XK.skip ?_
      refine XK.norm ?_
      refine XK.seq ?_

      refine XK.region ?_
      refine xk_field (off := 0) (by kernel_rfl) rfl (by decide) ?_
      refine xk_ld rfl ?_
      refine XK.nilN ?_
      refine XK.block ?_
      refine XK.cutB 30 (k = 100 ∨ k = 107) ?_ ?_
      · skip
        refine XK.seq ?_

        refine XK.region ?_
        refine xk_eql rfl rfl (by decide) ?_
        refine xk_assign rfl (by decide) ?_
        refine XK.nilN ?_
        refine XK.if_ rfl (fun h => ?_) (fun h => ?_)
        ·
          refine XK.skip ?_
          refine XK.norm ?_
          exact XK.meetB (by repeat (first | exact trivial | refine ⟨rfl, ?_⟩)) (by first | (refine get_iff rfl ?_; omega) | (refine get_iff rfl ?_; simp_all; done) | (refine get_false rfl ?_; first | omega | (simp_all; done)) | (refine get_true rfl ?_; first | omega | (simp_all; done)) | (refine get_bool rfl ?_; simp_all; done) | (refine get_iff rfl ⟨fun hh => ?_, fun hh => ?_⟩ <;> first | omega | (simp_all; done) | (simp_all; omega)) | (exfalso; omega))
        ·

          refine XK.region ?_
          refine xk_eql rfl rfl (by decide) ?_
          refine xk_assign rfl (by decide) ?_
          refine XK.nilN ?_
          exact XK.meetB (by repeat (first | exact trivial | refine ⟨rfl, ?_⟩)) (by first | (refine get_iff rfl ?_; omega) | (refine get_iff rfl ?_; simp_all; done) | (refine get_false rfl ?_; first | omega | (simp_all; done)) | (refine get_true rfl ?_; first | omega | (simp_all; done)) | (refine get_bool rfl ?_; simp_all; done) | (refine get_iff rfl ⟨fun hh => ?_, fun hh => ?_⟩ <;> first | omega | (simp_all; done) | (simp_all; omega)) | (exfalso; omega))
      refine XK.if_ rfl (fun h => ?_) (fun h => ?_)
      ·
        refine XK.seq ?_

        refine XK.region ?_
        refine xk_field (off := 1) (by kernel_rfl) rfl (by decide) ?_
        refine xk_ld rfl ?_
        refine xk_field (off := 1) (by kernel_rfl) rfl (by decide) ?_
        refine xk_ld rfl ?_
        refine xk_eql rfl rfl (by decide) ?_
        refine XK.nilN ?_
        refine XK.if_ rfl (fun h => ?_) (fun h => ?_)
        ·
          refine XK.seq ?_

          refine XK.region ?_
          refine xk_assign rfl (by decide) ?_
          refine XK.nilN ?_
          refine XK.ret ?_
          refine XK.norm ?_
          have ht : busyAt s wt k id i = true := by
            rw [hbat]; unfold hitB chainB; first | (simp_all; done) | (simp_all; omega)
          exact XK.ret1 rfl rfl fun w9 st => ⟨by rw [busyF_true hil ht], st.below (by simp)⟩
        ·
          refine XK.skip ?_
          refine XK.norm ?_

          refine XK.region ?_
          refine xk_add rfl rfl (wrap_in (by omega)) (by decide) ?_
          refine xk_move rfl (by decide) ?_
          refine XK.nilN ?_
          have hf2 : busyAt s wt k id i = false := by
            rw [hbat]; unfold hitB chainB; first | (simp_all; done) | (simp_all; omega)
          exact XK.weak [1, 2] rfl (by decide) (by simp) (XK.envS [(12, .int .i64 ((i : Int) + 1)), (11, .int .i64 s.devs.length), (10, .slice (some ⟨bV, oV, none⟩) s.devs.length k4), (5, .pointer (some ⟨g2, 0, none⟩)), (3, .pointer (some ⟨g1, 0, none⟩)), (1, .slice Aw nw cw)] (XK.round (s.devs.length - (i + 1)) (by omega) ⟨i + 1, by omega, rfl, hgo hf2, rfl, rfl, rfl⟩))
      ·
        refine XK.seq ?_

        refine XK.region ?_
        refine xk_eql rfl rfl (by decide) ?_
        refine xk_assign rfl (by decide) ?_
        refine XK.nilN ?_
        refine XK.if_ rfl (fun h => ?_) (fun h => ?_)
        ·
          refine XK.seq ?_

          refine XK.draw 6 (by kernel_rfl) (by kernel_rfl) ?_
          refine XA.dA 0 rfl rfl rfl (does_ldN 4 rfl) ?_
          refine XA.dA 1 rfl rfl rfl (does_field (off := 0) (by kernel_rfl) rfl) ?_
          refine XA.dA 2 rfl rfl rfl (does_ld rfl) ?_
          refine XA.dA 4 rfl rfl rfl (does_field (off := 1) (by kernel_rfl) rfl) ?_
          refine XA.dA 5 rfl rfl rfl (does_ld rfl) ?_
          refine XA.next 3 rfl (by kernel_rfl) ?_
          refine xk_call [q] (f := 55) (fi := []) (ca := []) (by kernel_rfl) rfl rfl (by decide) (by simp) (IntsOk (chainL s xc)) (fun w2 st => chain_any q s _ _ _ _ _ k1 _ k2 _ k3 _ k4 xc w2 hSP hm (st.le (by simp)) (by omega)) ?_
          rintro _ w2 q1 ⟨Ac, cc, rfl, hch⟩ hf hle _
          have hch := hch.le hf
          have hclen := chainN_len s s.clocks.length xc
          refine XA.bk ?_
          refine XA.next 6 rfl (by kernel_rfl) ?_
          refine xk_callR (f := 54) (fi := []) (ca := []) (by kernel_rfl) rfl rfl (by decide) (fun w3 st => contains_any Ac _ cc (natI (chainL s xc)) id w3 (hch.le (st.le (by simp))) (by simp [natI]) (by unfold chainL; omega)) ?_
          refine XA.bt ?_
          refine XA.done (by kernel_rfl) ?_
          refine XK.norm ?_
          refine XK.if_ rfl (fun h => ?_) (fun h => ?_)
          ·
            refine XK.seq ?_

            refine XK.region ?_
            refine xk_assign rfl (by decide) ?_
            refine XK.nilN ?_
            refine XK.ret ?_
            refine XK.norm ?_
            have ht : busyAt s wt k id i = true := by
              rw [hbat]; unfold hitB chainB; first | (simp_all; done) | (simp_all; omega)
            exact XK.ret1 rfl rfl fun w9 st => ⟨by rw [busyF_true hil ht], st.below (by simp)⟩
          ·
            refine XK.skip ?_
            refine XK.norm ?_

            refine XK.region ?_
            refine xk_add rfl rfl (wrap_in (by omega)) (by decide) ?_
            refine xk_move rfl (by decide) ?_
            refine XK.nilN ?_
            have hf2 : busyAt s wt k id i = false := by
              rw [hbat]; unfold hitB chainB; first | (simp_all; done) | (simp_all; omega)
            exact XK.weak [1, 2] rfl (by decide) (by simp) (XK.envS [(12, .int .i64 ((i : Int) + 1)), (11, .int .i64 s.devs.length), (10, .slice (some ⟨bV, oV, none⟩) s.devs.length k4), (5, .pointer (some ⟨g2, 0, none⟩)), (3, .pointer (some ⟨g1, 0, none⟩)), (1, .slice Aw nw cw)] (XK.round (s.devs.length - (i + 1)) (by omega) ⟨i + 1, by omega, rfl, hgo hf2, rfl, rfl, rfl⟩))
        ·
          refine XK.seq ?_

          refine XK.region ?_
          refine xk_eql rfl rfl (by decide) ?_
          refine xk_assign rfl (by decide) ?_
          refine XK.nilN ?_
          refine XK.if_ rfl (fun h => ?_) (fun h => ?_)
          ·
            refine XK.seq ?_

            refine XK.region ?_
            refine xk_field (off := 2) (by kernel_rfl) rfl (by decide) ?_
            refine xk_ld rfl ?_
            refine xk_field (off := 1) (by kernel_rfl) rfl (by decide) ?_
            refine xk_ld rfl ?_
            refine xk_eql rfl rfl (by decide) ?_
            refine XK.nilN ?_
            refine XK.if_ rfl (fun h => ?_) (fun h => ?_)
            ·
              refine XK.seq ?_

              refine XK.region ?_
              refine xk_assign rfl (by decide) ?_
              refine XK.nilN ?_
              refine XK.ret ?_
              refine XK.norm ?_
              have ht : busyAt s wt k id i = true := by
                rw [hbat]; unfold hitB chainB; first | (simp_all; done) | (simp_all; omega)
              exact XK.ret1 rfl rfl fun w9 st => ⟨by rw [busyF_true hil ht], st.below (by simp)⟩
            ·
              refine XK.skip ?_
              refine XK.norm ?_

              refine XK.region ?_
              refine xk_add rfl rfl (wrap_in (by omega)) (by decide) ?_
              refine xk_move rfl (by decide) ?_
              refine XK.nilN ?_
              have hf2 : busyAt s wt k id i = false := by
                rw [hbat]; unfold hitB chainB; first | (simp_all; done) | (simp_all; omega)
              exact XK.weak [1, 2] rfl (by decide) (by simp) (XK.envS [(12, .int .i64 ((i : Int) + 1)), (11, .int .i64 s.devs.length), (10, .slice (some ⟨bV, oV, none⟩) s.devs.length k4), (5, .pointer (some ⟨g2, 0, none⟩)), (3, .pointer (some ⟨g1, 0, none⟩)), (1, .slice Aw nw cw)] (XK.round (s.devs.length - (i + 1)) (by omega) ⟨i + 1, by omega, rfl, hgo hf2, rfl, rfl, rfl⟩))
          ·
            refine XK.skip ?_
            refine XK.norm ?_

            refine XK.region ?_
            refine xk_add rfl rfl (wrap_in (by omega)) (by decide) ?_
            refine xk_move rfl (by decide) ?_
            refine XK.nilN ?_
            have hf2 : busyAt s wt k id i = false := by
              rw [hbat]; unfold hitB chainB; first | (simp_all; done) | (simp_all; omega)
            exact XK.weak [1, 2] rfl (by decide) (by simp) (XK.envS [(12, .int .i64 ((i : Int) + 1)), (11, .int .i64 s.devs.length), (10, .slice (some ⟨bV, oV, none⟩) s.devs.length k4), (5, .pointer (some ⟨g2, 0, none⟩)), (3, .pointer (some ⟨g1, 0, none⟩)), (1, .slice Aw nw cw)] (XK.round (s.devs.length - (i + 1)) (by omega) ⟨i + 1, by omega, rfl, hgo hf2, rfl, rfl, rfl⟩))
  ·
    refine XK.exit ?_
    refine XK.norm ?_
    refine XK.seq ?_

    refine XK.region ?_
    refine xk_assign rfl (by decide) ?_
    refine XK.nilN ?_
    refine XK.ret ?_
    refine XK.norm ?_
    have hin : i = s.devs.length := by have h' : ¬ (i : Int) < (s.devs.length : Int) := h; omega
    subst hin
    exact XK.ret1 rfl rfl fun w9 st => ⟨by rw [busyF_false hno], st.below (by simp)⟩

/-- the state, as it lies in the call's own block -/
theorem StR.box {q : Piece} {x y : Wsh} {A1 A2 A3 B1 B2 B3 : Option Addr} {n1 k1 n2 k2 n3 k3 m1 l1 m2 l2 m3 l3 : Nat} {w : World} {g : Nat}
    (hx : StR q x y (.agg #[.slice A1 n1 k1, .slice A2 n2 k2, .slice A3 n3 k3, .slice B1 m1 l1, .slice B2 m2 l2, .slice B3 m3 l3])) (hq : q.Le (all w)) (hg : ROn w g 0 [.slice A1 n1 k1, .slice A2 n2 k2, .slice A3 n3 k3, .slice B1 m1 l1, .slice B2 m2 l2, .slice B3 m3 l3]) : StM w g x y := by
  obtain ⟨C1, j1, C2, j2, C3, j3, D1, i1, D2, i2, D3, i3, he, s1, s2, s3, s4, s5, s6⟩ := hx
  simp only [Value.agg.injEq, Array.mk.injEq, List.cons.injEq, Value.slice.injEq] at he
  obtain ⟨⟨rfl, rfl, rfl⟩, ⟨rfl, rfl, rfl⟩, ⟨rfl, rfl, rfl⟩, ⟨rfl, rfl, rfl⟩, ⟨rfl, rfl, rfl⟩, ⟨rfl, rfl, rfl⟩, _⟩ := he
  intro i hi
  rcases (by omega : i = 0 ∨ i = 1) with rfl | rfl
  · exact ⟨A1, k1, A2, k2, A3, k3, by simpa using hg.at_ (j := 0) rfl, by simpa using hg.at_ (j := 1) rfl, by simpa using hg.at_ (j := 2) rfl, s1.le hq, s2.le hq, s3.le hq⟩
  · exact ⟨B1, l1, B2, l2, B3, l3, by simpa using hg.at_ (j := 3) rfl, by simpa using hg.at_ (j := 4) rfl, by simpa using hg.at_ (j := 5) rfl, s4.le hq, s5.le hq, s6.le hq⟩

theorem denied_any (q qx : Piece) (s : Soc) (A1 A2 A3 A4 : Option Addr) (n1 k1 n2 k2 n3 k3 n4 k4 : Nat) (X1 X2 X3 Y1 Y2 Y3 : Option Addr) (xn1 xk1 xn2 xk2 xn3 xk3 yn1 yk1 yn2 yk2 yn3 yk3 : Nat) (x y : Wsh) (ag : Nat) (k id : Int) (w : World) (hSP : SocP q s A1 n1 A2 n2 A3 n3 A4 n4) (hm : s.okT) (hq : q.Le (all w)) (hSt : StR qx x y (.agg #[.slice X1 xn1 xk1, .slice X2 xn2 xk2, .slice X3 xn3 xk3, .slice Y1 yn1 yk1, .slice Y2 yn2 yk2, .slice Y3 yn3 yk3])) (hqx : qx.Le (all w)) (hag : ag < 2) :
    Calls Try.prog 19 #[.agg #[.slice A1 n1 k1, .slice A2 n2 k2, .slice A3 n3 k3, .slice A4 n4 k4], .agg #[.slice X1 xn1 xk1, .slice X2 xn2 xk2, .slice X3 xn3 xk3, .slice Y1 yn1 yk1, .slice Y2 yn2 yk2, .slice Y3 yn3 yk3], .int .i64 (ag : Int), .agg #[.int .u8 k, .int .i64 id]] w (Rt (.bool (deniedF s x y ag k id)) w) := by
  refine XK.enter (vs := [.agg #[.slice A1 n1 k1, .slice A2 n2 k2, .slice A3 n3 k3, .slice A4 n4 k4], .agg #[.slice X1 xn1 xk1, .slice X2 xn2 xk2, .slice X3 xn3 xk3, .slice Y1 yn1 yk1, .slice Y2 yn2 yk2, .slice Y3 yn3 yk3], .int .i64 (ag : Int), .agg #[.int .u8 k, .int .i64 id]]) Try.func19 rfl Try.ntmps19 (by simp) ?_
  refine XK.seq ?_
  refine XK.piece qx (by simp) hqx ?_
  refine XK.piece q (by simp) hq ?_
  obtain ⟨rfl, rfl, rfl, rfl⟩ := hSP.len
  have hnc := hm.nc
  have hnd := hm.nd

  refine XK.region ?_
  refine xk_box rfl (by decide) fun g1 => ?_
  refine xk_box rfl (by decide) fun g2 => ?_
  refine xk_box rfl (by decide) fun g3 => ?_
  refine xk_assign rfl (by decide) ?_
  refine XK.nilN ?_
  refine XK.seq ?_
  refine XK.seq ?_

  refine XK.region ?_
  refine xk_move rfl (by decide) ?_
  refine XK.nilN ?_
  refine XK.envS [(13, .int .i64 0), (7, .pointer (some ⟨g3, 0, none⟩)), (5, .pointer (some ⟨g2, 0, none⟩)), (4, .pointer (some ⟨g1, 0, none⟩)), (2, .int .i64 (ag : Int))] ?_
  refine XK.block ?_
  refine XK.loop (fun m e R H => ∃ (i : Nat), i ≤ 2 ∧ m = 2 - i ∧ (∀ j : Nat, j < i → ¬ (j : Int) = ag → wishF (if j = 0 then x else y) k id = false) ∧ e = [(13, .int .i64 i), (7, .pointer (some ⟨g3, 0, none⟩)), (5, .pointer (some ⟨g2, 0, none⟩)), (4, .pointer (some ⟨g1, 0, none⟩)), (2, .int .i64 (ag : Int))] ∧ R = [q, qx, all w] ∧ H = [HP.blk g3 43 [.int .u8 k, .int .i64 id], HP.blk g2 37 [.slice X1 xn1 xk1, .slice X2 xn2 xk2, .slice X3 xn3 xk3, .slice Y1 yn1 yk1, .slice Y2 yn2 yk2, .slice Y3 yn3 yk3], HP.blk g1 30 [.slice A1 s.clocks.length k1, .slice A2 s.domains.length k2, .slice A3 s.resets.length k3, .slice A4 s.devs.length k4]]) 2 ⟨0, by omega, rfl, (fun j hj => absurd hj (Nat.not_lt_zero j)), rfl, rfl, rfl⟩ fun m e R H hI => ?_
  obtain ⟨i, hi, rfl, hno, rfl, rfl, rfl⟩ := hI
  refine XK.seq ?_

  refine XK.region ?_
  refine xk_lss rfl rfl (by decide) ?_
  refine XK.nilN ?_
  refine XK.seq ?_
  refine XK.if_ rfl (fun h => ?_) (fun h => ?_)
  ·
    refine XK.skip ?_
    refine XK.norm ?_
    refine XK.seq ?_
    refine XK.block ?_
    refine XK.seq ?_
    have hi2 : i < 2 := by have h' : (i : Int) < 2 := h; omega

    refine XK.region ?_
    refine xk_move rfl (by decide) ?_
    refine xk_assign rfl (by decide) ?_
    refine XK.nilN ?_
    refine XK.cutB 26 (¬ (i : Int) = ag ∧ wishF (if i = 0 then x else y) k id = true) ?_ ?_
    · skip

      refine XK.region ?_
      refine xk_move rfl (by decide) ?_
      refine xk_move rfl (by decide) ?_
      refine xk_neq rfl rfl (by decide) ?_
      refine xk_move rfl (by decide) ?_
      (first | refine xk_split (t := 19) rfl (fun hg => ?_) (fun hg => ?_) | refine xk_splitB (t := 19) rfl (fun hg => ?_) (fun hg => ?_))
      ·
        refine xk_guardT rfl rfl ?_; refine xk_move rfl (by decide) ?_
        refine xk_guardT rfl rfl ?_; refine xk_field (off := 0) (by kernel_rfl) rfl (by decide) ?_
        refine xk_guardT rfl rfl ?_; refine xk_ld rfl ?_
        refine xk_guardT rfl rfl ?_; refine xk_field (off := 1) (by kernel_rfl) rfl (by decide) ?_
        refine xk_guardT rfl rfl ?_; refine xk_ld rfl ?_
        refine xk_guardT rfl rfl ?_; refine xk_callR (f := 16) (fi := []) (ca := []) (by kernel_rfl) rfl rfl (by decide) (fun w1 st => wishes_any g2 i (if i = 0 then x else y) k id w1 hi2 (StR.box hSt (st.le (by simp)) (st.box (i := 1) rfl) i hi2)) ?_
        (first | refine xk_pickT rfl rfl (by decide) ?_ | refine xk_pickF rfl rfl (by decide) ?_)
        refine XK.nilN ?_
        exact XK.meetB (by repeat (first | exact trivial | refine ⟨rfl, ?_⟩)) (by first | (refine get_iff rfl ?_; omega) | (refine get_iff rfl ?_; simp_all; done) | (refine get_false rfl ?_; first | omega | (simp_all; done)) | (refine get_true rfl ?_; first | omega | (simp_all; done)) | (refine get_bool rfl ?_; simp_all; done) | (refine get_iff rfl ⟨fun hh => ?_, fun hh => ?_⟩ <;> first | omega | (simp_all; done) | (simp_all; omega)) | (exfalso; omega))
      ·
        refine xk_guardF rfl rfl rfl (by decide) ?_
        refine xk_guardF rfl rfl rfl (by decide) ?_
        refine xk_guardF rfl rfl rfl (by decide) ?_
        refine xk_guardF rfl rfl rfl (by decide) ?_
        refine xk_guardF rfl rfl rfl (by decide) ?_
        refine xk_guardF rfl rfl rfl (by decide) ?_
        (first | refine xk_pickT rfl rfl (by decide) ?_ | refine xk_pickF rfl rfl (by decide) ?_)
        refine XK.nilN ?_
        exact XK.meetB (by repeat (first | exact trivial | refine ⟨rfl, ?_⟩)) (by first | (refine get_iff rfl ?_; omega) | (refine get_iff rfl ?_; simp_all; done) | (refine get_false rfl ?_; first | omega | (simp_all; done)) | (refine get_true rfl ?_; first | omega | (simp_all; done)) | (refine get_bool rfl ?_; simp_all; done) | (refine get_iff rfl ⟨fun hh => ?_, fun hh => ?_⟩ <;> first | omega | (simp_all; done) | (simp_all; omega)) | (exfalso; omega))
    refine XK.if_ rfl (fun h4 => ?_) (fun h4 => ?_)
    ·
      refine XK.seq ?_

      refine XK.region ?_
      refine xk_assign rfl (by decide) ?_
      refine XK.nilN ?_
      refine XK.ret ?_
      refine XK.norm ?_
      have hoth : wishF (if ag = 0 then y else x) k id = true := by
        have h5 := h4.2
        rcases (by omega : ag = 0 ∨ ag = 1) with rfl | rfl <;> rcases (by omega : i = 0 ∨ i = 1) with rfl | rfl <;> simp_all
      exact XK.ret1 rfl rfl fun w9 st => ⟨by rw [deniedF, hoth]; rfl, st.below (by simp)⟩
    ·
      refine XK.skip ?_
      refine XK.norm ?_

      refine XK.region ?_
      refine xk_add rfl rfl (wrap_in (by omega)) (by decide) ?_
      refine xk_move rfl (by decide) ?_
      refine XK.nilN ?_
      have hgo : ∀ j : Nat, j < i + 1 → ¬ (j : Int) = ag → wishF (if j = 0 then x else y) k id = false := fun j hj hja => by
        rcases Nat.lt_or_ge j i with h1 | h1
        · exact hno j h1 hja
        · have hji : j = i := by omega
          subst hji
          cases hb : wishF (if j = 0 then x else y) k id with
          | false => rfl
          | true => exact absurd ⟨hja, hb⟩ h4
      exact XK.envS [(13, .int .i64 ((i : Int) + 1)), (7, .pointer (some ⟨g3, 0, none⟩)), (5, .pointer (some ⟨g2, 0, none⟩)), (4, .pointer (some ⟨g1, 0, none⟩)), (2, .int .i64 (ag : Int))] (XK.round (2 - (i + 1)) (by omega) ⟨i + 1, by omega, rfl, hgo, rfl, rfl, rfl⟩)
  ·
    refine XK.exit ?_
    refine XK.norm ?_
    refine XK.seq ?_
    refine XK.seq ?_
    have hoth : wishF (if ag = 0 then y else x) k id = false := by
      have hi2 : i = 2 := by have h' : ¬ (i : Int) < 2 := h; omega
      subst hi2
      rcases (by omega : ag = 0 ∨ ag = 1) with rfl | rfl
      · exact hno 1 (by omega) (by decide)
      · exact hno 0 (by omega) (by decide)
    have hden : deniedF s x y ag k id = hangF s x y k id := by rw [deniedF, hoth, Bool.false_or]
    clear hno hoth

    refine XK.region ?_
    refine xk_field (off := 0) (by kernel_rfl) rfl (by decide) ?_
    refine xk_ld rfl ?_
    refine XK.nilN ?_
    refine XK.block ?_
    refine XK.cutB 30 (k = 100 ∨ k = 107) ?_ ?_
    · skip
      refine XK.seq ?_

      refine XK.region ?_
      refine xk_eql rfl rfl (by decide) ?_
      refine xk_assign rfl (by decide) ?_
      refine XK.nilN ?_
      refine XK.if_ rfl (fun h => ?_) (fun h => ?_)
      ·
        refine XK.skip ?_
        refine XK.norm ?_
        exact XK.meetB (by repeat (first | exact trivial | refine ⟨rfl, ?_⟩)) (by first | (refine get_iff rfl ?_; omega) | (refine get_iff rfl ?_; simp_all; done) | (refine get_false rfl ?_; first | omega | (simp_all; done)) | (refine get_true rfl ?_; first | omega | (simp_all; done)) | (refine get_bool rfl ?_; simp_all; done) | (refine get_iff rfl ⟨fun hh => ?_, fun hh => ?_⟩ <;> first | omega | (simp_all; done) | (simp_all; omega)) | (exfalso; omega))
      ·

        refine XK.region ?_
        refine xk_eql rfl rfl (by decide) ?_
        refine xk_assign rfl (by decide) ?_
        refine XK.nilN ?_
        exact XK.meetB (by repeat (first | exact trivial | refine ⟨rfl, ?_⟩)) (by first | (refine get_iff rfl ?_; omega) | (refine get_iff rfl ?_; simp_all; done) | (refine get_false rfl ?_; first | omega | (simp_all; done)) | (refine get_true rfl ?_; first | omega | (simp_all; done)) | (refine get_bool rfl ?_; simp_all; done) | (refine get_iff rfl ⟨fun hh => ?_, fun hh => ?_⟩ <;> first | omega | (simp_all; done) | (simp_all; omega)) | (exfalso; omega))
    refine XK.if_ rfl (fun h => ?_) (fun h => ?_)
    ·
      refine XK.seq ?_
      have hk8 : k = 100 ∨ k = 107 := by first | assumption | simp_all
      have hhn : hangN s k = s.domains.length := by rw [hangN, if_pos hk8]

      refine XK.region ?_
      refine xk_field (off := 1) (by kernel_rfl) rfl (by decide) ?_
      refine xk_ld rfl ?_
      refine xk_len (el := 57) (by kernel_rfl) rfl (by decide) ?_
      refine xk_move rfl (by decide) ?_
      refine XK.nilN ?_
      refine XK.envS [(36, .int .i64 0), (35, .int .i64 s.domains.length), (34, .slice A2 s.domains.length k2), (7, .pointer (some ⟨g3, 0, none⟩)), (5, .pointer (some ⟨g2, 0, none⟩)), (4, .pointer (some ⟨g1, 0, none⟩)), (2, .int .i64 (ag : Int))] ?_
      refine XK.block ?_
      refine XK.loop (fun m e R H => ∃ (i : Nat), i ≤ s.domains.length ∧ m = s.domains.length - i ∧ (∀ j, j < i → hangAt s x y k id j = false) ∧ e = [(36, .int .i64 i), (35, .int .i64 s.domains.length), (34, .slice A2 s.domains.length k2), (7, .pointer (some ⟨g3, 0, none⟩)), (5, .pointer (some ⟨g2, 0, none⟩)), (4, .pointer (some ⟨g1, 0, none⟩)), (2, .int .i64 (ag : Int))] ∧ R = [q, qx, all w] ∧ H = [HP.blk g3 43 [.int .u8 k, .int .i64 id], HP.blk g2 37 [.slice X1 xn1 xk1, .slice X2 xn2 xk2, .slice X3 xn3 xk3, .slice Y1 yn1 yk1, .slice Y2 yn2 yk2, .slice Y3 yn3 yk3], HP.blk g1 30 [.slice A1 s.clocks.length k1, .slice A2 s.domains.length k2, .slice A3 s.resets.length k3, .slice A4 s.devs.length k4]]) s.domains.length ⟨0, by omega, rfl, (fun j hj => absurd hj (Nat.not_lt_zero j)), rfl, rfl, rfl⟩ fun m e R H hI => ?_
      obtain ⟨i, hi, rfl, hno, rfl, rfl, rfl⟩ := hI
      refine XK.seq ?_

      refine XK.region ?_
      refine xk_lss rfl rfl (by decide) ?_
      refine XK.nilN ?_
      refine XK.seq ?_
      refine XK.if_ rfl (fun h => ?_) (fun h => ?_)
      ·
        refine XK.skip ?_
        refine XK.norm ?_
        refine XK.seq ?_
        refine XK.block ?_
        refine XK.seq ?_
        have hil : i < s.domains.length := by have h' : (i : Int) < (s.domains.length : Int) := h; omega
        obtain ⟨d, hd⟩ : ∃ d, s.domains[i]? = some d := ⟨_, List.getElem?_eq_getElem hil⟩
        obtain ⟨bD, oD, rD, rfl, hzD, _, rfl, hcD⟩ := hSP.dom.rowP hd
        have hgo : hangAt s x y k id i = false → ∀ j, j < i + 1 → hangAt s x y k id j = false := fun h j hj => by
          rcases Nat.lt_or_ge j i with h1 | h1
          · exact hno j h1
          · have hji : j = i := by omega
            subst hji; exact h
        have hat : hangAt s x y k id i = (decide (d.above = id) && wishedF x y k i) := by rw [hangAt, if_pos hk8, hd]; rfl

        refine XK.region ?_
        refine xk_move rfl (by decide) ?_
        refine xk_at (i) (oD + i * 3) (el := 57) (sz := 3) (by kernel_rfl) (by kernel_rfl) rfl rfl (by omega) (by omega) (by omega) (by decide) ?_
        refine xk_loadN 3 (by kernel_rfl) rfl (RdN.of (vs := [.int .i64 d.above, .int .i64 d.delay, .bool d.ret]) fun f v hf => Rd.ro (p := q) (by simp) hzD (hcD f v hf)) rfl (by decide) ?_
        refine xk_alloc (cs := [.int .i64 0, .int .i64 0, .bool false]) (zeroB_of (by kernel_rfl)) (by decide) fun g4 => ?_
        refine xk_assign rfl (by decide) ?_
        (first | (refine xk_storeN 0 rfl rfl rfl (by kernel_rfl) (by simp [Value.cells, Value.oneCell']) (by simp [Value.cells]) ?_) | (refine xk_storeN 1 rfl rfl rfl (by kernel_rfl) (by simp [Value.cells, Value.oneCell']) (by simp [Value.cells]) ?_) | (refine xk_storeN 2 rfl rfl rfl (by kernel_rfl) (by simp [Value.cells, Value.oneCell']) (by simp [Value.cells]) ?_) | (refine xk_storeN 3 rfl rfl rfl (by kernel_rfl) (by simp [Value.cells, Value.oneCell']) (by simp [Value.cells]) ?_) | (refine xk_storeN 4 rfl rfl rfl (by kernel_rfl) (by simp [Value.cells, Value.oneCell']) (by simp [Value.cells]) ?_) | (refine xk_storeN 5 rfl rfl rfl (by kernel_rfl) (by simp [Value.cells, Value.oneCell']) (by simp [Value.cells]) ?_) | (refine xk_storeN 6 rfl rfl rfl (by kernel_rfl) (by simp [Value.cells, Value.oneCell']) (by simp [Value.cells]) ?_) | (refine xk_storeN 7 rfl rfl rfl (by kernel_rfl) (by simp [Value.cells, Value.oneCell']) (by simp [Value.cells]) ?_) | (refine xk_storeN 8 rfl rfl rfl (by kernel_rfl) (by simp [Value.cells, Value.oneCell']) (by simp [Value.cells]) ?_)); simp only [putN, Value.cells, List.set, List.take, List.drop, List.nil_append, List.append_nil, List.length_cons, List.length_nil, List.cons_append, Nat.reduceAdd]
        refine XK.nilN ?_
        refine XK.cutB 51 (d.above = id ∧ wishedF x y k i = true) ?_ ?_
        · skip

          refine XK.region ?_
          refine xk_field (off := 0) (by kernel_rfl) rfl (by decide) ?_
          refine xk_ld rfl ?_
          refine xk_field (off := 1) (by kernel_rfl) rfl (by decide) ?_
          refine xk_ld rfl ?_
          refine xk_eql rfl rfl (by decide) ?_
          refine xk_move rfl (by decide) ?_
          (first | refine xk_split (t := 46) rfl (fun hg => ?_) (fun hg => ?_) | refine xk_splitB (t := 46) rfl (fun hg => ?_) (fun hg => ?_))
          ·
            refine xk_guardT rfl rfl ?_; refine xk_field (off := 0) (by kernel_rfl) rfl (by decide) ?_
            refine xk_guardT rfl rfl ?_; refine xk_ld rfl ?_
            refine xk_guardT rfl rfl ?_; refine xk_move rfl (by decide) ?_
            refine xk_guardT rfl rfl ?_; refine xk_callR (f := 18) (fi := []) (ca := []) (by kernel_rfl) rfl rfl (by decide) (fun w1 st => wished_any g2 x y k i w1 (StR.box hSt (st.le (by simp)) (st.box (i := 2) rfl))) ?_
            (first | refine xk_pickT rfl rfl (by decide) ?_ | refine xk_pickF rfl rfl (by decide) ?_)
            refine XK.nilN ?_
            exact XK.meetB (by repeat (first | exact trivial | refine ⟨rfl, ?_⟩)) (by first | (refine get_iff rfl ?_; omega) | (refine get_iff rfl ?_; simp_all; done) | (refine get_false rfl ?_; first | omega | (simp_all; done)) | (refine get_true rfl ?_; first | omega | (simp_all; done)) | (refine get_bool rfl ?_; simp_all; done) | (refine get_iff rfl ⟨fun hh => ?_, fun hh => ?_⟩ <;> first | omega | (simp_all; done) | (simp_all; omega)) | (exfalso; omega))
          ·
            refine xk_guardF rfl rfl rfl (by decide) ?_
            refine xk_guardF rfl rfl rfl (by decide) ?_
            refine xk_guardF rfl rfl rfl (by decide) ?_
            refine xk_guardF rfl rfl rfl (by decide) ?_
            (first | refine xk_pickT rfl rfl (by decide) ?_ | refine xk_pickF rfl rfl (by decide) ?_)
            refine XK.nilN ?_
            exact XK.meetB (by repeat (first | exact trivial | refine ⟨rfl, ?_⟩)) (by first | (refine get_iff rfl ?_; omega) | (refine get_iff rfl ?_; simp_all; done) | (refine get_false rfl ?_; first | omega | (simp_all; done)) | (refine get_true rfl ?_; first | omega | (simp_all; done)) | (refine get_bool rfl ?_; simp_all; done) | (refine get_iff rfl ⟨fun hh => ?_, fun hh => ?_⟩ <;> first | omega | (simp_all; done) | (simp_all; omega)) | (exfalso; omega))
        refine XK.if_ rfl (fun h4 => ?_) (fun h4 => ?_)
        ·
          refine XK.seq ?_

          refine XK.region ?_
          refine xk_assign rfl (by decide) ?_
          refine XK.nilN ?_
          refine XK.ret ?_
          refine XK.norm ?_
          have ht : hangAt s x y k id i = true := by rw [hat]; simp [h4.1, h4.2]
          exact XK.ret1 rfl rfl fun w9 st => ⟨by rw [hden, hangF_true (by rw [hhn]; exact hil) ht], st.below (by simp)⟩
        ·
          refine XK.skip ?_
          refine XK.norm ?_

          refine XK.region ?_
          refine xk_add rfl rfl (wrap_in (by omega)) (by decide) ?_
          refine xk_move rfl (by decide) ?_
          refine XK.nilN ?_
          have hf2 : hangAt s x y k id i = false := by
            rw [hat]
            by_cases h5 : d.above = id
            · have h6 : wishedF x y k i = false := by cases hb : wishedF x y k i with
                | false => rfl
                | true => exact absurd ⟨h5, hb⟩ h4
              rw [h6, Bool.and_false]
            · simp [h5]
          exact XK.weak [1, 2, 3] rfl (by decide) (by simp) (XK.envS [(36, .int .i64 ((i : Int) + 1)), (35, .int .i64 s.domains.length), (34, .slice (some ⟨bD, oD, none⟩) s.domains.length k2), (7, .pointer (some ⟨g3, 0, none⟩)), (5, .pointer (some ⟨g2, 0, none⟩)), (4, .pointer (some ⟨g1, 0, none⟩)), (2, .int .i64 (ag : Int))] (XK.round (s.domains.length - (i + 1)) (by omega) ⟨i + 1, by omega, rfl, hgo hf2, rfl, rfl, rfl⟩))
      ·
        refine XK.exit ?_
        refine XK.norm ?_
        refine XK.seq ?_

        refine XK.region ?_
        refine xk_assign rfl (by decide) ?_
        refine XK.nilN ?_
        refine XK.ret ?_
        refine XK.norm ?_
        have hin : i = s.domains.length := by have h' : ¬ (i : Int) < (s.domains.length : Int) := h; omega
        subst hin
        exact XK.ret1 rfl rfl fun w9 st => ⟨by rw [hden, hangF_false (by rw [hhn]; exact hno)], st.below (by simp)⟩
    ·
      refine XK.seq ?_

      refine XK.region ?_
      refine xk_eql rfl rfl (by decide) ?_
      refine xk_assign rfl (by decide) ?_
      refine XK.nilN ?_
      refine XK.if_ rfl (fun hk16 => ?_) (fun hk16 => ?_)
      ·
        refine XK.seq ?_
        have hk8 : ¬ (k = 100 ∨ k = 107) := by first | assumption | simp_all
        have hhn : hangN s k = s.clocks.length := by rw [hangN, if_neg hk8, if_pos hk16]

        refine XK.region ?_
        refine xk_field (off := 0) (by kernel_rfl) rfl (by decide) ?_
        refine xk_ld rfl ?_
        refine xk_len (el := 60) (by kernel_rfl) rfl (by decide) ?_
        refine xk_move rfl (by decide) ?_
        refine XK.nilN ?_
        refine XK.envS [(58, .int .i64 0), (57, .int .i64 s.clocks.length), (7, .pointer (some ⟨g3, 0, none⟩)), (5, .pointer (some ⟨g2, 0, none⟩)), (4, .pointer (some ⟨g1, 0, none⟩)), (2, .int .i64 (ag : Int))] ?_
        refine XK.block ?_
        refine XK.loop (fun m e R H => ∃ (i : Nat), i ≤ s.clocks.length ∧ m = s.clocks.length - i ∧ (∀ j, j < i → hangAt s x y k id j = false) ∧ e = [(58, .int .i64 i), (57, .int .i64 s.clocks.length), (7, .pointer (some ⟨g3, 0, none⟩)), (5, .pointer (some ⟨g2, 0, none⟩)), (4, .pointer (some ⟨g1, 0, none⟩)), (2, .int .i64 (ag : Int))] ∧ R = [q, qx, all w] ∧ H = [HP.blk g3 43 [.int .u8 k, .int .i64 id], HP.blk g2 37 [.slice X1 xn1 xk1, .slice X2 xn2 xk2, .slice X3 xn3 xk3, .slice Y1 yn1 yk1, .slice Y2 yn2 yk2, .slice Y3 yn3 yk3], HP.blk g1 30 [.slice A1 s.clocks.length k1, .slice A2 s.domains.length k2, .slice A3 s.resets.length k3, .slice A4 s.devs.length k4]]) s.clocks.length ⟨0, by omega, rfl, (fun j hj => absurd hj (Nat.not_lt_zero j)), rfl, rfl, rfl⟩ fun m e R H hI => ?_
        obtain ⟨i, hi, rfl, hno, rfl, rfl, rfl⟩ := hI
        refine XK.seq ?_

        refine XK.region ?_
        refine xk_lss rfl rfl (by decide) ?_
        refine XK.nilN ?_
        refine XK.seq ?_
        refine XK.if_ rfl (fun h => ?_) (fun h => ?_)
        ·
          refine XK.skip ?_
          refine XK.norm ?_
          refine XK.seq ?_
          refine XK.block ?_
          refine XK.seq ?_
          have hil : i < s.clocks.length := by have h' : (i : Int) < (s.clocks.length : Int) := h; omega
          have hgo : hangAt s x y k id i = false → ∀ j, j < i + 1 → hangAt s x y k id j = false := fun h j hj => by
            rcases Nat.lt_or_ge j i with h1 | h1
            · exact hno j h1
            · have hji : j = i := by omega
              subst hji; exact h
          have hat : hangAt s x y k id i = (decide ((i : Int) ≠ id) && (wishedF x y k i && decide (id ∈ natI (chainL s i)))) := by rw [hangAt, if_neg hk8, chainB, Int.toNat_natCast]

          refine XK.region ?_
          refine xk_move rfl (by decide) ?_
          refine xk_assign rfl (by decide) ?_
          refine XK.nilN ?_
          refine XK.seq ?_

          refine XK.draw 16 (by kernel_rfl) (by kernel_rfl) ?_
          refine XA.dA 0 rfl rfl rfl (does_move rfl) ?_
          refine XA.dA 1 rfl rfl rfl (does_field (off := 1) (by kernel_rfl) rfl) ?_
          refine XA.dA 2 rfl rfl rfl (does_ld rfl) ?_
          refine XA.dA 3 rfl rfl rfl (does_neq rfl rfl) ?_
          refine XA.dA 4 rfl rfl rfl (does_move rfl) ?_
          (first | refine XA.split (t := 65) rfl (fun hg => ?_) (fun hg => ?_) | refine XA.splitB (t := 65) rfl (fun hg => ?_) (fun hg => ?_))
          ·
            refine XA.dT 5 rfl rfl rfl (does_field (off := 0) (by kernel_rfl) rfl) ?_
            refine XA.dT 6 rfl rfl rfl (does_ld rfl) ?_
            refine XA.dT 7 rfl rfl rfl (does_move rfl) ?_
            refine XA.next 8 rfl (by kernel_rfl) ?_
            refine xk_guardT rfl rfl ?_; refine xk_callR (f := 18) (fi := []) (ca := []) (by kernel_rfl) rfl rfl (by decide) (fun w1 st => wished_any g2 x y k i w1 (StR.box hSt (st.le (by simp)) (st.box (i := 1) rfl))) ?_
            refine XA.bk ?_
            refine XA.dA 9 rfl rfl rfl (by first | exact does_pickT rfl rfl | exact does_pickF rfl rfl) ?_
            refine XA.dA 10 rfl rfl rfl (does_move rfl) ?_
            (first | refine XA.split (t := 71) rfl (fun hg => ?_) (fun hg => ?_) | refine XA.splitB (t := 71) rfl (fun hg => ?_) (fun hg => ?_))
            ·
              refine XA.dT 11 rfl rfl rfl (does_ldN 4 rfl) ?_
              refine XA.dT 12 rfl rfl rfl (does_move rfl) ?_
              refine XA.dT 14 rfl rfl rfl (does_field (off := 1) (by kernel_rfl) rfl) ?_
              refine XA.dT 15 rfl rfl rfl (does_ld rfl) ?_
              refine XA.next 13 rfl (by kernel_rfl) ?_
              refine xk_guardT rfl rfl ?_; refine xk_call [q] (f := 55) (fi := []) (ca := []) (by kernel_rfl) rfl rfl (by decide) (by simp) (IntsOk (chainL s i)) (fun w2 st => chain_any q s _ _ _ _ _ k1 _ k2 _ k3 _ k4 i w2 hSP hm (st.le (by simp)) (by omega)) ?_
              rintro _ w2 q1 ⟨Ac, cc, rfl, hch⟩ hf hle _
              have hch := hch.le hf
              have hclen := chainN_len s s.clocks.length i
              refine XA.bk ?_
              refine XA.next 16 rfl (by kernel_rfl) ?_
              refine xk_guardT rfl rfl ?_; refine xk_callR (f := 54) (fi := []) (ca := []) (by kernel_rfl) rfl rfl (by decide) (fun w3 st => contains_any Ac _ cc (natI (chainL s i)) id w3 (hch.le (st.le (by simp))) (by simp [natI]) (by unfold chainL; omega)) ?_
              refine XA.bt ?_
              refine XA.next 17 rfl (by kernel_rfl) ?_
              (first | refine xk_pickT rfl rfl (by decide) ?_ | refine xk_pickF rfl rfl (by decide) ?_)
              refine XA.bt ?_
              refine XA.done (by kernel_rfl) ?_
              refine XK.norm ?_
              refine XK.if_ rfl (fun h => ?_) (fun h => ?_)
              ·
                refine XK.seq ?_

                refine XK.region ?_
                refine xk_assign rfl (by decide) ?_
                refine XK.nilN ?_
                refine XK.ret ?_
                refine XK.norm ?_
                have ht : hangAt s x y k id i = true := by
                  rw [hat]; first | (simp_all; done) | (simp_all; omega)
                exact XK.ret1 rfl rfl fun w9 st => ⟨by rw [hden, hangF_true (by rw [hhn]; exact hil) ht], st.below (by simp)⟩
              ·
                refine XK.skip ?_
                refine XK.norm ?_

                refine XK.region ?_
                refine xk_add rfl rfl (wrap_in (by omega)) (by decide) ?_
                refine xk_move rfl (by decide) ?_
                refine XK.nilN ?_
                have hf2 : hangAt s x y k id i = false := by
                  rw [hat]; first | (simp_all; done) | (simp_all; omega)
                refine XK.weakR (R' := [q, qx, all w]) (by simp) ?_
                exact XK.envS [(58, .int .i64 ((i : Int) + 1)), (57, .int .i64 s.clocks.length), (7, .pointer (some ⟨g3, 0, none⟩)), (5, .pointer (some ⟨g2, 0, none⟩)), (4, .pointer (some ⟨g1, 0, none⟩)), (2, .int .i64 (ag : Int))] (XK.round (s.clocks.length - (i + 1)) (by omega) ⟨i + 1, by omega, rfl, hgo hf2, rfl, rfl, rfl⟩)
            ·
              refine XA.dF 11 rfl rfl rfl rfl ?_
              refine XA.dF 12 rfl rfl rfl rfl ?_
              refine XA.dF 13 rfl rfl rfl rfl ?_
              refine XA.dF 14 rfl rfl rfl rfl ?_
              refine XA.dF 15 rfl rfl rfl rfl ?_
              refine XA.next 16 rfl (by kernel_rfl) ?_
              refine xk_guardF rfl rfl rfl (by decide) ?_
              refine XA.bt ?_
              refine XA.next 17 rfl (by kernel_rfl) ?_
              (first | refine xk_pickT rfl rfl (by decide) ?_ | refine xk_pickF rfl rfl (by decide) ?_)
              refine XA.bt ?_
              refine XA.done (by kernel_rfl) ?_
              refine XK.norm ?_
              refine XK.cond rfl (fun h => by cases h) (fun _ => ?_)
              refine XK.skip ?_
              refine XK.norm ?_

              refine XK.region ?_
              refine xk_add rfl rfl (wrap_in (by omega)) (by decide) ?_
              refine xk_move rfl (by decide) ?_
              refine XK.nilN ?_
              have hf2 : hangAt s x y k id i = false := by
                rw [hat]; first | (simp_all; done) | (simp_all; omega)
              refine XK.weakR (R' := [q, qx, all w]) (by simp) ?_
              exact XK.envS [(58, .int .i64 ((i : Int) + 1)), (57, .int .i64 s.clocks.length), (7, .pointer (some ⟨g3, 0, none⟩)), (5, .pointer (some ⟨g2, 0, none⟩)), (4, .pointer (some ⟨g1, 0, none⟩)), (2, .int .i64 (ag : Int))] (XK.round (s.clocks.length - (i + 1)) (by omega) ⟨i + 1, by omega, rfl, hgo hf2, rfl, rfl, rfl⟩)
          ·
            refine XA.dF 5 rfl rfl rfl rfl ?_
            refine XA.dF 6 rfl rfl rfl rfl ?_
            refine XA.dF 7 rfl rfl rfl rfl ?_
            refine XA.dF 8 rfl rfl rfl rfl ?_
            refine XA.dA 9 rfl rfl rfl (by first | exact does_pickT rfl rfl | exact does_pickF rfl rfl) ?_
            refine XA.dA 10 rfl rfl rfl (does_move rfl) ?_
            refine XA.dF 11 rfl rfl rfl rfl ?_
            refine XA.dF 12 rfl rfl rfl rfl ?_
            refine XA.dF 13 rfl rfl rfl rfl ?_
            refine XA.dF 14 rfl rfl rfl rfl ?_
            refine XA.dF 15 rfl rfl rfl rfl ?_
            refine XA.next 16 rfl (by kernel_rfl) ?_
            refine xk_guardF rfl rfl rfl (by decide) ?_
            refine XA.bt ?_
            refine XA.next 17 rfl (by kernel_rfl) ?_
            (first | refine xk_pickT rfl rfl (by decide) ?_ | refine xk_pickF rfl rfl (by decide) ?_)
            refine XA.bt ?_
            refine XA.done (by kernel_rfl) ?_
            refine XK.norm ?_
            refine XK.cond rfl (fun h => by cases h) (fun _ => ?_)
            refine XK.skip ?_
            refine XK.norm ?_

            refine XK.region ?_
            refine xk_add rfl rfl (wrap_in (by omega)) (by decide) ?_
            refine xk_move rfl (by decide) ?_
            refine XK.nilN ?_
            have hf2 : hangAt s x y k id i = false := by
              rw [hat]; first | (simp_all; done) | (simp_all; omega)
            refine XK.weakR (R' := [q, qx, all w]) (by simp) ?_
            exact XK.envS [(58, .int .i64 ((i : Int) + 1)), (57, .int .i64 s.clocks.length), (7, .pointer (some ⟨g3, 0, none⟩)), (5, .pointer (some ⟨g2, 0, none⟩)), (4, .pointer (some ⟨g1, 0, none⟩)), (2, .int .i64 (ag : Int))] (XK.round (s.clocks.length - (i + 1)) (by omega) ⟨i + 1, by omega, rfl, hgo hf2, rfl, rfl, rfl⟩)
        ·
          refine XK.exit ?_
          refine XK.norm ?_
          refine XK.seq ?_

          refine XK.region ?_
          refine xk_assign rfl (by decide) ?_
          refine XK.nilN ?_
          refine XK.ret ?_
          refine XK.norm ?_
          have hin : i = s.clocks.length := by have h' : ¬ (i : Int) < (s.clocks.length : Int) := h; omega
          subst hin
          exact XK.ret1 rfl rfl fun w9 st => ⟨by rw [hden, hangF_false (by rw [hhn]; exact hno)], st.below (by simp)⟩
      ·
        refine XK.skip ?_
        refine XK.norm ?_
        refine XK.seq ?_

        refine XK.region ?_
        refine xk_assign rfl (by decide) ?_
        refine XK.nilN ?_
        refine XK.ret ?_
        refine XK.norm ?_
        have hk8 : ¬ (k = 100 ∨ k = 107) := by first | assumption | simp_all
        have hhn : hangN s k = 0 := by rw [hangN, if_neg hk8, if_neg hk16]
        exact XK.ret1 rfl rfl fun w9 st => ⟨by rw [hden, hangF_false (by rw [hhn]; exact fun j hj => absurd hj (Nat.not_lt_zero j))], st.below (by simp)⟩

end Go.Proofs.Ytbcfbafpeidifaa
/- package table: which status a message has, and what is to be done. -/
namespace Go.Proofs.Ytbcfbafpeidifaa
set_option linter.all false
open Go.RowKit

theorem decide_any (q qx : Piece) (s : Soc) (A1 A2 A3 A4 : Option Addr) (n1 k1 n2 k2 n3 k3 n4 k4 : Nat) (X1 X2 X3 Y1 Y2 Y3 : Option Addr) (xn1 xk1 xn2 xk2 xn3 xk3 yn1 yk1 yn2 yk2 yn3 yk3 : Nat) (x y : Wsh) (Aw : Option Addr) (nw cw : Nat) (wt : List Int) (ag : Nat) (Al : Option Addr) (nl cl : Nat) (l : List Int) (w : World) (hSP : SocP q s A1 n1 A2 n2 A3 n3 A4 n4) (hm : s.okT) (hq : q.Le (all w)) (hSt : StR qx x y (.agg #[.slice X1 xn1 xk1, .slice X2 xn2 xk2, .slice X3 xn3 xk3, .slice Y1 yn1 yk1, .slice Y2 yn2 yk2, .slice Y3 yn3 yk3])) (hqx : qx.Le (all w)) (hw : SlS (all w) 1 Aw nw (intCells wt)) (hnw : nw = wt.length) (hag : ag < 2) (hl : SlS (all w) 1 Al nl (u32Cells l)) (hnl : nl = l.length) (hnl2 : nl ≤ 1000000) (hu : U32s l) :
    Calls Try.prog 10 #[.agg #[.slice A1 n1 k1, .slice A2 n2 k2, .slice A3 n3 k3, .slice A4 n4 k4], .agg #[.slice X1 xn1 xk1, .slice X2 xn2 xk2, .slice X3 xn3 xk3, .slice Y1 yn1 yk1, .slice Y2 yn2 yk2, .slice Y3 yn3 yk3], .slice Aw nw cw, .int .i64 (ag : Int), .slice Al nl cl] w (Rt (actV (decF s x y wt ag l)) w) := by
  generalize hrd : readF s l = rd
  obtain ⟨st, k, id⟩ := rd
  refine XK.enter (vs := [.agg #[.slice A1 n1 k1, .slice A2 n2 k2, .slice A3 n3 k3, .slice A4 n4 k4], .agg #[.slice X1 xn1 xk1, .slice X2 xn2 xk2, .slice X3 xn3 xk3, .slice Y1 yn1 yk1, .slice Y2 yn2 yk2, .slice Y3 yn3 yk3], .slice Aw nw cw, .int .i64 (ag : Int), .slice Al nl cl]) Try.func10 rfl Try.ntmps10 (by simp) ?_
  refine XK.seq ?_
  refine XK.piece qx (by simp) hqx ?_
  refine XK.piece q (by simp) hq ?_

  refine XK.region ?_
  refine xk_box rfl (by decide) fun g1 => ?_
  refine xk_box rfl (by decide) fun g2 => ?_
  refine xk_assign rfl (by decide) ?_
  refine xk_alloc (cs := [.int .u8 0, .int .i64 0]) (zeroB_of (by kernel_rfl)) (by decide) fun g3 => ?_
  refine XK.nilN ?_
  refine XK.seq ?_
  refine XK.cutB 25 (False) ?_ ?_
  · skip

    refine XK.region ?_
    refine xk_move rfl (by decide) ?_
    refine xk_lss rfl rfl (by decide) ?_
    refine xk_move rfl (by decide) ?_
    (first | refine xk_split (t := 17) rfl (fun hg => ?_) (fun hg => ?_) | refine xk_splitB (t := 17) rfl (fun hg => ?_) (fun hg => ?_))
    ·
      refine xk_guardF rfl rfl rfl (by decide) ?_
      refine xk_guardF rfl rfl rfl (by decide) ?_
      (first | refine xk_pickT rfl rfl (by decide) ?_ | refine xk_pickF rfl rfl (by decide) ?_)
      refine xk_move rfl (by decide) ?_
      refine xk_guardF rfl rfl rfl (by decide) ?_
      refine xk_guardF rfl rfl rfl (by decide) ?_
      refine xk_guardF rfl rfl rfl (by decide) ?_
      (first | refine xk_pickT rfl rfl (by decide) ?_ | refine xk_pickF rfl rfl (by decide) ?_)
      refine XK.nilN ?_
      exact XK.meetB (by repeat (first | exact trivial | refine ⟨rfl, ?_⟩)) (by first | (refine get_iff rfl ?_; omega) | (refine get_iff rfl ?_; simp_all; done) | (refine get_false rfl ?_; first | omega | (simp_all; done)) | (refine get_true rfl ?_; first | omega | (simp_all; done)) | (refine get_bool rfl ?_; simp_all; done) | (refine get_iff rfl ⟨fun hh => ?_, fun hh => ?_⟩ <;> first | omega | (simp_all; done) | (simp_all; omega)) | (exfalso; omega))
    ·
      refine xk_guardT rfl rfl ?_; refine xk_move rfl (by decide) ?_
      refine xk_guardT rfl rfl ?_; refine xk_geq rfl rfl (by decide) ?_
      (first | refine xk_pickT rfl rfl (by decide) ?_ | refine xk_pickF rfl rfl (by decide) ?_)
      refine xk_move rfl (by decide) ?_
      (first | refine xk_split (t := 21) rfl (fun hg => ?_) (fun hg => ?_) | refine xk_splitB (t := 21) rfl (fun hg => ?_) (fun hg => ?_))
      ·
        refine xk_guardF rfl rfl rfl (by decide) ?_
        refine xk_guardF rfl rfl rfl (by decide) ?_
        refine xk_guardF rfl rfl rfl (by decide) ?_
        (first | refine xk_pickT rfl rfl (by decide) ?_ | refine xk_pickF rfl rfl (by decide) ?_)
        refine XK.nilN ?_
        exact XK.meetB (by repeat (first | exact trivial | refine ⟨rfl, ?_⟩)) (by first | (refine get_iff rfl ?_; omega) | (refine get_iff rfl ?_; simp_all; done) | (refine get_false rfl ?_; first | omega | (simp_all; done)) | (refine get_true rfl ?_; first | omega | (simp_all; done)) | (refine get_bool rfl ?_; simp_all; done) | (refine get_iff rfl ⟨fun hh => ?_, fun hh => ?_⟩ <;> first | omega | (simp_all; done) | (simp_all; omega)) | (exfalso; omega))
      ·
        refine xk_guardT rfl rfl ?_; refine xk_ldN 4 rfl ?_
        refine xk_guardT rfl rfl ?_; refine xk_callR (f := 14) (fi := []) (ca := []) (by kernel_rfl) rfl rfl (by decide) (v0 := .int .i64 0) (fun w1 st => (checkS_any s A1 A2 A3 A4 n1 k1 n2 k2 n3 k3 n4 k4 w1 (hSP.W (st.le (by simp)) hm.small)).mono fun _ _ h => Rt.conv h (by rw [hm.chk])) ?_
        refine xk_guardT rfl rfl ?_; refine xk_neq rfl rfl (by decide) ?_
        (first | refine xk_pickT rfl rfl (by decide) ?_ | refine xk_pickF rfl rfl (by decide) ?_)
        refine XK.nilN ?_
        exact XK.meetB (by repeat (first | exact trivial | refine ⟨rfl, ?_⟩)) (by first | (refine get_iff rfl ?_; omega) | (refine get_iff rfl ?_; simp_all; done) | (refine get_false rfl ?_; first | omega | (simp_all; done)) | (refine get_true rfl ?_; first | omega | (simp_all; done)) | (refine get_bool rfl ?_; simp_all; done) | (refine get_iff rfl ⟨fun hh => ?_, fun hh => ?_⟩ <;> first | omega | (simp_all; done) | (simp_all; omega)) | (exfalso; omega))
  refine XK.cond rfl (fun h => by simp at h) (fun h => ?_)

  ·
    refine XK.skip ?_
    refine XK.norm ?_
    refine XK.seq ?_

    refine XK.region ?_
    refine xk_ldN 4 rfl ?_
    refine xk_move rfl (by decide) ?_
    refine xk_callR (f := 15) (fi := []) (ca := []) (by kernel_rfl) rfl rfl (by decide) (v0 := .tuple #[.int .i32 st, .agg #[.int .u8 k, .int .i64 id]]) (fun w1 st => (read_any s A1 A2 A3 A4 n1 k1 n2 k2 n3 k3 n4 k4 Al nl cl l w1 (hSP.W (st.le (by simp)) hm.small) (hl.le (st.le (by simp))) hnl hnl2 hu).mono fun _ _ h => Rt.conv h (by rw [hrd]; rfl)) ?_
    refine xk_move rfl (by decide) ?_
    refine xk_extract rfl rfl (by decide) ?_
    refine xk_extract rfl rfl (by decide) ?_
    refine xk_alloc (cs := [.int .u8 0, .int .i64 0]) (zeroB_of (by kernel_rfl)) (by decide) fun g4 => ?_
    refine xk_assign rfl (by decide) ?_
    (first | (refine xk_storeN 0 rfl rfl rfl (by kernel_rfl) (by simp [Value.cells, Value.oneCell']) (by simp [Value.cells]) ?_) | (refine xk_storeN 1 rfl rfl rfl (by kernel_rfl) (by simp [Value.cells, Value.oneCell']) (by simp [Value.cells]) ?_) | (refine xk_storeN 2 rfl rfl rfl (by kernel_rfl) (by simp [Value.cells, Value.oneCell']) (by simp [Value.cells]) ?_) | (refine xk_storeN 3 rfl rfl rfl (by kernel_rfl) (by simp [Value.cells, Value.oneCell']) (by simp [Value.cells]) ?_) | (refine xk_storeN 4 rfl rfl rfl (by kernel_rfl) (by simp [Value.cells, Value.oneCell']) (by simp [Value.cells]) ?_) | (refine xk_storeN 5 rfl rfl rfl (by kernel_rfl) (by simp [Value.cells, Value.oneCell']) (by simp [Value.cells]) ?_) | (refine xk_storeN 6 rfl rfl rfl (by kernel_rfl) (by simp [Value.cells, Value.oneCell']) (by simp [Value.cells]) ?_) | (refine xk_storeN 7 rfl rfl rfl (by kernel_rfl) (by simp [Value.cells, Value.oneCell']) (by simp [Value.cells]) ?_) | (refine xk_storeN 8 rfl rfl rfl (by kernel_rfl) (by simp [Value.cells, Value.oneCell']) (by simp [Value.cells]) ?_)); simp only [putN, Value.cells, List.set, List.take, List.drop, List.nil_append, List.append_nil, List.length_cons, List.length_nil, List.cons_append, Nat.reduceAdd]
    refine XK.nilN ?_
    refine XK.seq ?_
    refine XK.cutB 51 (st ≠ 0 ∨ k = 0 ∨ wishF (if ag = 0 then x else y) k id = decide (onB k)) ?_ ?_
    · skip

      refine XK.draw 16 (by kernel_rfl) (by kernel_rfl) ?_
      refine XA.dA 0 rfl rfl rfl (does_move rfl) ?_
      refine XA.dA 1 rfl rfl rfl (does_neq rfl rfl) ?_
      refine XA.dA 2 rfl rfl rfl (does_move rfl) ?_
      (first | refine XA.split (t := 35) rfl (fun hg => ?_) (fun hg => ?_) | refine XA.splitB (t := 35) rfl (fun hg => ?_) (fun hg => ?_))
      ·
        refine XA.dF 3 rfl rfl rfl rfl ?_
        refine XA.dF 4 rfl rfl rfl rfl ?_
        refine XA.dF 5 rfl rfl rfl rfl ?_
        refine XA.dA 6 rfl rfl rfl (by first | exact does_pickT rfl rfl | exact does_pickF rfl rfl) ?_
        refine XA.dA 7 rfl rfl rfl (does_move rfl) ?_
        refine XA.dF 8 rfl rfl rfl rfl ?_
        refine XA.dF 9 rfl rfl rfl rfl ?_
        refine XA.dF 10 rfl rfl rfl rfl ?_
        refine XA.dF 11 rfl rfl rfl rfl ?_
        refine XA.dF 12 rfl rfl rfl rfl ?_
        refine XA.dF 13 rfl rfl rfl rfl ?_
        refine XA.dF 14 rfl rfl rfl rfl ?_
        refine XA.dF 15 rfl rfl rfl rfl ?_
        refine XA.next 16 rfl (by kernel_rfl) ?_
        refine xk_guardF rfl rfl rfl (by decide) ?_
        refine XA.bt ?_
        refine XA.next 17 rfl (by kernel_rfl) ?_
        refine xk_guardF rfl rfl rfl (by decide) ?_
        refine XA.bt ?_
        refine XA.next 18 rfl (by kernel_rfl) ?_
        (first | refine xk_pickT rfl rfl (by decide) ?_ | refine xk_pickF rfl rfl (by decide) ?_)
        refine XA.bt ?_
        refine XA.done (by kernel_rfl) ?_
        refine XK.norm ?_
        exact XK.meetB (by repeat (first | exact trivial | refine ⟨rfl, ?_⟩)) (by first | (refine get_iff rfl ?_; omega) | (refine get_iff rfl ?_; simp_all; done) | (refine get_false rfl ?_; first | omega | (simp_all; done)) | (refine get_true rfl ?_; first | omega | (simp_all; done)) | (refine get_bool rfl ?_; simp_all; done) | (refine get_iff rfl ⟨fun hh => ?_, fun hh => ?_⟩ <;> first | omega | (simp_all; done) | (simp_all; omega)) | (exfalso; omega))
      ·
        refine XA.dT 3 rfl rfl rfl (does_field (off := 0) (by kernel_rfl) rfl) ?_
        refine XA.dT 4 rfl rfl rfl (does_ld rfl) ?_
        refine XA.dT 5 rfl rfl rfl (does_eql rfl rfl) ?_
        refine XA.dA 6 rfl rfl rfl (by first | exact does_pickT rfl rfl | exact does_pickF rfl rfl) ?_
        refine XA.dA 7 rfl rfl rfl (does_move rfl) ?_
        (first | refine XA.split (t := 40) rfl (fun hg => ?_) (fun hg => ?_) | refine XA.splitB (t := 40) rfl (fun hg => ?_) (fun hg => ?_))
        ·
          refine XA.dF 8 rfl rfl rfl rfl ?_
          refine XA.dF 9 rfl rfl rfl rfl ?_
          refine XA.dF 10 rfl rfl rfl rfl ?_
          refine XA.dF 11 rfl rfl rfl rfl ?_
          refine XA.dF 12 rfl rfl rfl rfl ?_
          refine XA.dF 13 rfl rfl rfl rfl ?_
          refine XA.dF 14 rfl rfl rfl rfl ?_
          refine XA.dF 15 rfl rfl rfl rfl ?_
          refine XA.next 16 rfl (by kernel_rfl) ?_
          refine xk_guardF rfl rfl rfl (by decide) ?_
          refine XA.bt ?_
          refine XA.next 17 rfl (by kernel_rfl) ?_
          refine xk_guardF rfl rfl rfl (by decide) ?_
          refine XA.bt ?_
          refine XA.next 18 rfl (by kernel_rfl) ?_
          (first | refine xk_pickT rfl rfl (by decide) ?_ | refine xk_pickF rfl rfl (by decide) ?_)
          refine XA.bt ?_
          refine XA.done (by kernel_rfl) ?_
          refine XK.norm ?_
          exact XK.meetB (by repeat (first | exact trivial | refine ⟨rfl, ?_⟩)) (by first | (refine get_iff rfl ?_; omega) | (refine get_iff rfl ?_; simp_all; done) | (refine get_false rfl ?_; first | omega | (simp_all; done)) | (refine get_true rfl ?_; first | omega | (simp_all; done)) | (refine get_bool rfl ?_; simp_all; done) | (refine get_iff rfl ⟨fun hh => ?_, fun hh => ?_⟩ <;> first | omega | (simp_all; done) | (simp_all; omega)) | (exfalso; omega))
        ·
          refine XA.dT 8 rfl rfl rfl (does_move rfl) ?_
          refine XA.dT 9 rfl rfl rfl (does_field (off := 0) (by kernel_rfl) rfl) ?_
          refine XA.dT 10 rfl rfl rfl (does_ld rfl) ?_
          refine XA.dT 11 rfl rfl rfl (does_field (off := 1) (by kernel_rfl) rfl) ?_
          refine XA.dT 12 rfl rfl rfl (does_ld rfl) ?_
          refine XA.dT 14 rfl rfl rfl (does_field (off := 0) (by kernel_rfl) rfl) ?_
          refine XA.dT 15 rfl rfl rfl (does_ld rfl) ?_
          refine XA.next 13 rfl (by kernel_rfl) ?_
          refine xk_guardT rfl rfl ?_; refine xk_callR (f := 16) (fi := []) (ca := []) (by kernel_rfl) rfl rfl (by decide) (fun w1 st => wishes_any g2 ag (if ag = 0 then x else y) k id w1 hag (StR.box hSt (st.le (by simp)) (st.box (i := 2) rfl) ag hag)) ?_
          refine XA.bk ?_
          refine XA.next 16 rfl (by kernel_rfl) ?_
          refine xk_guardT rfl rfl ?_; refine xk_callR (f := 17) (fi := []) (ca := []) (by kernel_rfl) rfl rfl (by decide) (fun w1 st => on_any k w1) ?_
          refine XA.bt ?_
          refine XA.next 17 rfl (by kernel_rfl) ?_
          refine xk_guardT rfl rfl ?_; refine xk_eqlB (by kernel_rfl) rfl rfl (by decide) ?_
          refine XA.bt ?_
          refine XA.next 18 rfl (by kernel_rfl) ?_
          (first | refine xk_pickT rfl rfl (by decide) ?_ | refine xk_pickF rfl rfl (by decide) ?_)
          refine XA.bt ?_
          refine XA.done (by kernel_rfl) ?_
          refine XK.norm ?_
          exact XK.meetB (by repeat (first | exact trivial | refine ⟨rfl, ?_⟩)) (by first | (refine get_iff rfl ?_; omega) | (refine get_iff rfl ?_; simp_all; done) | (refine get_false rfl ?_; first | omega | (simp_all; done)) | (refine get_true rfl ?_; first | omega | (simp_all; done)) | (refine get_bool rfl ?_; simp_all; done) | (refine get_iff rfl ⟨fun hh => ?_, fun hh => ?_⟩ <;> first | omega | (simp_all; done) | (simp_all; omega)) | (exfalso; omega))
    refine XK.if_ rfl (fun h4 => ?_) (fun h4 => ?_)
    ·
      refine XK.seq ?_

      refine XK.region ?_
      refine xk_move rfl (by decide) ?_
      refine xk_buildS (zs := [.int .u8 0, .int .i64 0]) (L := [(0, 1), (1, 1)]) (zeroB_of (by kernel_rfl)) (by kernel_rfl) rfl (by simp [fillL, setN, Value.cells]; rfl) (by decide) ?_
      refine xk_assign rfl (by decide) ?_
      (first | (refine xk_storeN 0 rfl rfl rfl (by kernel_rfl) (by simp [Value.cells, Value.oneCell']) (by simp [Value.cells]) ?_) | (refine xk_storeN 1 rfl rfl rfl (by kernel_rfl) (by simp [Value.cells, Value.oneCell']) (by simp [Value.cells]) ?_) | (refine xk_storeN 2 rfl rfl rfl (by kernel_rfl) (by simp [Value.cells, Value.oneCell']) (by simp [Value.cells]) ?_) | (refine xk_storeN 3 rfl rfl rfl (by kernel_rfl) (by simp [Value.cells, Value.oneCell']) (by simp [Value.cells]) ?_) | (refine xk_storeN 4 rfl rfl rfl (by kernel_rfl) (by simp [Value.cells, Value.oneCell']) (by simp [Value.cells]) ?_) | (refine xk_storeN 5 rfl rfl rfl (by kernel_rfl) (by simp [Value.cells, Value.oneCell']) (by simp [Value.cells]) ?_) | (refine xk_storeN 6 rfl rfl rfl (by kernel_rfl) (by simp [Value.cells, Value.oneCell']) (by simp [Value.cells]) ?_) | (refine xk_storeN 7 rfl rfl rfl (by kernel_rfl) (by simp [Value.cells, Value.oneCell']) (by simp [Value.cells]) ?_) | (refine xk_storeN 8 rfl rfl rfl (by kernel_rfl) (by simp [Value.cells, Value.oneCell']) (by simp [Value.cells]) ?_)); simp only [putN, Value.cells, List.set, List.take, List.drop, List.nil_append, List.append_nil, List.length_cons, List.length_nil, List.cons_append, Nat.reduceAdd]
      refine XK.nilN ?_
      refine XK.ret ?_
      refine XK.norm ?_
      exact XK.retTC (n := 2) (vs := [.int .u8 0, .int .i64 0]) rfl (by kernel_rfl) rfl rfl (by first | assumption | exact RdN.whole 0 rfl | exact RdN.whole 1 rfl | exact RdN.whole 2 rfl | exact RdN.whole 3 rfl | exact RdN.whole 4 rfl | exact RdN.whole 5 rfl | exact RdN.whole 6 rfl | exact RdN.whole 7 rfl | exact RdN.whole 8 rfl | exact RdN.roc (by simp) (by assumption)) rfl fun w9 st => ⟨by
        rw [decF, hrd]; dsimp only; rw [if_pos h4]; rfl, st.below (by simp)⟩
    ·
      have hst0 : st = 0 := Decidable.byContradiction fun h => h4 (.inl h)
      refine XK.skip ?_
      refine XK.norm ?_
      refine XK.seq ?_
      refine XK.seq ?_

      refine XK.region ?_
      refine xk_field (off := 0) (by kernel_rfl) rfl (by decide) ?_
      refine xk_ld rfl ?_
      refine xk_callR (f := 17) (fi := []) (ca := []) (by kernel_rfl) rfl rfl (by decide) (fun w1 st => on_any k w1) ?_
      refine XK.nilN ?_
      refine XK.if_ rfl (fun h6 => ?_) (fun h6 => ?_)
      ·
        refine XK.seq ?_
        refine XK.seq ?_

        refine XK.region ?_
        refine xk_field (off := 0) (by kernel_rfl) rfl (by decide) ?_
        refine xk_ld rfl ?_
        refine xk_eql rfl rfl (by decide) ?_
        refine XK.nilN ?_
        refine XK.if_ rfl (fun h7 => ?_) (fun h7 => ?_)
        ·
          refine XK.seq ?_
          subst h7
          have hok := readF_ok (s := s) hu
          rw [hrd] at hok
          dsimp only at hok
          rcases hok with hok | ⟨_, _, hid0, hid1, _⟩
          · exact absurd hok.1 (by omega)
          have hid2 : id.toNat < s.domains.length := by rw [show numF s (kPro 117) = s.domains.length from rfl] at hid1; omega
          obtain ⟨d, hd⟩ : ∃ d, s.domains[id.toNat]? = some d := ⟨_, List.getElem?_eq_getElem hid2⟩
          obtain ⟨rfl, rfl, rfl, rfl⟩ := hSP.len
          obtain ⟨bD, oD, rD, rfl, hzD, _, rfl, hcD⟩ := hSP.dom.rowP hd
          have hab : (s.domains[id.toNat]?).any (fun d => decide (d.above ≠ -1) && !wishedF x y 117 d.above) = (decide (d.above ≠ -1) && !wishedF x y 117 d.above) := by rw [hd]; rfl

          refine XK.region ?_
          refine xk_field (off := 1) (by kernel_rfl) rfl (by decide) ?_
          refine xk_ld rfl ?_
          refine xk_field (off := 1) (by kernel_rfl) rfl (by decide) ?_
          refine xk_ld rfl ?_
          refine xk_at id.toNat (oD + id.toNat * 3) (el := 57) (sz := 3) (by kernel_rfl) (by kernel_rfl) rfl rfl (by omega) (by omega) (by omega) (by decide) ?_
          refine xk_field (off := 0) (by kernel_rfl) rfl (by decide) ?_
          refine xk_load (by kernel_rfl) rfl (Rd.ro (p := q) (by simp) hzD (hcD 0 _ rfl)) (by decide) ?_
          refine xk_assign rfl (by decide) ?_
          refine XK.nilN ?_
          refine XK.cutB 73 (d.above ≠ -1 ∧ wishedF x y 117 d.above = false) ?_ ?_
          · skip

            refine XK.region ?_
            refine xk_move rfl (by decide) ?_
            refine xk_neq rfl rfl (by decide) ?_
            refine xk_move rfl (by decide) ?_
            (first | refine xk_split (t := 69) rfl (fun hg => ?_) (fun hg => ?_) | refine xk_splitB (t := 69) rfl (fun hg => ?_) (fun hg => ?_))
            ·
              refine xk_guardT rfl rfl ?_; refine xk_move rfl (by decide) ?_
              refine xk_guardT rfl rfl ?_; refine xk_callR (f := 18) (fi := []) (ca := []) (by kernel_rfl) rfl rfl (by decide) (fun w1 st => wished_any g2 x y 117 d.above w1 (StR.box hSt (st.le (by simp)) (st.box (i := 2) rfl))) ?_
              refine xk_guardT rfl rfl ?_; (first | refine xk_notD rfl (by decide) ?_ | refine xk_not rfl (by decide) ?_)
              (first | refine xk_pickT rfl rfl (by decide) ?_ | refine xk_pickF rfl rfl (by decide) ?_)
              refine XK.nilN ?_
              exact XK.meetB (by repeat (first | exact trivial | refine ⟨rfl, ?_⟩)) (by first | (refine get_iff rfl ?_; omega) | (refine get_iff rfl ?_; simp_all; done) | (refine get_false rfl ?_; first | omega | (simp_all; done)) | (refine get_true rfl ?_; first | omega | (simp_all; done)) | (refine get_bool rfl ?_; simp_all; done) | (refine get_iff rfl ⟨fun hh => ?_, fun hh => ?_⟩ <;> first | omega | (simp_all; done) | (simp_all; omega)) | (exfalso; omega))
            ·
              refine xk_guardF rfl rfl rfl (by decide) ?_
              refine xk_guardF rfl rfl rfl (by decide) ?_
              refine xk_guardF rfl rfl rfl (by decide) ?_
              (first | refine xk_pickT rfl rfl (by decide) ?_ | refine xk_pickF rfl rfl (by decide) ?_)
              refine XK.nilN ?_
              exact XK.meetB (by repeat (first | exact trivial | refine ⟨rfl, ?_⟩)) (by first | (refine get_iff rfl ?_; omega) | (refine get_iff rfl ?_; simp_all; done) | (refine get_false rfl ?_; first | omega | (simp_all; done)) | (refine get_true rfl ?_; first | omega | (simp_all; done)) | (refine get_bool rfl ?_; simp_all; done) | (refine get_iff rfl ⟨fun hh => ?_, fun hh => ?_⟩ <;> first | omega | (simp_all; done) | (simp_all; omega)) | (exfalso; omega))
          refine XK.if_ rfl (fun h9 => ?_) (fun h9 => ?_)
          ·
            refine XK.seq ?_

            refine XK.region ?_
            refine xk_buildS (zs := [.int .u8 0, .int .i64 0]) (L := [(0, 1), (1, 1)]) (zeroB_of (by kernel_rfl)) (by kernel_rfl) rfl (by simp [fillL, setN, Value.cells]; rfl) (by decide) ?_
            refine xk_assign rfl (by decide) ?_
            (first | (refine xk_storeN 0 rfl rfl rfl (by kernel_rfl) (by simp [Value.cells, Value.oneCell']) (by simp [Value.cells]) ?_) | (refine xk_storeN 1 rfl rfl rfl (by kernel_rfl) (by simp [Value.cells, Value.oneCell']) (by simp [Value.cells]) ?_) | (refine xk_storeN 2 rfl rfl rfl (by kernel_rfl) (by simp [Value.cells, Value.oneCell']) (by simp [Value.cells]) ?_) | (refine xk_storeN 3 rfl rfl rfl (by kernel_rfl) (by simp [Value.cells, Value.oneCell']) (by simp [Value.cells]) ?_) | (refine xk_storeN 4 rfl rfl rfl (by kernel_rfl) (by simp [Value.cells, Value.oneCell']) (by simp [Value.cells]) ?_) | (refine xk_storeN 5 rfl rfl rfl (by kernel_rfl) (by simp [Value.cells, Value.oneCell']) (by simp [Value.cells]) ?_) | (refine xk_storeN 6 rfl rfl rfl (by kernel_rfl) (by simp [Value.cells, Value.oneCell']) (by simp [Value.cells]) ?_) | (refine xk_storeN 7 rfl rfl rfl (by kernel_rfl) (by simp [Value.cells, Value.oneCell']) (by simp [Value.cells]) ?_) | (refine xk_storeN 8 rfl rfl rfl (by kernel_rfl) (by simp [Value.cells, Value.oneCell']) (by simp [Value.cells]) ?_)); simp only [putN, Value.cells, List.set, List.take, List.drop, List.nil_append, List.append_nil, List.length_cons, List.length_nil, List.cons_append, Nat.reduceAdd]
            refine XK.nilN ?_
            refine XK.ret ?_
            refine XK.norm ?_
            exact XK.retTC (n := 2) (vs := [.int .u8 0, .int .i64 0]) rfl (by kernel_rfl) rfl rfl (by first | assumption | exact RdN.whole 0 rfl | exact RdN.whole 1 rfl | exact RdN.whole 2 rfl | exact RdN.whole 3 rfl | exact RdN.whole 4 rfl | exact RdN.whole 5 rfl | exact RdN.whole 6 rfl | exact RdN.whole 7 rfl | exact RdN.whole 8 rfl | exact RdN.roc (by simp) (by assumption)) rfl fun w9 st => ⟨by
              rw [decF, hrd]; dsimp only; rw [if_neg h4, if_pos h6, if_pos ⟨rfl, by rw [hab]; simp [h9.1, h9.2]⟩]; rfl, st.below (by simp)⟩
          ·
            refine XK.skip ?_
            refine XK.norm ?_
            refine XK.seq ?_
            subst hst0

            refine XK.draw 2 (by kernel_rfl) (by kernel_rfl) ?_
            refine XA.dA 0 rfl rfl rfl (does_ldN 2 rfl) ?_
            refine XA.dA 1 rfl rfl rfl (does_assign rfl) ?_
            refine XA.next 2 rfl (by kernel_rfl) ?_
            (first | (refine xk_storeN 0 rfl rfl rfl (by kernel_rfl) (by simp [Value.cells, Value.oneCell']) (by simp [Value.cells]) ?_) | (refine xk_storeN 1 rfl rfl rfl (by kernel_rfl) (by simp [Value.cells, Value.oneCell']) (by simp [Value.cells]) ?_) | (refine xk_storeN 2 rfl rfl rfl (by kernel_rfl) (by simp [Value.cells, Value.oneCell']) (by simp [Value.cells]) ?_) | (refine xk_storeN 3 rfl rfl rfl (by kernel_rfl) (by simp [Value.cells, Value.oneCell']) (by simp [Value.cells]) ?_) | (refine xk_storeN 4 rfl rfl rfl (by kernel_rfl) (by simp [Value.cells, Value.oneCell']) (by simp [Value.cells]) ?_) | (refine xk_storeN 5 rfl rfl rfl (by kernel_rfl) (by simp [Value.cells, Value.oneCell']) (by simp [Value.cells]) ?_) | (refine xk_storeN 6 rfl rfl rfl (by kernel_rfl) (by simp [Value.cells, Value.oneCell']) (by simp [Value.cells]) ?_) | (refine xk_storeN 7 rfl rfl rfl (by kernel_rfl) (by simp [Value.cells, Value.oneCell']) (by simp [Value.cells]) ?_) | (refine xk_storeN 8 rfl rfl rfl (by kernel_rfl) (by simp [Value.cells, Value.oneCell']) (by simp [Value.cells]) ?_)); simp only [putN, Value.cells, List.set, List.take, List.drop, List.nil_append, List.append_nil, List.length_cons, List.length_nil, List.cons_append, Nat.reduceAdd]
            refine XA.bt ?_
            refine XA.done (by kernel_rfl) ?_
            refine XK.norm ?_
            refine XK.ret ?_
            refine XK.norm ?_
            exact XK.retTC (n := 2) (vs := [.int .u8 117, .int .i64 id]) rfl (by kernel_rfl) rfl rfl (by first | assumption | exact RdN.whole 0 rfl | exact RdN.whole 1 rfl | exact RdN.whole 2 rfl | exact RdN.whole 3 rfl | exact RdN.whole 4 rfl | exact RdN.whole 5 rfl | exact RdN.whole 6 rfl | exact RdN.whole 7 rfl | exact RdN.whole 8 rfl | exact RdN.roc (by simp) (by assumption)) rfl fun w9 st => ⟨by
              rw [decF, hrd]; dsimp only; rw [if_neg h4, if_pos h6, if_neg (fun hh => h9 (by have h' := hh.2; rw [hab] at h'; simpa using h'))]; rfl, st.below (by simp)⟩
        ·
          refine XK.skip ?_
          refine XK.norm ?_
          refine XK.seq ?_
          subst hst0

          refine XK.draw 2 (by kernel_rfl) (by kernel_rfl) ?_
          refine XA.dA 0 rfl rfl rfl (does_ldN 2 rfl) ?_
          refine XA.dA 1 rfl rfl rfl (does_assign rfl) ?_
          refine XA.next 2 rfl (by kernel_rfl) ?_
          (first | (refine xk_storeN 0 rfl rfl rfl (by kernel_rfl) (by simp [Value.cells, Value.oneCell']) (by simp [Value.cells]) ?_) | (refine xk_storeN 1 rfl rfl rfl (by kernel_rfl) (by simp [Value.cells, Value.oneCell']) (by simp [Value.cells]) ?_) | (refine xk_storeN 2 rfl rfl rfl (by kernel_rfl) (by simp [Value.cells, Value.oneCell']) (by simp [Value.cells]) ?_) | (refine xk_storeN 3 rfl rfl rfl (by kernel_rfl) (by simp [Value.cells, Value.oneCell']) (by simp [Value.cells]) ?_) | (refine xk_storeN 4 rfl rfl rfl (by kernel_rfl) (by simp [Value.cells, Value.oneCell']) (by simp [Value.cells]) ?_) | (refine xk_storeN 5 rfl rfl rfl (by kernel_rfl) (by simp [Value.cells, Value.oneCell']) (by simp [Value.cells]) ?_) | (refine xk_storeN 6 rfl rfl rfl (by kernel_rfl) (by simp [Value.cells, Value.oneCell']) (by simp [Value.cells]) ?_) | (refine xk_storeN 7 rfl rfl rfl (by kernel_rfl) (by simp [Value.cells, Value.oneCell']) (by simp [Value.cells]) ?_) | (refine xk_storeN 8 rfl rfl rfl (by kernel_rfl) (by simp [Value.cells, Value.oneCell']) (by simp [Value.cells]) ?_)); simp only [putN, Value.cells, List.set, List.take, List.drop, List.nil_append, List.append_nil, List.length_cons, List.length_nil, List.cons_append, Nat.reduceAdd]
          refine XA.bt ?_
          refine XA.done (by kernel_rfl) ?_
          refine XK.norm ?_
          refine XK.ret ?_
          refine XK.norm ?_
          exact XK.retTC (n := 2) (vs := [.int .u8 k, .int .i64 id]) rfl (by kernel_rfl) rfl rfl (by first | assumption | exact RdN.whole 0 rfl | exact RdN.whole 1 rfl | exact RdN.whole 2 rfl | exact RdN.whole 3 rfl | exact RdN.whole 4 rfl | exact RdN.whole 5 rfl | exact RdN.whole 6 rfl | exact RdN.whole 7 rfl | exact RdN.whole 8 rfl | exact RdN.roc (by simp) (by assumption)) rfl fun w9 st => ⟨by
            rw [decF, hrd]; dsimp only; rw [if_neg h4, if_pos h6, if_neg (fun hh => h7 hh.1)]; rfl, st.below (by simp)⟩
      ·
        refine XK.skip ?_
        refine XK.norm ?_
        refine XK.seq ?_
        refine XK.seq ?_

        refine XK.region ?_
        refine xk_ldN 4 rfl ?_
        refine xk_ldN 6 rfl ?_
        refine xk_move rfl (by decide) ?_
        refine xk_ldN 2 rfl ?_
        refine xk_callR (f := 19) (fi := []) (ca := []) (by kernel_rfl) rfl rfl (by decide) (fun w1 st => denied_any q qx s A1 A2 A3 A4 n1 k1 n2 k2 n3 k3 n4 k4 X1 X2 X3 Y1 Y2 Y3 xn1 xk1 xn2 xk2 xn3 xk3 yn1 yk1 yn2 yk2 yn3 yk3 x y ag k id w1 hSP hm (st.le (by simp)) hSt (st.le (by simp)) hag) ?_
        refine XK.nilN ?_
        refine XK.cond rfl (fun h12 => ?_) (fun h12 => ?_)
        ·
          refine XK.seq ?_

          refine XK.region ?_
          refine xk_buildS (zs := [.int .u8 0, .int .i64 0]) (L := [(0, 1), (1, 1)]) (zeroB_of (by kernel_rfl)) (by kernel_rfl) rfl (by simp [fillL, setN, Value.cells]; rfl) (by decide) ?_
          refine xk_assign rfl (by decide) ?_
          (first | (refine xk_storeN 0 rfl rfl rfl (by kernel_rfl) (by simp [Value.cells, Value.oneCell']) (by simp [Value.cells]) ?_) | (refine xk_storeN 1 rfl rfl rfl (by kernel_rfl) (by simp [Value.cells, Value.oneCell']) (by simp [Value.cells]) ?_) | (refine xk_storeN 2 rfl rfl rfl (by kernel_rfl) (by simp [Value.cells, Value.oneCell']) (by simp [Value.cells]) ?_) | (refine xk_storeN 3 rfl rfl rfl (by kernel_rfl) (by simp [Value.cells, Value.oneCell']) (by simp [Value.cells]) ?_) | (refine xk_storeN 4 rfl rfl rfl (by kernel_rfl) (by simp [Value.cells, Value.oneCell']) (by simp [Value.cells]) ?_) | (refine xk_storeN 5 rfl rfl rfl (by kernel_rfl) (by simp [Value.cells, Value.oneCell']) (by simp [Value.cells]) ?_) | (refine xk_storeN 6 rfl rfl rfl (by kernel_rfl) (by simp [Value.cells, Value.oneCell']) (by simp [Value.cells]) ?_) | (refine xk_storeN 7 rfl rfl rfl (by kernel_rfl) (by simp [Value.cells, Value.oneCell']) (by simp [Value.cells]) ?_) | (refine xk_storeN 8 rfl rfl rfl (by kernel_rfl) (by simp [Value.cells, Value.oneCell']) (by simp [Value.cells]) ?_)); simp only [putN, Value.cells, List.set, List.take, List.drop, List.nil_append, List.append_nil, List.length_cons, List.length_nil, List.cons_append, Nat.reduceAdd]
          refine XK.nilN ?_
          refine XK.ret ?_
          refine XK.norm ?_
          exact XK.retTC (n := 2) (vs := [.int .u8 0, .int .i64 0]) rfl (by kernel_rfl) rfl rfl (by first | assumption | exact RdN.whole 0 rfl | exact RdN.whole 1 rfl | exact RdN.whole 2 rfl | exact RdN.whole 3 rfl | exact RdN.whole 4 rfl | exact RdN.whole 5 rfl | exact RdN.whole 6 rfl | exact RdN.whole 7 rfl | exact RdN.whole 8 rfl | exact RdN.roc (by simp) (by assumption)) rfl fun w9 st => ⟨by
            rw [decF, hrd]; dsimp only; rw [if_neg h4, if_neg h6, if_pos h12]; rfl, st.below (by simp)⟩
        ·
          refine XK.skip ?_
          refine XK.norm ?_
          refine XK.seq ?_
          refine XK.seq ?_

          refine XK.region ?_
          refine xk_ldN 4 rfl ?_
          refine xk_move rfl (by decide) ?_
          refine xk_ldN 2 rfl ?_
          refine xk_callR (f := 20) (fi := []) (ca := []) (by kernel_rfl) rfl rfl (by decide) (fun w1 st => busy_any q s A1 A2 A3 A4 n1 k1 n2 k2 n3 k3 n4 k4 Aw nw cw wt k id w1 hSP hm (st.le (by simp)) (hw.le (st.le (by simp))) hnw) ?_
          refine XK.nilN ?_
          refine XK.cond rfl (fun h14 => ?_) (fun h14 => ?_)
          ·
            refine XK.seq ?_

            refine XK.region ?_
            refine xk_buildS (zs := [.int .u8 0, .int .i64 0]) (L := [(0, 1), (1, 1)]) (zeroB_of (by kernel_rfl)) (by kernel_rfl) rfl (by simp [fillL, setN, Value.cells]; rfl) (by decide) ?_
            refine xk_assign rfl (by decide) ?_
            (first | (refine xk_storeN 0 rfl rfl rfl (by kernel_rfl) (by simp [Value.cells, Value.oneCell']) (by simp [Value.cells]) ?_) | (refine xk_storeN 1 rfl rfl rfl (by kernel_rfl) (by simp [Value.cells, Value.oneCell']) (by simp [Value.cells]) ?_) | (refine xk_storeN 2 rfl rfl rfl (by kernel_rfl) (by simp [Value.cells, Value.oneCell']) (by simp [Value.cells]) ?_) | (refine xk_storeN 3 rfl rfl rfl (by kernel_rfl) (by simp [Value.cells, Value.oneCell']) (by simp [Value.cells]) ?_) | (refine xk_storeN 4 rfl rfl rfl (by kernel_rfl) (by simp [Value.cells, Value.oneCell']) (by simp [Value.cells]) ?_) | (refine xk_storeN 5 rfl rfl rfl (by kernel_rfl) (by simp [Value.cells, Value.oneCell']) (by simp [Value.cells]) ?_) | (refine xk_storeN 6 rfl rfl rfl (by kernel_rfl) (by simp [Value.cells, Value.oneCell']) (by simp [Value.cells]) ?_) | (refine xk_storeN 7 rfl rfl rfl (by kernel_rfl) (by simp [Value.cells, Value.oneCell']) (by simp [Value.cells]) ?_) | (refine xk_storeN 8 rfl rfl rfl (by kernel_rfl) (by simp [Value.cells, Value.oneCell']) (by simp [Value.cells]) ?_)); simp only [putN, Value.cells, List.set, List.take, List.drop, List.nil_append, List.append_nil, List.length_cons, List.length_nil, List.cons_append, Nat.reduceAdd]
            refine XK.nilN ?_
            refine XK.ret ?_
            refine XK.norm ?_
            exact XK.retTC (n := 2) (vs := [.int .u8 0, .int .i64 0]) rfl (by kernel_rfl) rfl rfl (by first | assumption | exact RdN.whole 0 rfl | exact RdN.whole 1 rfl | exact RdN.whole 2 rfl | exact RdN.whole 3 rfl | exact RdN.whole 4 rfl | exact RdN.whole 5 rfl | exact RdN.whole 6 rfl | exact RdN.whole 7 rfl | exact RdN.whole 8 rfl | exact RdN.roc (by simp) (by assumption)) rfl fun w9 st => ⟨by
              rw [decF, hrd]; dsimp only; rw [if_neg h4, if_neg h6, if_neg (by rw [h12]; exact Bool.false_ne_true), if_pos h14]; rfl, st.below (by simp)⟩
          ·
            refine XK.skip ?_
            refine XK.norm ?_
            refine XK.seq ?_
            subst hst0

            refine XK.draw 2 (by kernel_rfl) (by kernel_rfl) ?_
            refine XA.dA 0 rfl rfl rfl (does_ldN 2 rfl) ?_
            refine XA.dA 1 rfl rfl rfl (does_assign rfl) ?_
            refine XA.next 2 rfl (by kernel_rfl) ?_
            (first | (refine xk_storeN 0 rfl rfl rfl (by kernel_rfl) (by simp [Value.cells, Value.oneCell']) (by simp [Value.cells]) ?_) | (refine xk_storeN 1 rfl rfl rfl (by kernel_rfl) (by simp [Value.cells, Value.oneCell']) (by simp [Value.cells]) ?_) | (refine xk_storeN 2 rfl rfl rfl (by kernel_rfl) (by simp [Value.cells, Value.oneCell']) (by simp [Value.cells]) ?_) | (refine xk_storeN 3 rfl rfl rfl (by kernel_rfl) (by simp [Value.cells, Value.oneCell']) (by simp [Value.cells]) ?_) | (refine xk_storeN 4 rfl rfl rfl (by kernel_rfl) (by simp [Value.cells, Value.oneCell']) (by simp [Value.cells]) ?_) | (refine xk_storeN 5 rfl rfl rfl (by kernel_rfl) (by simp [Value.cells, Value.oneCell']) (by simp [Value.cells]) ?_) | (refine xk_storeN 6 rfl rfl rfl (by kernel_rfl) (by simp [Value.cells, Value.oneCell']) (by simp [Value.cells]) ?_) | (refine xk_storeN 7 rfl rfl rfl (by kernel_rfl) (by simp [Value.cells, Value.oneCell']) (by simp [Value.cells]) ?_) | (refine xk_storeN 8 rfl rfl rfl (by kernel_rfl) (by simp [Value.cells, Value.oneCell']) (by simp [Value.cells]) ?_)); simp only [putN, Value.cells, List.set, List.take, List.drop, List.nil_append, List.append_nil, List.length_cons, List.length_nil, List.cons_append, Nat.reduceAdd]
            refine XA.bt ?_
            refine XA.done (by kernel_rfl) ?_
            refine XK.norm ?_
            refine XK.ret ?_
            refine XK.norm ?_
            exact XK.retTC (n := 2) (vs := [.int .u8 k, .int .i64 id]) rfl (by kernel_rfl) rfl rfl (by first | assumption | exact RdN.whole 0 rfl | exact RdN.whole 1 rfl | exact RdN.whole 2 rfl | exact RdN.whole 3 rfl | exact RdN.whole 4 rfl | exact RdN.whole 5 rfl | exact RdN.whole 6 rfl | exact RdN.whole 7 rfl | exact RdN.whole 8 rfl | exact RdN.roc (by simp) (by assumption)) rfl fun w9 st => ⟨by
              rw [decF, hrd]; dsimp only; rw [if_neg h4, if_neg h6, if_neg (by rw [h12]; exact Bool.false_ne_true), if_neg (by rw [h14]; exact Bool.false_ne_true)]; rfl, st.below (by simp)⟩

end Go.Proofs.Ytbcfbafpeidifaa
/- package table: what is wished then. No walk in sight. -/
namespace Go.Proofs.Ytbcfbafpeidifaa
set_option linter.all false
open Go.RowKit
def setBL (l : List Bool) (id : Int) (b : Bool) : List Bool := if 0 ≤ id ∧ id < (l.length : Int) then l.set id.toNat b else l
theorem setBL_out {l : List Bool} {id : Int} (b : Bool) (h : ¬ (0 ≤ id ∧ id < (l.length : Int))) : setBL l id b = l := if_neg h
theorem setBL_len (l : List Bool) (id : Int) (b : Bool) : (setBL l id b).length = l.length := by unfold setBL; split <;> simp
def setW (x : Wsh) (k id : Int) : Wsh :=
  if k = 117 ∨ k = 100 ∨ k = 107 then ⟨setBL x.d id (decide (onB k)), x.c, x.l⟩
  else if k = 99 ∨ k = 111 then ⟨x.d, setBL x.c id (decide (onB k)), x.l⟩
  else if k = 114 ∨ k = 97 then ⟨x.d, x.c, setBL x.l id (decide (onB k))⟩ else x
def doneX (x : Wsh) (ag : Nat) (k id : Int) : Wsh := if ag = 0 then setW x k id else x
def doneY (y : Wsh) (ag : Nat) (k id : Int) : Wsh := if ag = 0 then y else setW y k id
theorem boolCells_setB {l : List Bool} {id : Int} (b : Bool) (h : 0 ≤ id ∧ id < (l.length : Int)) : (boolCells l).set id.toNat (.bool b) = boolCells (setBL l id b) := by
  rw [setBL, if_pos h]
  simp [boolCells, List.map_set]
section
variable {N : Nat} {w0 w : World} {e : Env} {R : List Piece} {H : List HP} {K : Act → World → Prop}
theorem St.ownRd (st : St w0 R H w) {i n c sz : Nat} {t : TypeId} {A : Option Addr} {xs : List Value} (hi : H[i]? = some (HP.own t sz (.slice A n c) n xs)) (hn : 0 < n) : ∃ g, A = some ⟨g, 0, none⟩ := by
  obtain ⟨_, h2⟩ := st.own hi
  rcases h2 with ⟨h2, h3⟩ | ⟨g', cap, cur, hv, _⟩
  · omega
  · injection hv with h4 h5 h6
    exact ⟨g', h4⟩
/-- an own row that is not empty lies in a block -/
theorem XK.ownAt (i : Nat) {n c sz : Nat} {t : TypeId} {A : Option Addr} {xs : List Value} (hi : H[i]? = some (HP.own t sz (.slice A n c) n xs)) (hn : 0 < n) (h : (∃ g, A = some ⟨g, 0, none⟩) → XK N w0 K e R H) : XK N w0 K e R H := fun a w hr st => h (st.ownRd hi hn) a w hr st
end
end Go.Proofs.Ytbcfbafpeidifaa
